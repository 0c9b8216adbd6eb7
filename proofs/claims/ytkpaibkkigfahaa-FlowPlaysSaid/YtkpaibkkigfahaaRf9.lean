/- chapter 19: looks. -/
import Derived.Test.YtkpaibkkigfahaaRfB
import Derived.Test.YtkpaibkkigfahaaFl11
namespace Go.Proofs.Ytkpaibkkigfahaa.Fl
open Go.RowKit Go.Proofs.YtkpaibkkigfahaaW.PrintWords Go.Proofs.YtkpaibkkigfahaaW.PrintLast Go.Proofs.YtkpaibkkigfahaaW.PrintMore Go.Proofs.Ytkpaibkkigfahaa.Bs Go.Proofs.Ytkpaibkkigfahaa.Fr Go.Proofs.Ytkpaibkkigfahaa.Mp Go.Proofs.Ytkpaibkkigfahaa.Srt
open Go.Proofs.Ytkpaibkkigfahaa.PFlowPlays Go.Proofs.Ytkpaibkkigfahaa.FlP
set_option linter.unusedVariables false
set_option linter.unusedSimpArgs false
theorem eql_self (x : S46) {o : Oper} {a : Act} {p q : Operand} (ho : o.op = .binOp .eql 46 p q 46) (hp : a.eval p = (.agg #[.int .i64 x.f0, .int .u32 x.f1.f0, .int .i64 x.f1.f1, .int .u32 x.f2.f0, .int .i64 x.f2.f1, .int .i64 x.f3, .int .i64 x.f4, .int .i64 x.f5])) (hq : a.eval q = (.agg #[.int .i64 x.f0, .int .u32 x.f1.f0, .int .i64 x.f1.f1, .int .u32 x.f2.f0, .int .i64 x.f2.f1, .int .i64 x.f3, .int .i64 x.f4, .int .i64 x.f5])) (w : World) :
    (execOp a.eval o).run Try.prog w = .ok (.value (.bool true)) w := by
  have h := eql_run x x ho hp hq w
  rw [(eqS_iff x x).2 rfl] at h
  exact h
set_option maxHeartbeats 8000000 in
set_option maxRecDepth 100000 in
theorem looks_calls (w : World) (B0 g b B1 gR : Nat) (M : List S46) (hF : FT w B0 g b M) (hR : RF w B1 gR M) (hM : M.length ≤ 10000) (f : S46) (hok : okK (keyF f)) :
    Calls Try.prog 34 #[.pointer (some ⟨g, 0, none⟩), .pointer (some ⟨gR, 0, none⟩), valF f] w fun e w' => e = .returned (.bool true) ∧ Below w.heap.size w w' := by
  have B1' := Aside0.mk (below_alloc (Below.refl w.heap.size w) (BX f))
  have X1 := Aside0.mk (blk_new w (BX f))
  have F1 := Aside0.mk (hF.below B1'.out)
  have R1 := Aside0.mk (hR.below B1'.out)
  have HML := Aside0.mk hM
  have HOK := Aside0.mk hok
  have SRT := Aside0.mk hF.srt
  obtain ⟨y, hy⟩ := found_agg (getM M (keyF f))
  have HY := Aside0.mk hy
  have HG1 := Aside0.mk (Get_calls _ B0 g b M F1.out f.f0 f.f1.f0 f.f1.f1 f.f2.f0 f.f2.f1 hok)
  clear hF hR hM hok hy
  unfold BX at B1' X1 F1 R1 HG1
  unfold valF
  go_enter Try.func34, Try.ntmps34
  go_wp2_with fail
  refine HG1.out.mono ?_
  rintro e w2 ⟨rfl, hb2⟩
  rw [show (f.f0, f.f1.f0, f.f1.f1, f.f2.f0, f.f2.f1) = keyF f from rfl, HY.out]
  have B2 := Aside0.mk (below_step B1'.out hb2)
  have X2 := Aside0.mk (blk_alloc (blk_below X1.out hb2) (.cells #[.int .i64 y.f0, .int .u32 y.f1.f0, .int .i64 y.f1.f1, .int .u32 y.f2.f0, .int .i64 y.f2.f1, .int .i64 y.f3, .int .i64 y.f4, .int .i64 y.f5] 46))
  have F2 := Aside0.mk ((F1.out.below hb2).below (below_alloc (Below.refl w2.heap.size w2) (.cells #[.int .i64 y.f0, .int .u32 y.f1.f0, .int .i64 y.f1.f1, .int .u32 y.f2.f0, .int .i64 y.f2.f1, .int .i64 y.f3, .int .i64 y.f4, .int .i64 y.f5] 46)))
  have R2 := Aside0.mk ((R1.out.below hb2).below (below_alloc (Below.refl w2.heap.size w2) (.cells #[.int .i64 y.f0, .int .u32 y.f1.f0, .int .i64 y.f1.f1, .int .u32 y.f2.f0, .int .i64 y.f2.f1, .int .i64 y.f3, .int .i64 y.f4, .int .i64 y.f5] 46)))
  have B2a := Aside0.mk ((below_step B1'.out hb2).alloc (below_step B1'.out hb2).size (.cells #[.int .i64 y.f0, .int .u32 y.f1.f0, .int .i64 y.f1.f1, .int .u32 y.f2.f0, .int .i64 y.f2.f1, .int .i64 y.f3, .int .i64 y.f4, .int .i64 y.f5] 46))
  have Y2 := Aside0.mk (blk_new w2 (.cells #[.int .i64 y.f0, .int .u32 y.f1.f0, .int .i64 y.f1.f1, .int .u32 y.f2.f0, .int .i64 y.f2.f1, .int .i64 y.f3, .int .i64 y.f4, .int .i64 y.f5] 46))
  clear hb2 F1 R1 X1 HG1
  go_upto_region 2 with fail
  generalize hw3 : w2.alloc (.cells #[.int .i64 y.f0, .int .u32 y.f1.f0, .int .i64 y.f1.f1, .int .u32 y.f2.f0, .int .i64 y.f2.f1, .int .i64 y.f3, .int .i64 y.f4, .int .i64 y.f5] 46) = w3 at *
  have c0 : w3.cell? ⟨w.heap.size, 0, none⟩ = some (.int .i64 f.f0) := blk_cell X2.out 0
  have c1 : w3.cell? ⟨w.heap.size, 1, none⟩ = some (.int .u32 f.f1.f0) := blk_cell X2.out 1
  have c2 : w3.cell? ⟨w.heap.size, 2, none⟩ = some (.int .i64 f.f1.f1) := blk_cell X2.out 2
  have c3 : w3.cell? ⟨w.heap.size, 3, none⟩ = some (.int .u32 f.f2.f0) := blk_cell X2.out 3
  have c4 : w3.cell? ⟨w.heap.size, 4, none⟩ = some (.int .i64 f.f2.f1) := blk_cell X2.out 4
  obtain ⟨q7, hq7⟩ : ∃ q7, q7 = w2.heap.size := ⟨_, rfl⟩
  rw [← hq7] at Y2 ⊢
  clear hw3 hq7
  go_wp2_with fail
  refine (RGet_calls _ B1 gR M R2.out (Nat.le_trans HML.out (by decide)) SRT.out f.f0 f.f1.f0 f.f1.f1 f.f2.f0 f.f2.f1).mono ?_
  rintro e w4 ⟨rfl, hb4⟩
  rw [show (f.f0, f.f1.f0, f.f1.f1, f.f2.f0, f.f2.f1) = keyF f from rfl, HY.out]
  have B5 := Aside0.mk ((below_step B2a.out hb4).alloc (below_step B2a.out hb4).size (.cells #[.int .i64 y.f0, .int .u32 y.f1.f0, .int .i64 y.f1.f1, .int .u32 y.f2.f0, .int .i64 y.f2.f1, .int .i64 y.f3, .int .i64 y.f4, .int .i64 y.f5] 46))
  have X5 := Aside0.mk (blk_alloc (blk_below X2.out hb4) (.cells #[.int .i64 y.f0, .int .u32 y.f1.f0, .int .i64 y.f1.f1, .int .u32 y.f2.f0, .int .i64 y.f2.f1, .int .i64 y.f3, .int .i64 y.f4, .int .i64 y.f5] 46))
  have Y5 := Aside0.mk (blk_alloc (blk_below Y2.out hb4) (.cells #[.int .i64 y.f0, .int .u32 y.f1.f0, .int .i64 y.f1.f1, .int .u32 y.f2.f0, .int .i64 y.f2.f1, .int .i64 y.f3, .int .i64 y.f4, .int .i64 y.f5] 46))
  have Z5 := Aside0.mk (blk_new w4 (.cells #[.int .i64 y.f0, .int .u32 y.f1.f0, .int .i64 y.f1.f1, .int .u32 y.f2.f0, .int .i64 y.f2.f1, .int .i64 y.f3, .int .i64 y.f4, .int .i64 y.f5] 46))
  have F5 := Aside0.mk ((F2.out.below hb4).below (below_alloc (Below.refl w4.heap.size w4) (.cells #[.int .i64 y.f0, .int .u32 y.f1.f0, .int .i64 y.f1.f1, .int .u32 y.f2.f0, .int .i64 y.f2.f1, .int .i64 y.f3, .int .i64 y.f4, .int .i64 y.f5] 46)))
  have R5 := Aside0.mk ((R2.out.below hb4).below (below_alloc (Below.refl w4.heap.size w4) (.cells #[.int .i64 y.f0, .int .u32 y.f1.f0, .int .i64 y.f1.f1, .int .u32 y.f2.f0, .int .i64 y.f2.f1, .int .i64 y.f3, .int .i64 y.f4, .int .i64 y.f5] 46)))
  clear hb4 c0 c1 c2 c3 c4 X2 Y2 F2 R2 B2 B2a
  go_upto_region 3 with fail
  generalize w4.alloc (.cells #[.int .i64 y.f0, .int .u32 y.f1.f0, .int .i64 y.f1.f1, .int .u32 y.f2.f0, .int .i64 y.f2.f1, .int .i64 y.f3, .int .i64 y.f4, .int .i64 y.f5] 46) = w5 at *
  generalize w4.heap.size = q9 at *
  generalize hasM M (keyF f) = hs at *
  obtain ⟨A, c, kg, hC, _⟩ := R5.out.look
  have KG := Aside0.mk kg
  have C5 := Aside0.mk hC
  clear kg hC
  have Ds := Aside0.mk (Below.refl w5.heap.size w5).drew
  have LQO := Aside0.mk (Nat.le_trans (List.length_filter_le (fun f_1 : S46 => f_1.f0 == f.f0 && (f_1.f1.f0 == f.f1.f0 && (f_1.f1.f1 == f.f1.f1))) M) (Nat.le_trans HML.out (show 10000 ≤ 1000000 by decide)))
  have LQD := Aside0.mk (Nat.le_trans (List.length_filter_le (fun f_1 : S46 => decide (f_1.f3 ≤ f.f3)) M) (Nat.le_trans HML.out (show 10000 ≤ 1000000 by decide)))
  refine start_ (n := 57) (S := fun w' => w'.cell? ⟨gR, 0, none⟩ = some (.slice A M.length c) ∧ w'.cell? ⟨w.heap.size, 0, none⟩ = some (.int .i64 f.f0) ∧ w'.cell? ⟨w.heap.size, 1, none⟩ = some (.int .u32 f.f1.f0) ∧ w'.cell? ⟨w.heap.size, 2, none⟩ = some (.int .i64 f.f1.f1) ∧ w'.cell? ⟨w.heap.size, 3, none⟩ = some (.int .u32 f.f2.f0) ∧ w'.cell? ⟨w.heap.size, 4, none⟩ = some (.int .i64 f.f2.f1) ∧ w'.cell? ⟨w.heap.size, 5, none⟩ = some (.int .i64 f.f3) ∧ w'.cell? ⟨q7, 0, none⟩ = some (.int .i64 y.f0) ∧ w'.cell? ⟨q7, 1, none⟩ = some (.int .u32 y.f1.f0) ∧ w'.cell? ⟨q7, 2, none⟩ = some (.int .i64 y.f1.f1) ∧ w'.cell? ⟨q7, 3, none⟩ = some (.int .u32 y.f2.f0) ∧ w'.cell? ⟨q7, 4, none⟩ = some (.int .i64 y.f2.f1) ∧ w'.cell? ⟨q7, 5, none⟩ = some (.int .i64 y.f3) ∧ w'.cell? ⟨q7, 6, none⟩ = some (.int .i64 y.f4) ∧ w'.cell? ⟨q7, 7, none⟩ = some (.int .i64 y.f5) ∧ w'.cell? ⟨q9, 0, none⟩ = some (.int .i64 y.f0) ∧ w'.cell? ⟨q9, 1, none⟩ = some (.int .u32 y.f1.f0) ∧ w'.cell? ⟨q9, 2, none⟩ = some (.int .i64 y.f1.f1) ∧ w'.cell? ⟨q9, 3, none⟩ = some (.int .u32 y.f2.f0) ∧ w'.cell? ⟨q9, 4, none⟩ = some (.int .i64 y.f2.f1) ∧ w'.cell? ⟨q9, 5, none⟩ = some (.int .i64 y.f3) ∧ w'.cell? ⟨q9, 6, none⟩ = some (.int .i64 y.f4) ∧ w'.cell? ⟨q9, 7, none⟩ = some (.int .i64 y.f5)) (ds := []) #[false, false, false, false, false, false, false, false, false, false, false, false, false, false, false, false, false, false, false, false, false, false, false, false, false, false, false, false, false, false, false, false, false, false, false, false, false, false, false, false, false, false, false, false, false, false, false, false, false, false, false, false, false, false, false, false, false] (by kernel_rfl) rfl rfl ⟨KG.out, (blk_cell X5.out 0), (blk_cell X5.out 1), (blk_cell X5.out 2), (blk_cell X5.out 3), (blk_cell X5.out 4), (blk_cell X5.out 5), (blk_cell Y5.out 0), (blk_cell Y5.out 1), (blk_cell Y5.out 2), (blk_cell Y5.out 3), (blk_cell Y5.out 4), (blk_cell Y5.out 5), (blk_cell Y5.out 6), (blk_cell Y5.out 7), (blk_cell Z5.out 0), (blk_cell Z5.out 1), (blk_cell Z5.out 2), (blk_cell Z5.out 3), (blk_cell Z5.out 4), (blk_cell Z5.out 5), (blk_cell Z5.out 6), (blk_cell Z5.out 7)⟩ (fun hHeld => ?_)
  refine pure_ (i := 0) (N := some 33) (v := ?_) (a' := ?_) #[true, false, false, false, false, false, false, false, false, false, false, false, false, false, false, false, false, false, false, false, false, false, false, false, false, false, false, false, false, false, false, false, false, false, false, false, false, false, false, false, false, false, false, false, false, false, false, false, false, false, false, false, false, false, false, false, false] rfl rfl (by kernel_rfl) (fun _ _ _ h => h) (Or.inl ⟨by rfl, ?_⟩) ?_ ?_
  rotate_left
  · intro w'
    go_simp
    with_reducible rfl
  rotate_left
  · simp only [Act.put, List.setIfInBounds_toArray, List.set_cons_zero, List.set_cons_succ, i64_w, i32_w]
    rfl
  refine pure_ (i := 1) (N := some 34) (v := ?_) (a' := ?_) #[true, true, false, false, false, false, false, false, false, false, false, false, false, false, false, false, false, false, false, false, false, false, false, false, false, false, false, false, false, false, false, false, false, false, false, false, false, false, false, false, false, false, false, false, false, false, false, false, false, false, false, false, false, false, false, false, false] rfl rfl (by kernel_rfl) (fun _ _ _ h => h) (Or.inl ⟨by rfl, ?_⟩) ?_ ?_
  rotate_left
  · intro w'
    go_simp
    with_reducible rfl
  rotate_left
  · simp only [Act.put, List.setIfInBounds_toArray, List.set_cons_zero, List.set_cons_succ, i64_w, i32_w]
    rfl
  refine pure_ (i := 2) (N := some 35) (v := (.bool true)) (a' := ?aa_2) #[true, true, true, false, false, false, false, false, false, false, false, false, false, false, false, false, false, false, false, false, false, false, false, false, false, false, false, false, false, false, false, false, false, false, false, false, false, false, false, false, false, false, false, false, false, false, false, false, false, false, false, false, false, false, false, false, false] rfl rfl (by kernel_rfl) (fun _ _ _ h => h) ?hy_2 ?ha_2 ?h_2
  case hy_2 => exact Or.inl ⟨by rfl, fun w' => by go_simp⟩
  case ha_2 => simp only [Act.put, List.setIfInBounds_toArray, List.set_cons_zero, List.set_cons_succ, i64_w, i32_w]; rfl
  refine pure_ (i := 3) (N := some 36) (v := ?_) (a' := ?_) #[true, true, true, true, false, false, false, false, false, false, false, false, false, false, false, false, false, false, false, false, false, false, false, false, false, false, false, false, false, false, false, false, false, false, false, false, false, false, false, false, false, false, false, false, false, false, false, false, false, false, false, false, false, false, false, false, false] rfl rfl (by kernel_rfl) (fun _ _ _ h => h) (Or.inl ⟨by rfl, ?_⟩) ?_ ?_
  rotate_left
  · intro w'
    go_simp
    with_reducible rfl
  rotate_left
  · simp only [Act.put, List.setIfInBounds_toArray, List.set_cons_zero, List.set_cons_succ, i64_w, i32_w]
    rfl
  refine take_ (i := 4) (N := some 37) (v := ?_) (a' := ?_) #[true, true, true, true, true, false, false, false, false, false, false, false, false, false, false, false, false, false, false, false, false, false, false, false, false, false, false, false, false, false, false, false, false, false, false, false, false, false, false, false, false, false, false, false, false, false, false, false, false, false, false, false, false, false, false, false, false] rfl rfl (by kernel_rfl) (fun _ _ _ h => h) (Or.inl ⟨by rfl, ?_⟩) hHeld ?_ ?_
  rotate_left
  · rintro w' ⟨s0, s1, s2, s3, s4, s5, s6, s7, s8, s9, s10, s11, s12, s13, s14, s15, s16, s17, s18, s19, s20, s21, s22⟩
    go_simp
    with_reducible rfl
  rotate_left
  · simp only [Act.put, List.setIfInBounds_toArray, List.set_cons_zero, List.set_cons_succ, i64_w, i32_w]
    rfl
  refine take_ (i := 5) (N := some 38) (v := ?_) (a' := ?_) #[true, true, true, true, true, true, false, false, false, false, false, false, false, false, false, false, false, false, false, false, false, false, false, false, false, false, false, false, false, false, false, false, false, false, false, false, false, false, false, false, false, false, false, false, false, false, false, false, false, false, false, false, false, false, false, false, false] rfl rfl (by kernel_rfl) (fun _ _ _ h => h) (Or.inl ⟨by rfl, ?_⟩) hHeld ?_ ?_
  rotate_left
  · rintro w' ⟨s0, s1, s2, s3, s4, s5, s6, s7, s8, s9, s10, s11, s12, s13, s14, s15, s16, s17, s18, s19, s20, s21, s22⟩
    go_simp
    with_reducible rfl
  rotate_left
  · simp only [Act.put, List.setIfInBounds_toArray, List.set_cons_zero, List.set_cons_succ, i64_w, i32_w]
    rfl
  refine pure_ (i := 6) (N := some 39) (v := (.bool true)) (a' := ?aa_1) #[true, true, true, true, true, true, true, false, false, false, false, false, false, false, false, false, false, false, false, false, false, false, false, false, false, false, false, false, false, false, false, false, false, false, false, false, false, false, false, false, false, false, false, false, false, false, false, false, false, false, false, false, false, false, false, false, false] rfl rfl (by kernel_rfl) (fun _ _ _ h => h) ?hy_1 ?ha_1 ?h_1
  case hy_1 => exact Or.inl ⟨by rfl, fun w' => eql_self y (by rfl) (by rfl) (by rfl) w'⟩
  case ha_1 => simp only [Act.put, List.setIfInBounds_toArray, List.set_cons_zero, List.set_cons_succ, i64_w, i32_w]; rfl
  refine pure_ (i := 7) (N := some 40) (v := ?_) (a' := ?_) #[true, true, true, true, true, true, true, true, false, false, false, false, false, false, false, false, false, false, false, false, false, false, false, false, false, false, false, false, false, false, false, false, false, false, false, false, false, false, false, false, false, false, false, false, false, false, false, false, false, false, false, false, false, false, false, false, false] rfl rfl (by kernel_rfl) (fun _ _ _ h => h) (Or.inl ⟨by rfl, ?_⟩) ?_ ?_
  rotate_left
  · intro w'
    go_simp
    with_reducible rfl
  rotate_left
  · simp only [Act.put, List.setIfInBounds_toArray, List.set_cons_zero, List.set_cons_succ, i64_w, i32_w]
    rfl
  refine pure_ (i := 8) (N := some 41) (v := ?_) (a' := ?_) #[true, true, true, true, true, true, true, true, true, false, false, false, false, false, false, false, false, false, false, false, false, false, false, false, false, false, false, false, false, false, false, false, false, false, false, false, false, false, false, false, false, false, false, false, false, false, false, false, false, false, false, false, false, false, false, false, false] rfl rfl (by kernel_rfl) (fun _ _ _ h => h) (Or.inl ⟨by rfl, ?_⟩) ?_ ?_
  rotate_left
  · intro w'
    go_simp
    with_reducible rfl
  rotate_left
  · simp only [Act.put, List.setIfInBounds_toArray, List.set_cons_zero, List.set_cons_succ, i64_w, i32_w]
    rfl
  refine pure_ (i := 9) (N := some 42) (v := ?_) (a' := ?_) #[true, true, true, true, true, true, true, true, true, true, false, false, false, false, false, false, false, false, false, false, false, false, false, false, false, false, false, false, false, false, false, false, false, false, false, false, false, false, false, false, false, false, false, false, false, false, false, false, false, false, false, false, false, false, false, false, false] rfl rfl (by kernel_rfl) (fun _ _ _ h => h) (Or.inl ⟨by rfl, ?_⟩) ?_ ?_
  rotate_left
  · intro w'
    go_simp
    with_reducible rfl
  rotate_left
  · simp only [Act.put, List.setIfInBounds_toArray, List.set_cons_zero, List.set_cons_succ, i64_w, i32_w]
    rfl
  refine pure_ (i := 11) (N := some 44) (v := ?_) (a' := ?_) #[true, true, true, true, true, true, true, true, true, true, false, true, false, false, false, false, false, false, false, false, false, false, false, false, false, false, false, false, false, false, false, false, false, false, false, false, false, false, false, false, false, false, false, false, false, false, false, false, false, false, false, false, false, false, false, false, false] rfl rfl (by kernel_rfl) (fun _ _ _ h => h) (Or.inl ⟨by rfl, ?_⟩) ?_ ?_
  rotate_left
  · intro w'
    go_simp
    with_reducible rfl
  rotate_left
  · simp only [Act.put, List.setIfInBounds_toArray, List.set_cons_zero, List.set_cons_succ, i64_w, i32_w]
    rfl
  refine pure_ (i := 12) (N := some 45) (v := ?_) (a' := ?_) #[true, true, true, true, true, true, true, true, true, true, false, true, true, false, false, false, false, false, false, false, false, false, false, false, false, false, false, false, false, false, false, false, false, false, false, false, false, false, false, false, false, false, false, false, false, false, false, false, false, false, false, false, false, false, false, false, false] rfl rfl (by kernel_rfl) (fun _ _ _ h => h) (Or.inl ⟨by rfl, ?_⟩) ?_ ?_
  rotate_left
  · intro w'
    go_simp
    with_reducible rfl
  rotate_left
  · simp only [Act.put, List.setIfInBounds_toArray, List.set_cons_zero, List.set_cons_succ, i64_w, i32_w]
    rfl
  refine pure_ (i := 13) (N := some 46) (v := ?_) (a' := ?_) #[true, true, true, true, true, true, true, true, true, true, false, true, true, true, false, false, false, false, false, false, false, false, false, false, false, false, false, false, false, false, false, false, false, false, false, false, false, false, false, false, false, false, false, false, false, false, false, false, false, false, false, false, false, false, false, false, false] rfl rfl (by kernel_rfl) (fun _ _ _ h => h) (Or.inl ⟨by rfl, ?_⟩) ?_ ?_
  rotate_left
  · intro w'
    go_simp
    with_reducible rfl
  rotate_left
  · simp only [Act.put, List.setIfInBounds_toArray, List.set_cons_zero, List.set_cons_succ, i64_w, i32_w]
    rfl
  refine take_ (i := 14) (N := some 47) (v := ?_) (a' := ?_) #[true, true, true, true, true, true, true, true, true, true, false, true, true, true, true, false, false, false, false, false, false, false, false, false, false, false, false, false, false, false, false, false, false, false, false, false, false, false, false, false, false, false, false, false, false, false, false, false, false, false, false, false, false, false, false, false, false] rfl rfl (by kernel_rfl) (fun _ _ _ h => h) (Or.inl ⟨by rfl, ?_⟩) hHeld ?_ ?_
  rotate_left
  · rintro w' ⟨s0, s1, s2, s3, s4, s5, s6, s7, s8, s9, s10, s11, s12, s13, s14, s15, s16, s17, s18, s19, s20, s21, s22⟩
    go_simp
    with_reducible rfl
  rotate_left
  · simp only [Act.put, List.setIfInBounds_toArray, List.set_cons_zero, List.set_cons_succ, i64_w, i32_w]
    rfl
  refine one_ (i := 10) (N := some 43) #[true, true, true, true, true, true, true, true, true, true, true, true, true, true, true, false, false, false, false, false, false, false, false, false, false, false, false, false, false, false, false, false, false, false, false, false, false, false, false, false, false, false, false, false, false, false, false, false, false, false, false, false, false, false, false, false, false] rfl rfl (by kernel_rfl) (by decide) (fun K hK => ?_)
  refine goes_ Try.func23 (by kernel_rfl) rfl #[.pointer (some ⟨g, 0, none⟩)] (by rfl) rfl rfl (by simp only [List.map_toArray, List.map_cons, List.map_nil]; rfl) ?_
  with_reducible refine (All_calls _ B0 g b M (F5.out.below Ds.out) (Nat.le_trans HML.out (by decide))).mono ?_
  rintro e wa ⟨v, rfl, hR, hb⟩
  refine ⟨_, rfl, ?_⟩
  obtain ⟨Aa, ca, rfl⟩ := len_row hR
  have Ca := Aside0.mk (Kd.R_reads' hR).2.2
  clear hR
  have Da := Aside0.mk (below_step Ds.out hb)
  have CMa := Aside0.mk (Kd.C_below C5.out Da.out)
  clear hb
  refine hK.out _ _ ⟨(pw_cell_below Da.out KG.out), (blk_cell (blk_below X5.out Da.out) 0), (blk_cell (blk_below X5.out Da.out) 1), (blk_cell (blk_below X5.out Da.out) 2), (blk_cell (blk_below X5.out Da.out) 3), (blk_cell (blk_below X5.out Da.out) 4), (blk_cell (blk_below X5.out Da.out) 5), (blk_cell (blk_below Y5.out Da.out) 0), (blk_cell (blk_below Y5.out Da.out) 1), (blk_cell (blk_below Y5.out Da.out) 2), (blk_cell (blk_below Y5.out Da.out) 3), (blk_cell (blk_below Y5.out Da.out) 4), (blk_cell (blk_below Y5.out Da.out) 5), (blk_cell (blk_below Y5.out Da.out) 6), (blk_cell (blk_below Y5.out Da.out) 7), (blk_cell (blk_below Z5.out Da.out) 0), (blk_cell (blk_below Z5.out Da.out) 1), (blk_cell (blk_below Z5.out Da.out) 2), (blk_cell (blk_below Z5.out Da.out) 3), (blk_cell (blk_below Z5.out Da.out) 4), (blk_cell (blk_below Z5.out Da.out) 5), (blk_cell (blk_below Z5.out Da.out) 6), (blk_cell (blk_below Z5.out Da.out) 7)⟩ (fun hHeld => ?_)
  clear hK K
  refine norm_ (a' := ?_) ?_ ?_
  rotate_left
  · show Act.put _ (some 43) _ = _
    simp only [Act.put, List.setIfInBounds_toArray, List.set_cons_zero, List.set_cons_succ, i64_w, i32_w]
    rfl
  refine one_ (i := 15) (N := some 48) #[true, true, true, true, true, true, true, true, true, true, true, true, true, true, true, true, false, false, false, false, false, false, false, false, false, false, false, false, false, false, false, false, false, false, false, false, false, false, false, false, false, false, false, false, false, false, false, false, false, false, false, false, false, false, false, false, false] rfl rfl (by kernel_rfl) (by decide) (fun K hK => ?_)
  refine goes_ Try.func25 (by kernel_rfl) rfl #[.slice Aa M.length ca, .slice A M.length c] (by rfl) rfl rfl (by simp only [List.map_toArray, List.map_cons, List.map_nil]; rfl) ?_
  with_reducible refine (same_calls _ Aa A ca c M (Nat.le_trans HML.out (by decide)) Ca.out CMa.out).mono ?_
  rintro e wb ⟨rfl, hb⟩
  refine ⟨_, rfl, ?_⟩
  have Db := Aside0.mk (below_step Da.out hb)
  clear hb
  refine hK.out _ _ ⟨(pw_cell_below Db.out KG.out), (blk_cell (blk_below X5.out Db.out) 0), (blk_cell (blk_below X5.out Db.out) 1), (blk_cell (blk_below X5.out Db.out) 2), (blk_cell (blk_below X5.out Db.out) 3), (blk_cell (blk_below X5.out Db.out) 4), (blk_cell (blk_below X5.out Db.out) 5), (blk_cell (blk_below Y5.out Db.out) 0), (blk_cell (blk_below Y5.out Db.out) 1), (blk_cell (blk_below Y5.out Db.out) 2), (blk_cell (blk_below Y5.out Db.out) 3), (blk_cell (blk_below Y5.out Db.out) 4), (blk_cell (blk_below Y5.out Db.out) 5), (blk_cell (blk_below Y5.out Db.out) 6), (blk_cell (blk_below Y5.out Db.out) 7), (blk_cell (blk_below Z5.out Db.out) 0), (blk_cell (blk_below Z5.out Db.out) 1), (blk_cell (blk_below Z5.out Db.out) 2), (blk_cell (blk_below Z5.out Db.out) 3), (blk_cell (blk_below Z5.out Db.out) 4), (blk_cell (blk_below Z5.out Db.out) 5), (blk_cell (blk_below Z5.out Db.out) 6), (blk_cell (blk_below Z5.out Db.out) 7)⟩ (fun hHeld => ?_)
  clear hK K
  refine norm_ (a' := ?_) ?_ ?_
  rotate_left
  · show Act.put _ (some 48) _ = _
    simp only [Act.put, List.setIfInBounds_toArray, List.set_cons_zero, List.set_cons_succ, i64_w, i32_w]
    rfl
  refine pure_ (i := 16) (N := some 49) (v := ?_) (a' := ?_) #[true, true, true, true, true, true, true, true, true, true, true, true, true, true, true, true, true, false, false, false, false, false, false, false, false, false, false, false, false, false, false, false, false, false, false, false, false, false, false, false, false, false, false, false, false, false, false, false, false, false, false, false, false, false, false, false, false] rfl rfl (by kernel_rfl) (fun _ _ _ h => h) (Or.inl ⟨by rfl, ?_⟩) ?_ ?_
  rotate_left
  · intro w'
    go_simp
    with_reducible rfl
  rotate_left
  · simp only [Act.put, List.setIfInBounds_toArray, List.set_cons_zero, List.set_cons_succ, i64_w, i32_w]
    rfl
  refine pure_ (i := 17) (N := some 50) (v := ?_) (a' := ?_) #[true, true, true, true, true, true, true, true, true, true, true, true, true, true, true, true, true, true, false, false, false, false, false, false, false, false, false, false, false, false, false, false, false, false, false, false, false, false, false, false, false, false, false, false, false, false, false, false, false, false, false, false, false, false, false, false, false] rfl rfl (by kernel_rfl) (fun _ _ _ h => h) (Or.inl ⟨by rfl, ?_⟩) ?_ ?_
  rotate_left
  · intro w'
    go_simp
    with_reducible rfl
  rotate_left
  · simp only [Act.put, List.setIfInBounds_toArray, List.set_cons_zero, List.set_cons_succ, i64_w, i32_w]
    rfl
  refine pure_ (i := 18) (N := some 51) (v := ?_) (a' := ?_) #[true, true, true, true, true, true, true, true, true, true, true, true, true, true, true, true, true, true, true, false, false, false, false, false, false, false, false, false, false, false, false, false, false, false, false, false, false, false, false, false, false, false, false, false, false, false, false, false, false, false, false, false, false, false, false, false, false] rfl rfl (by kernel_rfl) (fun _ _ _ h => h) (Or.inl ⟨by rfl, ?_⟩) ?_ ?_
  rotate_left
  · intro w'
    go_simp
    with_reducible rfl
  rotate_left
  · simp only [Act.put, List.setIfInBounds_toArray, List.set_cons_zero, List.set_cons_succ, i64_w, i32_w]
    rfl
  refine pure_ (i := 19) (N := some 52) (v := ?_) (a' := ?_) #[true, true, true, true, true, true, true, true, true, true, true, true, true, true, true, true, true, true, true, true, false, false, false, false, false, false, false, false, false, false, false, false, false, false, false, false, false, false, false, false, false, false, false, false, false, false, false, false, false, false, false, false, false, false, false, false, false] rfl rfl (by kernel_rfl) (fun _ _ _ h => h) (Or.inl ⟨by rfl, ?_⟩) ?_ ?_
  rotate_left
  · intro w'
    go_simp
    with_reducible rfl
  rotate_left
  · simp only [Act.put, List.setIfInBounds_toArray, List.set_cons_zero, List.set_cons_succ, i64_w, i32_w]
    rfl
  refine pure_ (i := 21) (N := some 54) (v := ?_) (a' := ?_) #[true, true, true, true, true, true, true, true, true, true, true, true, true, true, true, true, true, true, true, true, false, true, false, false, false, false, false, false, false, false, false, false, false, false, false, false, false, false, false, false, false, false, false, false, false, false, false, false, false, false, false, false, false, false, false, false, false] rfl rfl (by kernel_rfl) (fun _ _ _ h => h) (Or.inl ⟨by rfl, ?_⟩) ?_ ?_
  rotate_left
  · intro w'
    go_simp
    with_reducible rfl
  rotate_left
  · simp only [Act.put, List.setIfInBounds_toArray, List.set_cons_zero, List.set_cons_succ, i64_w, i32_w]
    rfl
  refine pure_ (i := 24) (N := some 57) (v := ?_) (a' := ?_) #[true, true, true, true, true, true, true, true, true, true, true, true, true, true, true, true, true, true, true, true, false, true, false, false, true, false, false, false, false, false, false, false, false, false, false, false, false, false, false, false, false, false, false, false, false, false, false, false, false, false, false, false, false, false, false, false, false] rfl rfl (by kernel_rfl) (fun _ _ _ h => h) (Or.inl ⟨by rfl, ?_⟩) ?_ ?_
  rotate_left
  · intro w'
    go_simp
    with_reducible rfl
  rotate_left
  · simp only [Act.put, List.setIfInBounds_toArray, List.set_cons_zero, List.set_cons_succ, i64_w, i32_w]
    rfl
  refine pure_ (i := 25) (N := some 58) (v := ?_) (a' := ?_) #[true, true, true, true, true, true, true, true, true, true, true, true, true, true, true, true, true, true, true, true, false, true, false, false, true, true, false, false, false, false, false, false, false, false, false, false, false, false, false, false, false, false, false, false, false, false, false, false, false, false, false, false, false, false, false, false, false] rfl rfl (by kernel_rfl) (fun _ _ _ h => h) (Or.inl ⟨by rfl, ?_⟩) ?_ ?_
  rotate_left
  · intro w'
    go_simp
    with_reducible rfl
  rotate_left
  · simp only [Act.put, List.setIfInBounds_toArray, List.set_cons_zero, List.set_cons_succ, i64_w, i32_w]
    rfl
  refine pure_ (i := 27) (N := some 60) (v := ?_) (a' := ?_) #[true, true, true, true, true, true, true, true, true, true, true, true, true, true, true, true, true, true, true, true, false, true, false, false, true, true, false, true, false, false, false, false, false, false, false, false, false, false, false, false, false, false, false, false, false, false, false, false, false, false, false, false, false, false, false, false, false] rfl rfl (by kernel_rfl) (fun _ _ _ h => h) (Or.inl ⟨by rfl, ?_⟩) ?_ ?_
  rotate_left
  · intro w'
    go_simp
    with_reducible rfl
  rotate_left
  · simp only [Act.put, List.setIfInBounds_toArray, List.set_cons_zero, List.set_cons_succ, i64_w, i32_w]
    rfl
  refine take_ (i := 20) (N := some 53) (v := ?_) (a' := ?_) #[true, true, true, true, true, true, true, true, true, true, true, true, true, true, true, true, true, true, true, true, true, true, false, false, true, true, false, true, false, false, false, false, false, false, false, false, false, false, false, false, false, false, false, false, false, false, false, false, false, false, false, false, false, false, false, false, false] rfl rfl (by kernel_rfl) (fun _ _ _ h => h) (Or.inl ⟨by rfl, ?_⟩) hHeld ?_ ?_
  rotate_left
  · rintro w' ⟨s0, s1, s2, s3, s4, s5, s6, s7, s8, s9, s10, s11, s12, s13, s14, s15, s16, s17, s18, s19, s20, s21, s22⟩
    go_simp
    with_reducible rfl
  rotate_left
  · simp only [Act.put, List.setIfInBounds_toArray, List.set_cons_zero, List.set_cons_succ, i64_w, i32_w]
    rfl
  refine take_ (i := 22) (N := some 55) (v := ?_) (a' := ?_) #[true, true, true, true, true, true, true, true, true, true, true, true, true, true, true, true, true, true, true, true, true, true, true, false, true, true, false, true, false, false, false, false, false, false, false, false, false, false, false, false, false, false, false, false, false, false, false, false, false, false, false, false, false, false, false, false, false] rfl rfl (by kernel_rfl) (fun _ _ _ h => h) (Or.inl ⟨by rfl, ?_⟩) hHeld ?_ ?_
  rotate_left
  · rintro w' ⟨s0, s1, s2, s3, s4, s5, s6, s7, s8, s9, s10, s11, s12, s13, s14, s15, s16, s17, s18, s19, s20, s21, s22⟩
    go_simp
    with_reducible rfl
  rotate_left
  · simp only [Act.put, List.setIfInBounds_toArray, List.set_cons_zero, List.set_cons_succ, i64_w, i32_w]
    rfl
  refine take_ (i := 26) (N := some 59) (v := ?_) (a' := ?_) #[true, true, true, true, true, true, true, true, true, true, true, true, true, true, true, true, true, true, true, true, true, true, true, false, true, true, true, true, false, false, false, false, false, false, false, false, false, false, false, false, false, false, false, false, false, false, false, false, false, false, false, false, false, false, false, false, false] rfl rfl (by kernel_rfl) (fun _ _ _ h => h) (Or.inl ⟨by rfl, ?_⟩) hHeld ?_ ?_
  rotate_left
  · rintro w' ⟨s0, s1, s2, s3, s4, s5, s6, s7, s8, s9, s10, s11, s12, s13, s14, s15, s16, s17, s18, s19, s20, s21, s22⟩
    go_simp
    with_reducible rfl
  rotate_left
  · simp only [Act.put, List.setIfInBounds_toArray, List.set_cons_zero, List.set_cons_succ, i64_w, i32_w]
    rfl
  refine take_ (i := 28) (N := some 61) (v := ?_) (a' := ?_) #[true, true, true, true, true, true, true, true, true, true, true, true, true, true, true, true, true, true, true, true, true, true, true, false, true, true, true, true, true, false, false, false, false, false, false, false, false, false, false, false, false, false, false, false, false, false, false, false, false, false, false, false, false, false, false, false, false] rfl rfl (by kernel_rfl) (fun _ _ _ h => h) (Or.inl ⟨by rfl, ?_⟩) hHeld ?_ ?_
  rotate_left
  · rintro w' ⟨s0, s1, s2, s3, s4, s5, s6, s7, s8, s9, s10, s11, s12, s13, s14, s15, s16, s17, s18, s19, s20, s21, s22⟩
    go_simp
    with_reducible rfl
  rotate_left
  · simp only [Act.put, List.setIfInBounds_toArray, List.set_cons_zero, List.set_cons_succ, i64_w, i32_w]
    rfl
  refine one_ (i := 23) (N := some 56) #[true, true, true, true, true, true, true, true, true, true, true, true, true, true, true, true, true, true, true, true, true, true, true, true, true, true, true, true, true, false, false, false, false, false, false, false, false, false, false, false, false, false, false, false, false, false, false, false, false, false, false, false, false, false, false, false, false] rfl rfl (by kernel_rfl) (by decide) (fun K hK => ?_)
  refine goes_ Try.func26 (by kernel_rfl) rfl #[.pointer (some ⟨g, 0, none⟩), .int .i64 f.f0, .agg #[.int .u32 f.f1.f0, .int .i64 f.f1.f1]] (by rfl) rfl rfl (by simp only [List.map_toArray, List.map_cons, List.map_nil]; rfl) ?_
  with_reducible refine (Of_calls _ B0 g b M (F5.out.below Db.out) (Nat.le_trans HML.out (by decide)) f.f0 f.f1.f0 f.f1.f1).mono ?_
  rintro e wc ⟨v, rfl, hR, hb⟩
  refine ⟨_, rfl, ?_⟩
  obtain ⟨Ac, cc, rfl⟩ := len_row hR
  have Cc := Aside0.mk (Kd.R_reads' hR).2.2
  clear hR
  have Dc := Aside0.mk (below_step Db.out hb)
  clear hb
  refine hK.out _ _ ⟨(pw_cell_below Dc.out KG.out), (blk_cell (blk_below X5.out Dc.out) 0), (blk_cell (blk_below X5.out Dc.out) 1), (blk_cell (blk_below X5.out Dc.out) 2), (blk_cell (blk_below X5.out Dc.out) 3), (blk_cell (blk_below X5.out Dc.out) 4), (blk_cell (blk_below X5.out Dc.out) 5), (blk_cell (blk_below Y5.out Dc.out) 0), (blk_cell (blk_below Y5.out Dc.out) 1), (blk_cell (blk_below Y5.out Dc.out) 2), (blk_cell (blk_below Y5.out Dc.out) 3), (blk_cell (blk_below Y5.out Dc.out) 4), (blk_cell (blk_below Y5.out Dc.out) 5), (blk_cell (blk_below Y5.out Dc.out) 6), (blk_cell (blk_below Y5.out Dc.out) 7), (blk_cell (blk_below Z5.out Dc.out) 0), (blk_cell (blk_below Z5.out Dc.out) 1), (blk_cell (blk_below Z5.out Dc.out) 2), (blk_cell (blk_below Z5.out Dc.out) 3), (blk_cell (blk_below Z5.out Dc.out) 4), (blk_cell (blk_below Z5.out Dc.out) 5), (blk_cell (blk_below Z5.out Dc.out) 6), (blk_cell (blk_below Z5.out Dc.out) 7)⟩ (fun hHeld => ?_)
  clear hK K
  refine norm_ (a' := ?_) ?_ ?_
  rotate_left
  · show Act.put _ (some 56) _ = _
    simp only [Act.put, List.setIfInBounds_toArray, List.set_cons_zero, List.set_cons_succ, i64_w, i32_w]
    rfl
  refine one_ (i := 29) (N := some 62) #[true, true, true, true, true, true, true, true, true, true, true, true, true, true, true, true, true, true, true, true, true, true, true, true, true, true, true, true, true, true, false, false, false, false, false, false, false, false, false, false, false, false, false, false, false, false, false, false, false, false, false, false, false, false, false, false, false] rfl rfl (by kernel_rfl) (by decide) (fun K hK => ?_)
  refine goes_ Try.func65 (by kernel_rfl) rfl #[.pointer (some ⟨gR, 0, none⟩), .int .i64 f.f0, .agg #[.int .u32 f.f1.f0, .int .i64 f.f1.f1]] (by rfl) rfl rfl (by simp only [List.map_toArray, List.map_cons, List.map_nil]; rfl) ?_
  with_reducible refine (ROf_calls _ B1 gR M (R5.out.below Dc.out) (Nat.le_trans HML.out (by decide)) f.f0 f.f1.f0 f.f1.f1).mono ?_
  rintro e wd ⟨v, rfl, hR, hb⟩
  refine ⟨_, rfl, ?_⟩
  obtain ⟨Ad, cd, rfl⟩ := len_row hR
  have Cd := Aside0.mk (Kd.R_reads' hR).2.2
  clear hR
  have Dd := Aside0.mk (below_step Dc.out hb)
  have Cc_d := Aside0.mk (Kd.C_below Cc.out hb)
  clear hb
  refine hK.out _ _ ⟨(pw_cell_below Dd.out KG.out), (blk_cell (blk_below X5.out Dd.out) 0), (blk_cell (blk_below X5.out Dd.out) 1), (blk_cell (blk_below X5.out Dd.out) 2), (blk_cell (blk_below X5.out Dd.out) 3), (blk_cell (blk_below X5.out Dd.out) 4), (blk_cell (blk_below X5.out Dd.out) 5), (blk_cell (blk_below Y5.out Dd.out) 0), (blk_cell (blk_below Y5.out Dd.out) 1), (blk_cell (blk_below Y5.out Dd.out) 2), (blk_cell (blk_below Y5.out Dd.out) 3), (blk_cell (blk_below Y5.out Dd.out) 4), (blk_cell (blk_below Y5.out Dd.out) 5), (blk_cell (blk_below Y5.out Dd.out) 6), (blk_cell (blk_below Y5.out Dd.out) 7), (blk_cell (blk_below Z5.out Dd.out) 0), (blk_cell (blk_below Z5.out Dd.out) 1), (blk_cell (blk_below Z5.out Dd.out) 2), (blk_cell (blk_below Z5.out Dd.out) 3), (blk_cell (blk_below Z5.out Dd.out) 4), (blk_cell (blk_below Z5.out Dd.out) 5), (blk_cell (blk_below Z5.out Dd.out) 6), (blk_cell (blk_below Z5.out Dd.out) 7)⟩ (fun hHeld => ?_)
  clear hK K
  refine norm_ (a' := ?_) ?_ ?_
  rotate_left
  · show Act.put _ (some 62) _ = _
    simp only [Act.put, List.setIfInBounds_toArray, List.set_cons_zero, List.set_cons_succ, i64_w, i32_w]
    rfl
  refine one_ (i := 30) (N := some 63) #[true, true, true, true, true, true, true, true, true, true, true, true, true, true, true, true, true, true, true, true, true, true, true, true, true, true, true, true, true, true, true, false, false, false, false, false, false, false, false, false, false, false, false, false, false, false, false, false, false, false, false, false, false, false, false, false, false] rfl rfl (by kernel_rfl) (by decide) (fun K hK => ?_)
  refine goes_ Try.func25 (by kernel_rfl) rfl #[.slice Ac (M.filter (fun f_1 : S46 => f_1.f0 == f.f0 && (f_1.f1.f0 == f.f1.f0 && (f_1.f1.f1 == f.f1.f1)))).length cc, .slice Ad (M.filter (fun f_1 : S46 => f_1.f0 == f.f0 && (f_1.f1.f0 == f.f1.f0 && (f_1.f1.f1 == f.f1.f1)))).length cd] (by rfl) rfl rfl (by simp only [List.map_toArray, List.map_cons, List.map_nil]; rfl) ?_
  with_reducible refine (same_calls _ Ac Ad cc cd (M.filter (fun f_1 : S46 => f_1.f0 == f.f0 && (f_1.f1.f0 == f.f1.f0 && (f_1.f1.f1 == f.f1.f1)))) LQO.out Cc_d.out Cd.out).mono ?_
  rintro e we ⟨rfl, hb⟩
  refine ⟨_, rfl, ?_⟩
  have De := Aside0.mk (below_step Dd.out hb)
  clear hb
  refine hK.out _ _ ⟨(pw_cell_below De.out KG.out), (blk_cell (blk_below X5.out De.out) 0), (blk_cell (blk_below X5.out De.out) 1), (blk_cell (blk_below X5.out De.out) 2), (blk_cell (blk_below X5.out De.out) 3), (blk_cell (blk_below X5.out De.out) 4), (blk_cell (blk_below X5.out De.out) 5), (blk_cell (blk_below Y5.out De.out) 0), (blk_cell (blk_below Y5.out De.out) 1), (blk_cell (blk_below Y5.out De.out) 2), (blk_cell (blk_below Y5.out De.out) 3), (blk_cell (blk_below Y5.out De.out) 4), (blk_cell (blk_below Y5.out De.out) 5), (blk_cell (blk_below Y5.out De.out) 6), (blk_cell (blk_below Y5.out De.out) 7), (blk_cell (blk_below Z5.out De.out) 0), (blk_cell (blk_below Z5.out De.out) 1), (blk_cell (blk_below Z5.out De.out) 2), (blk_cell (blk_below Z5.out De.out) 3), (blk_cell (blk_below Z5.out De.out) 4), (blk_cell (blk_below Z5.out De.out) 5), (blk_cell (blk_below Z5.out De.out) 6), (blk_cell (blk_below Z5.out De.out) 7)⟩ (fun hHeld => ?_)
  clear hK K
  refine norm_ (a' := ?_) ?_ ?_
  rotate_left
  · show Act.put _ (some 63) _ = _
    simp only [Act.put, List.setIfInBounds_toArray, List.set_cons_zero, List.set_cons_succ, i64_w, i32_w]
    rfl
  refine pure_ (i := 31) (N := some 64) (v := ?_) (a' := ?_) #[true, true, true, true, true, true, true, true, true, true, true, true, true, true, true, true, true, true, true, true, true, true, true, true, true, true, true, true, true, true, true, true, false, false, false, false, false, false, false, false, false, false, false, false, false, false, false, false, false, false, false, false, false, false, false, false, false] rfl rfl (by kernel_rfl) (fun _ _ _ h => h) (Or.inl ⟨by rfl, ?_⟩) ?_ ?_
  rotate_left
  · intro w'
    go_simp
    with_reducible rfl
  rotate_left
  · simp only [Act.put, List.setIfInBounds_toArray, List.set_cons_zero, List.set_cons_succ, i64_w, i32_w]
    rfl
  refine pure_ (i := 32) (N := some 65) (v := ?_) (a' := ?_) #[true, true, true, true, true, true, true, true, true, true, true, true, true, true, true, true, true, true, true, true, true, true, true, true, true, true, true, true, true, true, true, true, true, false, false, false, false, false, false, false, false, false, false, false, false, false, false, false, false, false, false, false, false, false, false, false, false] rfl rfl (by kernel_rfl) (fun _ _ _ h => h) (Or.inl ⟨by rfl, ?_⟩) ?_ ?_
  rotate_left
  · intro w'
    go_simp
    with_reducible rfl
  rotate_left
  · simp only [Act.put, List.setIfInBounds_toArray, List.set_cons_zero, List.set_cons_succ, i64_w, i32_w]
    rfl
  refine pure_ (i := 33) (N := some 66) (v := ?_) (a' := ?_) #[true, true, true, true, true, true, true, true, true, true, true, true, true, true, true, true, true, true, true, true, true, true, true, true, true, true, true, true, true, true, true, true, true, true, false, false, false, false, false, false, false, false, false, false, false, false, false, false, false, false, false, false, false, false, false, false, false] rfl rfl (by kernel_rfl) (fun _ _ _ h => h) (Or.inl ⟨by rfl, ?_⟩) ?_ ?_
  rotate_left
  · intro w'
    go_simp
    with_reducible rfl
  rotate_left
  · simp only [Act.put, List.setIfInBounds_toArray, List.set_cons_zero, List.set_cons_succ, i64_w, i32_w]
    rfl
  refine pure_ (i := 34) (N := some 67) (v := ?_) (a' := ?_) #[true, true, true, true, true, true, true, true, true, true, true, true, true, true, true, true, true, true, true, true, true, true, true, true, true, true, true, true, true, true, true, true, true, true, true, false, false, false, false, false, false, false, false, false, false, false, false, false, false, false, false, false, false, false, false, false, false] rfl rfl (by kernel_rfl) (fun _ _ _ h => h) (Or.inl ⟨by rfl, ?_⟩) ?_ ?_
  rotate_left
  · intro w'
    go_simp
    with_reducible rfl
  rotate_left
  · simp only [Act.put, List.setIfInBounds_toArray, List.set_cons_zero, List.set_cons_succ, i64_w, i32_w]
    rfl
  refine pure_ (i := 37) (N := some 70) (v := ?_) (a' := ?_) #[true, true, true, true, true, true, true, true, true, true, true, true, true, true, true, true, true, true, true, true, true, true, true, true, true, true, true, true, true, true, true, true, true, true, true, false, false, true, false, false, false, false, false, false, false, false, false, false, false, false, false, false, false, false, false, false, false] rfl rfl (by kernel_rfl) (fun _ _ _ h => h) (Or.inl ⟨by rfl, ?_⟩) ?_ ?_
  rotate_left
  · intro w'
    go_simp
    with_reducible rfl
  rotate_left
  · simp only [Act.put, List.setIfInBounds_toArray, List.set_cons_zero, List.set_cons_succ, i64_w, i32_w]
    rfl
  refine pure_ (i := 38) (N := some 71) (v := ?_) (a' := ?_) #[true, true, true, true, true, true, true, true, true, true, true, true, true, true, true, true, true, true, true, true, true, true, true, true, true, true, true, true, true, true, true, true, true, true, true, false, false, true, true, false, false, false, false, false, false, false, false, false, false, false, false, false, false, false, false, false, false] rfl rfl (by kernel_rfl) (fun _ _ _ h => h) (Or.inl ⟨by rfl, ?_⟩) ?_ ?_
  rotate_left
  · intro w'
    go_simp
    with_reducible rfl
  rotate_left
  · simp only [Act.put, List.setIfInBounds_toArray, List.set_cons_zero, List.set_cons_succ, i64_w, i32_w]
    rfl
  refine take_ (i := 35) (N := some 68) (v := ?_) (a' := ?_) #[true, true, true, true, true, true, true, true, true, true, true, true, true, true, true, true, true, true, true, true, true, true, true, true, true, true, true, true, true, true, true, true, true, true, true, true, false, true, true, false, false, false, false, false, false, false, false, false, false, false, false, false, false, false, false, false, false] rfl rfl (by kernel_rfl) (fun _ _ _ h => h) (Or.inl ⟨by rfl, ?_⟩) hHeld ?_ ?_
  rotate_left
  · rintro w' ⟨s0, s1, s2, s3, s4, s5, s6, s7, s8, s9, s10, s11, s12, s13, s14, s15, s16, s17, s18, s19, s20, s21, s22⟩
    go_simp
    with_reducible rfl
  rotate_left
  · simp only [Act.put, List.setIfInBounds_toArray, List.set_cons_zero, List.set_cons_succ, i64_w, i32_w]
    rfl
  refine take_ (i := 39) (N := some 72) (v := ?_) (a' := ?_) #[true, true, true, true, true, true, true, true, true, true, true, true, true, true, true, true, true, true, true, true, true, true, true, true, true, true, true, true, true, true, true, true, true, true, true, true, false, true, true, true, false, false, false, false, false, false, false, false, false, false, false, false, false, false, false, false, false] rfl rfl (by kernel_rfl) (fun _ _ _ h => h) (Or.inl ⟨by rfl, ?_⟩) hHeld ?_ ?_
  rotate_left
  · rintro w' ⟨s0, s1, s2, s3, s4, s5, s6, s7, s8, s9, s10, s11, s12, s13, s14, s15, s16, s17, s18, s19, s20, s21, s22⟩
    go_simp
    with_reducible rfl
  rotate_left
  · simp only [Act.put, List.setIfInBounds_toArray, List.set_cons_zero, List.set_cons_succ, i64_w, i32_w]
    rfl
  refine one_ (i := 36) (N := some 69) #[true, true, true, true, true, true, true, true, true, true, true, true, true, true, true, true, true, true, true, true, true, true, true, true, true, true, true, true, true, true, true, true, true, true, true, true, true, true, true, true, false, false, false, false, false, false, false, false, false, false, false, false, false, false, false, false, false] rfl rfl (by kernel_rfl) (by decide) (fun K hK => ?_)
  refine goes_ Try.func24 (by kernel_rfl) rfl #[.pointer (some ⟨g, 0, none⟩), .int .i64 f.f3] (by rfl) rfl rfl (by simp only [List.map_toArray, List.map_cons, List.map_nil]; rfl) ?_
  with_reducible refine (Due_calls _ B0 g b M (F5.out.below De.out) (Nat.le_trans HML.out (by decide)) f.f3).mono ?_
  rintro e wf ⟨v, rfl, hR, hb⟩
  refine ⟨_, rfl, ?_⟩
  obtain ⟨Af, cf, rfl⟩ := len_row hR
  have Cf := Aside0.mk (Kd.R_reads' hR).2.2
  clear hR
  have Df := Aside0.mk (below_step De.out hb)
  clear hb
  refine hK.out _ _ ⟨(pw_cell_below Df.out KG.out), (blk_cell (blk_below X5.out Df.out) 0), (blk_cell (blk_below X5.out Df.out) 1), (blk_cell (blk_below X5.out Df.out) 2), (blk_cell (blk_below X5.out Df.out) 3), (blk_cell (blk_below X5.out Df.out) 4), (blk_cell (blk_below X5.out Df.out) 5), (blk_cell (blk_below Y5.out Df.out) 0), (blk_cell (blk_below Y5.out Df.out) 1), (blk_cell (blk_below Y5.out Df.out) 2), (blk_cell (blk_below Y5.out Df.out) 3), (blk_cell (blk_below Y5.out Df.out) 4), (blk_cell (blk_below Y5.out Df.out) 5), (blk_cell (blk_below Y5.out Df.out) 6), (blk_cell (blk_below Y5.out Df.out) 7), (blk_cell (blk_below Z5.out Df.out) 0), (blk_cell (blk_below Z5.out Df.out) 1), (blk_cell (blk_below Z5.out Df.out) 2), (blk_cell (blk_below Z5.out Df.out) 3), (blk_cell (blk_below Z5.out Df.out) 4), (blk_cell (blk_below Z5.out Df.out) 5), (blk_cell (blk_below Z5.out Df.out) 6), (blk_cell (blk_below Z5.out Df.out) 7)⟩ (fun hHeld => ?_)
  clear hK K
  refine norm_ (a' := ?_) ?_ ?_
  rotate_left
  · show Act.put _ (some 69) _ = _
    simp only [Act.put, List.setIfInBounds_toArray, List.set_cons_zero, List.set_cons_succ, i64_w, i32_w]
    rfl
  refine one_ (i := 40) (N := some 73) #[true, true, true, true, true, true, true, true, true, true, true, true, true, true, true, true, true, true, true, true, true, true, true, true, true, true, true, true, true, true, true, true, true, true, true, true, true, true, true, true, true, false, false, false, false, false, false, false, false, false, false, false, false, false, false, false, false] rfl rfl (by kernel_rfl) (by decide) (fun K hK => ?_)
  refine goes_ Try.func66 (by kernel_rfl) rfl #[.pointer (some ⟨gR, 0, none⟩), .int .i64 f.f3] (by rfl) rfl rfl (by simp only [List.map_toArray, List.map_cons, List.map_nil]; rfl) ?_
  with_reducible refine (RDue_calls _ B1 gR M (R5.out.below Df.out) (Nat.le_trans HML.out (by decide)) f.f3).mono ?_
  rintro e wg ⟨v, rfl, hR, hb⟩
  refine ⟨_, rfl, ?_⟩
  obtain ⟨Ag, cg, rfl⟩ := len_row hR
  have Cg := Aside0.mk (Kd.R_reads' hR).2.2
  clear hR
  have Dg := Aside0.mk (below_step Df.out hb)
  have Cf_g := Aside0.mk (Kd.C_below Cf.out hb)
  clear hb
  refine hK.out _ _ ⟨(pw_cell_below Dg.out KG.out), (blk_cell (blk_below X5.out Dg.out) 0), (blk_cell (blk_below X5.out Dg.out) 1), (blk_cell (blk_below X5.out Dg.out) 2), (blk_cell (blk_below X5.out Dg.out) 3), (blk_cell (blk_below X5.out Dg.out) 4), (blk_cell (blk_below X5.out Dg.out) 5), (blk_cell (blk_below Y5.out Dg.out) 0), (blk_cell (blk_below Y5.out Dg.out) 1), (blk_cell (blk_below Y5.out Dg.out) 2), (blk_cell (blk_below Y5.out Dg.out) 3), (blk_cell (blk_below Y5.out Dg.out) 4), (blk_cell (blk_below Y5.out Dg.out) 5), (blk_cell (blk_below Y5.out Dg.out) 6), (blk_cell (blk_below Y5.out Dg.out) 7), (blk_cell (blk_below Z5.out Dg.out) 0), (blk_cell (blk_below Z5.out Dg.out) 1), (blk_cell (blk_below Z5.out Dg.out) 2), (blk_cell (blk_below Z5.out Dg.out) 3), (blk_cell (blk_below Z5.out Dg.out) 4), (blk_cell (blk_below Z5.out Dg.out) 5), (blk_cell (blk_below Z5.out Dg.out) 6), (blk_cell (blk_below Z5.out Dg.out) 7)⟩ (fun hHeld => ?_)
  clear hK K
  refine norm_ (a' := ?_) ?_ ?_
  rotate_left
  · show Act.put _ (some 73) _ = _
    simp only [Act.put, List.setIfInBounds_toArray, List.set_cons_zero, List.set_cons_succ, i64_w, i32_w]
    rfl
  refine one_ (i := 41) (N := some 74) #[true, true, true, true, true, true, true, true, true, true, true, true, true, true, true, true, true, true, true, true, true, true, true, true, true, true, true, true, true, true, true, true, true, true, true, true, true, true, true, true, true, true, false, false, false, false, false, false, false, false, false, false, false, false, false, false, false] rfl rfl (by kernel_rfl) (by decide) (fun K hK => ?_)
  refine goes_ Try.func25 (by kernel_rfl) rfl #[.slice Af (M.filter (fun f_1 : S46 => decide (f_1.f3 ≤ f.f3))).length cf, .slice Ag (M.filter (fun f_1 : S46 => decide (f_1.f3 ≤ f.f3))).length cg] (by rfl) rfl rfl (by simp only [List.map_toArray, List.map_cons, List.map_nil]; rfl) ?_
  with_reducible refine (same_calls _ Af Ag cf cg (M.filter (fun f_1 : S46 => decide (f_1.f3 ≤ f.f3))) LQD.out Cf_g.out Cg.out).mono ?_
  rintro e wh ⟨rfl, hb⟩
  refine ⟨_, rfl, ?_⟩
  have Dh := Aside0.mk (below_step Dg.out hb)
  clear hb
  refine hK.out _ _ ⟨(pw_cell_below Dh.out KG.out), (blk_cell (blk_below X5.out Dh.out) 0), (blk_cell (blk_below X5.out Dh.out) 1), (blk_cell (blk_below X5.out Dh.out) 2), (blk_cell (blk_below X5.out Dh.out) 3), (blk_cell (blk_below X5.out Dh.out) 4), (blk_cell (blk_below X5.out Dh.out) 5), (blk_cell (blk_below Y5.out Dh.out) 0), (blk_cell (blk_below Y5.out Dh.out) 1), (blk_cell (blk_below Y5.out Dh.out) 2), (blk_cell (blk_below Y5.out Dh.out) 3), (blk_cell (blk_below Y5.out Dh.out) 4), (blk_cell (blk_below Y5.out Dh.out) 5), (blk_cell (blk_below Y5.out Dh.out) 6), (blk_cell (blk_below Y5.out Dh.out) 7), (blk_cell (blk_below Z5.out Dh.out) 0), (blk_cell (blk_below Z5.out Dh.out) 1), (blk_cell (blk_below Z5.out Dh.out) 2), (blk_cell (blk_below Z5.out Dh.out) 3), (blk_cell (blk_below Z5.out Dh.out) 4), (blk_cell (blk_below Z5.out Dh.out) 5), (blk_cell (blk_below Z5.out Dh.out) 6), (blk_cell (blk_below Z5.out Dh.out) 7)⟩ (fun hHeld => ?_)
  clear hK K
  refine norm_ (a' := ?_) ?_ ?_
  rotate_left
  · show Act.put _ (some 74) _ = _
    simp only [Act.put, List.setIfInBounds_toArray, List.set_cons_zero, List.set_cons_succ, i64_w, i32_w]
    rfl
  refine pure_ (i := 42) (N := some 75) (v := ?_) (a' := ?_) #[true, true, true, true, true, true, true, true, true, true, true, true, true, true, true, true, true, true, true, true, true, true, true, true, true, true, true, true, true, true, true, true, true, true, true, true, true, true, true, true, true, true, true, false, false, false, false, false, false, false, false, false, false, false, false, false, false] rfl rfl (by kernel_rfl) (fun _ _ _ h => h) (Or.inl ⟨by rfl, ?_⟩) ?_ ?_
  rotate_left
  · intro w'
    go_simp
    with_reducible rfl
  rotate_left
  · simp only [Act.put, List.setIfInBounds_toArray, List.set_cons_zero, List.set_cons_succ, i64_w, i32_w]
    rfl
  refine pure_ (i := 43) (N := some 76) (v := ?_) (a' := ?_) #[true, true, true, true, true, true, true, true, true, true, true, true, true, true, true, true, true, true, true, true, true, true, true, true, true, true, true, true, true, true, true, true, true, true, true, true, true, true, true, true, true, true, true, true, false, false, false, false, false, false, false, false, false, false, false, false, false] rfl rfl (by kernel_rfl) (fun _ _ _ h => h) (Or.inl ⟨by rfl, ?_⟩) ?_ ?_
  rotate_left
  · intro w'
    go_simp
    with_reducible rfl
  rotate_left
  · simp only [Act.put, List.setIfInBounds_toArray, List.set_cons_zero, List.set_cons_succ, i64_w, i32_w]
    rfl
  refine pure_ (i := 44) (N := some 77) (v := ?_) (a' := ?_) #[true, true, true, true, true, true, true, true, true, true, true, true, true, true, true, true, true, true, true, true, true, true, true, true, true, true, true, true, true, true, true, true, true, true, true, true, true, true, true, true, true, true, true, true, true, false, false, false, false, false, false, false, false, false, false, false, false] rfl rfl (by kernel_rfl) (fun _ _ _ h => h) (Or.inl ⟨by rfl, ?_⟩) ?_ ?_
  rotate_left
  · intro w'
    go_simp
    with_reducible rfl
  rotate_left
  · simp only [Act.put, List.setIfInBounds_toArray, List.set_cons_zero, List.set_cons_succ, i64_w, i32_w]
    rfl
  refine pure_ (i := 45) (N := some 78) (v := ?_) (a' := ?_) #[true, true, true, true, true, true, true, true, true, true, true, true, true, true, true, true, true, true, true, true, true, true, true, true, true, true, true, true, true, true, true, true, true, true, true, true, true, true, true, true, true, true, true, true, true, true, false, false, false, false, false, false, false, false, false, false, false] rfl rfl (by kernel_rfl) (fun _ _ _ h => h) (Or.inl ⟨by rfl, ?_⟩) ?_ ?_
  rotate_left
  · intro w'
    go_simp
    with_reducible rfl
  rotate_left
  · simp only [Act.put, List.setIfInBounds_toArray, List.set_cons_zero, List.set_cons_succ, i64_w, i32_w]
    rfl
  refine pure_ (i := 46) (N := some 79) (v := ?_) (a' := ?_) #[true, true, true, true, true, true, true, true, true, true, true, true, true, true, true, true, true, true, true, true, true, true, true, true, true, true, true, true, true, true, true, true, true, true, true, true, true, true, true, true, true, true, true, true, true, true, true, false, false, false, false, false, false, false, false, false, false] rfl rfl (by kernel_rfl) (fun _ _ _ h => h) (Or.inl ⟨by rfl, ?_⟩) ?_ ?_
  rotate_left
  · intro w'
    go_simp
    with_reducible rfl
  rotate_left
  · simp only [Act.put, List.setIfInBounds_toArray, List.set_cons_zero, List.set_cons_succ, i64_w, i32_w]
    rfl
  refine pure_ (i := 49) (N := some 82) (v := ?_) (a' := ?_) #[true, true, true, true, true, true, true, true, true, true, true, true, true, true, true, true, true, true, true, true, true, true, true, true, true, true, true, true, true, true, true, true, true, true, true, true, true, true, true, true, true, true, true, true, true, true, true, false, false, true, false, false, false, false, false, false, false] rfl rfl (by kernel_rfl) (fun _ _ _ h => h) (Or.inl ⟨by rfl, ?_⟩) ?_ ?_
  rotate_left
  · intro w'
    go_simp
    with_reducible rfl
  rotate_left
  · simp only [Act.put, List.setIfInBounds_toArray, List.set_cons_zero, List.set_cons_succ, i64_w, i32_w]
    rfl
  refine pure_ (i := 50) (N := some 83) (v := ?_) (a' := ?_) #[true, true, true, true, true, true, true, true, true, true, true, true, true, true, true, true, true, true, true, true, true, true, true, true, true, true, true, true, true, true, true, true, true, true, true, true, true, true, true, true, true, true, true, true, true, true, true, false, false, true, true, false, false, false, false, false, false] rfl rfl (by kernel_rfl) (fun _ _ _ h => h) (Or.inl ⟨by rfl, ?_⟩) ?_ ?_
  rotate_left
  · intro w'
    go_simp
    with_reducible rfl
  rotate_left
  · simp only [Act.put, List.setIfInBounds_toArray, List.set_cons_zero, List.set_cons_succ, i64_w, i32_w]
    rfl
  refine pure_ (i := 51) (N := some 84) (v := ?_) (a' := ?_) #[true, true, true, true, true, true, true, true, true, true, true, true, true, true, true, true, true, true, true, true, true, true, true, true, true, true, true, true, true, true, true, true, true, true, true, true, true, true, true, true, true, true, true, true, true, true, true, false, false, true, true, true, false, false, false, false, false] rfl rfl (by kernel_rfl) (fun _ _ _ h => h) (Or.inl ⟨by rfl, ?_⟩) ?_ ?_
  rotate_left
  · intro w'
    go_simp
    with_reducible rfl
  rotate_left
  · simp only [Act.put, List.setIfInBounds_toArray, List.set_cons_zero, List.set_cons_succ, i64_w, i32_w]
    rfl
  refine take_ (i := 47) (N := some 80) (v := ?_) (a' := ?_) #[true, true, true, true, true, true, true, true, true, true, true, true, true, true, true, true, true, true, true, true, true, true, true, true, true, true, true, true, true, true, true, true, true, true, true, true, true, true, true, true, true, true, true, true, true, true, true, true, false, true, true, true, false, false, false, false, false] rfl rfl (by kernel_rfl) (fun _ _ _ h => h) (Or.inl ⟨by rfl, ?_⟩) hHeld ?_ ?_
  rotate_left
  · rintro w' ⟨s0, s1, s2, s3, s4, s5, s6, s7, s8, s9, s10, s11, s12, s13, s14, s15, s16, s17, s18, s19, s20, s21, s22⟩
    go_simp
    with_reducible rfl
  rotate_left
  · simp only [Act.put, List.setIfInBounds_toArray, List.set_cons_zero, List.set_cons_succ, i64_w, i32_w]
    rfl
  refine take_ (i := 52) (N := some 85) (v := ?_) (a' := ?_) #[true, true, true, true, true, true, true, true, true, true, true, true, true, true, true, true, true, true, true, true, true, true, true, true, true, true, true, true, true, true, true, true, true, true, true, true, true, true, true, true, true, true, true, true, true, true, true, true, false, true, true, true, true, false, false, false, false] rfl rfl (by kernel_rfl) (fun _ _ _ h => h) (Or.inl ⟨by rfl, ?_⟩) hHeld ?_ ?_
  rotate_left
  · rintro w' ⟨s0, s1, s2, s3, s4, s5, s6, s7, s8, s9, s10, s11, s12, s13, s14, s15, s16, s17, s18, s19, s20, s21, s22⟩
    go_simp
    with_reducible rfl
  rotate_left
  · simp only [Act.put, List.setIfInBounds_toArray, List.set_cons_zero, List.set_cons_succ, i64_w, i32_w]
    rfl
  refine one_ (i := 48) (N := some 81) #[true, true, true, true, true, true, true, true, true, true, true, true, true, true, true, true, true, true, true, true, true, true, true, true, true, true, true, true, true, true, true, true, true, true, true, true, true, true, true, true, true, true, true, true, true, true, true, true, true, true, true, true, true, false, false, false, false] rfl rfl (by kernel_rfl) (by decide) (fun K hK => ?_)
  refine goes_ Try.func52 (by kernel_rfl) rfl #[.pointer (some ⟨g, 0, none⟩), .int .u32 f.f1.f0] (by rfl) rfl rfl (by simp only [List.map_toArray, List.map_cons, List.map_nil]; rfl) ?_
  with_reducible refine (Count_calls _ B0 g b M (F5.out.below Dh.out) (Nat.le_trans HML.out (by decide)) f.f1.f0).mono ?_
  rintro e wi ⟨rfl, hb⟩
  refine ⟨_, rfl, ?_⟩
  have Di := Aside0.mk (below_step Dh.out hb)
  clear hb
  refine hK.out _ _ ⟨(pw_cell_below Di.out KG.out), (blk_cell (blk_below X5.out Di.out) 0), (blk_cell (blk_below X5.out Di.out) 1), (blk_cell (blk_below X5.out Di.out) 2), (blk_cell (blk_below X5.out Di.out) 3), (blk_cell (blk_below X5.out Di.out) 4), (blk_cell (blk_below X5.out Di.out) 5), (blk_cell (blk_below Y5.out Di.out) 0), (blk_cell (blk_below Y5.out Di.out) 1), (blk_cell (blk_below Y5.out Di.out) 2), (blk_cell (blk_below Y5.out Di.out) 3), (blk_cell (blk_below Y5.out Di.out) 4), (blk_cell (blk_below Y5.out Di.out) 5), (blk_cell (blk_below Y5.out Di.out) 6), (blk_cell (blk_below Y5.out Di.out) 7), (blk_cell (blk_below Z5.out Di.out) 0), (blk_cell (blk_below Z5.out Di.out) 1), (blk_cell (blk_below Z5.out Di.out) 2), (blk_cell (blk_below Z5.out Di.out) 3), (blk_cell (blk_below Z5.out Di.out) 4), (blk_cell (blk_below Z5.out Di.out) 5), (blk_cell (blk_below Z5.out Di.out) 6), (blk_cell (blk_below Z5.out Di.out) 7)⟩ (fun hHeld => ?_)
  clear hK K
  refine norm_ (a' := ?_) ?_ ?_
  rotate_left
  · show Act.put _ (some 81) _ = _
    simp only [Act.put, List.setIfInBounds_toArray, List.set_cons_zero, List.set_cons_succ, i64_w, i32_w]
    rfl
  refine one_ (i := 53) (N := some 86) #[true, true, true, true, true, true, true, true, true, true, true, true, true, true, true, true, true, true, true, true, true, true, true, true, true, true, true, true, true, true, true, true, true, true, true, true, true, true, true, true, true, true, true, true, true, true, true, true, true, true, true, true, true, true, false, false, false] rfl rfl (by kernel_rfl) (by decide) (fun K hK => ?_)
  refine goes_ Try.func67 (by kernel_rfl) rfl #[.pointer (some ⟨gR, 0, none⟩), .int .u32 f.f1.f0] (by rfl) rfl rfl (by simp only [List.map_toArray, List.map_cons, List.map_nil]; rfl) ?_
  with_reducible refine (RCount_calls _ B1 gR M (R5.out.below Di.out) (Nat.le_trans HML.out (by decide)) f.f1.f0).mono ?_
  rintro e wj ⟨rfl, hb⟩
  refine ⟨_, rfl, ?_⟩
  have Dj := Aside0.mk (below_step Di.out hb)
  clear hb
  refine hK.out _ _ ⟨(pw_cell_below Dj.out KG.out), (blk_cell (blk_below X5.out Dj.out) 0), (blk_cell (blk_below X5.out Dj.out) 1), (blk_cell (blk_below X5.out Dj.out) 2), (blk_cell (blk_below X5.out Dj.out) 3), (blk_cell (blk_below X5.out Dj.out) 4), (blk_cell (blk_below X5.out Dj.out) 5), (blk_cell (blk_below Y5.out Dj.out) 0), (blk_cell (blk_below Y5.out Dj.out) 1), (blk_cell (blk_below Y5.out Dj.out) 2), (blk_cell (blk_below Y5.out Dj.out) 3), (blk_cell (blk_below Y5.out Dj.out) 4), (blk_cell (blk_below Y5.out Dj.out) 5), (blk_cell (blk_below Y5.out Dj.out) 6), (blk_cell (blk_below Y5.out Dj.out) 7), (blk_cell (blk_below Z5.out Dj.out) 0), (blk_cell (blk_below Z5.out Dj.out) 1), (blk_cell (blk_below Z5.out Dj.out) 2), (blk_cell (blk_below Z5.out Dj.out) 3), (blk_cell (blk_below Z5.out Dj.out) 4), (blk_cell (blk_below Z5.out Dj.out) 5), (blk_cell (blk_below Z5.out Dj.out) 6), (blk_cell (blk_below Z5.out Dj.out) 7)⟩ (fun hHeld => ?_)
  clear hK K
  refine norm_ (a' := ?_) ?_ ?_
  rotate_left
  · show Act.put _ (some 86) _ = _
    simp only [Act.put, List.setIfInBounds_toArray, List.set_cons_zero, List.set_cons_succ, i64_w, i32_w]
    rfl
  refine pure_ (i := 54) (N := some 87) (v := (.bool true)) (a' := ?aa_3) #[true, true, true, true, true, true, true, true, true, true, true, true, true, true, true, true, true, true, true, true, true, true, true, true, true, true, true, true, true, true, true, true, true, true, true, true, true, true, true, true, true, true, true, true, true, true, true, true, true, true, true, true, true, true, true, false, false] rfl rfl (by kernel_rfl) (fun _ _ _ h => h) ?hy_3 ?ha_3 ?h_3
  case hy_3 => exact Or.inl ⟨by rfl, fun w' => by go_simp⟩
  case ha_3 => simp only [Act.put, List.setIfInBounds_toArray, List.set_cons_zero, List.set_cons_succ, i64_w, i32_w]; rfl
  refine pure_ (i := 55) (N := some 88) (v := ?_) (a' := ?_) #[true, true, true, true, true, true, true, true, true, true, true, true, true, true, true, true, true, true, true, true, true, true, true, true, true, true, true, true, true, true, true, true, true, true, true, true, true, true, true, true, true, true, true, true, true, true, true, true, true, true, true, true, true, true, true, true, false] rfl rfl (by kernel_rfl) (fun _ _ _ h => h) (Or.inl ⟨by rfl, ?_⟩) ?_ ?_
  rotate_left
  · intro w'
    go_simp
    with_reducible rfl
  rotate_left
  · simp only [Act.put, List.setIfInBounds_toArray, List.set_cons_zero, List.set_cons_succ, i64_w, i32_w]
    rfl
  refine pure_ (i := 56) (N := some 6) (v := ?_) (a' := ?_) #[true, true, true, true, true, true, true, true, true, true, true, true, true, true, true, true, true, true, true, true, true, true, true, true, true, true, true, true, true, true, true, true, true, true, true, true, true, true, true, true, true, true, true, true, true, true, true, true, true, true, true, true, true, true, true, true, true] rfl rfl (by kernel_rfl) (fun _ _ _ h => h) (Or.inl ⟨by rfl, ?_⟩) ?_ ?_
  rotate_left
  · intro w'
    go_simp
    with_reducible rfl
  rotate_left
  · simp only [Act.put, List.setIfInBounds_toArray, List.set_cons_zero, List.set_cons_succ, i64_w, i32_w]
    rfl
  refine done_ (by kernel_rfl) ?_
  go_wp2_with fail
  go_ret
  exact ⟨rfl, below_step B5.out Dj.out⟩
end Go.Proofs.Ytkpaibkkigfahaa.Fl
