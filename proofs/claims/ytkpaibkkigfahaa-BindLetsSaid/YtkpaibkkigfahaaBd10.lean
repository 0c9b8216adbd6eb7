/- chapter 18: BindLets: the walk. -/
import Derived.Test.YtkpaibkkigfahaaBd9
namespace Go.Proofs.Ytkpaibkkigfahaa.Bd
open Go.RowKit Go.Proofs.YtkpaibkkigfahaaW.PrintWords Go.Proofs.YtkpaibkkigfahaaW.PrintLast Go.Proofs.YtkpaibkkigfahaaW.PrintMore Go.Proofs.Ytkpaibkkigfahaa.Bs Go.Proofs.Ytkpaibkkigfahaa.Fr Go.Proofs.Ytkpaibkkigfahaa.Mp
open Go.Proofs.Ytkpaibkkigfahaa.PBindLets
set_option linter.unusedVariables false
set_option linter.unusedSimpArgs false
set_option maxHeartbeats 8000000 in
set_option maxRecDepth 100000 in
theorem lets_walk (w : World) (ml : List Value) (hsz : ml.length = 20) (u h : Int) (h5 : ml.toArray[5]? = some (.int .i64 u)) (h6 : ml.toArray[6]? = some (.int .i64 h)) (A : Option Addr) (cap : Nat) (fs : List F3) (hm : ml.toArray[19]? = some (.slice A fs.length cap)) (hC : kF.C w A fs.length fs)
    (hw : ∀ f ∈ fs, 0 ≤ f.1 ∧ f.1 < 4294967296) (na : Nat) (hna : na < 4294967296) (fp now : Int) :
    Calls Try.prog 5 #[.agg ml.toArray, .agg #[.int .u32 (na : Int), .int .i64 fp], .int .i64 now] w fun e w' => e = .returned (.bool true) ∧ Below w.heap.size w w' := by
  have x1 := blk_alloc (blk_new w (.cells ml.toArray 33)) (E1 (na : Int) fp)
  have x2 := two_new w (.cells ml.toArray 33) (E1 (na : Int) fp)
  have B1 := Aside0.mk (Below.alloc (below_alloc (Below.refl w.heap.size w) (.cells ml.toArray 33)) (by rw [World.size_alloc]; exact Nat.le_succ _) (E1 (na : Int) fp))
  have AW := Aside0.mk (awake_calls ((w.alloc (.cells ml.toArray 33)).alloc (E1 (na : Int) fp)))
  have X1 := Aside0.mk x1
  have X2 := Aside0.mk x2
  have HSZ : Aside0 ((Try.prog.info? 33).map (·.size) = some ml.length) := ⟨by rw [hsz]; exact info33⟩
  have H5 := Aside0.mk h5
  have H6 := Aside0.mk h6
  have HM := Aside0.mk hm
  have HC := Aside0.mk hC
  have HSAME := Aside0.mk (lets_same fs fp na hna hw)
  have HLN := Aside0.mk hC.2.1
  clear x1 x2 h5 h6 hm hC hw hna hsz
  unfold E1 at AW B1 X1 X2
  go_enter Try.func5, Try.ntmps5
  go_wp2_with fail
  refine AW.out.mono ?_
  rintro e wA ⟨rfl, hbA⟩
  have XA := Aside0.mk (blk_below X1.out hbA)
  have YA := Aside0.mk (blk_below X2.out hbA)
  have BA := Aside0.mk (below_step B1.out hbA)
  have kx : wA.cell? ⟨w.heap.size, 19, none⟩ = some (.slice A fs.length cap) := by rw [← HM.out]; exact blk_cell XA.out 19
  clear hbA X1 X2 B1 AW
  by_cases hn : (fs.length : Int) > 1000
  · have hn1 : decide ((fs.length : Int) > 1000) = true := decide_eq_true hn
    go_wp2_with fail
    go_ret
    exact ⟨rfl, BA.out⟩
  have hn1 : decide ((fs.length : Int) > 1000) = false := decide_eq_false hn
  have HN := Aside0.mk (show fs.length ≤ 1000000 by omega)
  have CA := Aside0.mk (Kd.C_below HC.out BA.out)
  go_upto_region 5 with fail
  clear kx
  refine start_ (n := 17) (S := fun w' => w'.rangeAt w.heap.size 0 ml ∧ w'.cell? ⟨w.heap.size + 1, 0, none⟩ = some (.int .u32 (na : Int)) ∧ w'.cell? ⟨w.heap.size + 1, 1, none⟩ = some (.int .i64 fp)) (ds := []) #[false, false, false, false, false, false, false, false, false, false, false, false, false, false, false, false, false] (by kernel_rfl) rfl rfl ⟨(range_blk (cs := ml) XA.out), (blk_cell YA.out 0), (blk_cell YA.out 1)⟩ (fun hHeld => ?_)
  refine pure_ (i := 1) (N := some 14) (v := ?_) (a' := ?_) #[false, true, false, false, false, false, false, false, false, false, false, false, false, false, false, false, false] rfl rfl (by kernel_rfl) (fun _ _ _ h => h) (Or.inl ⟨by rfl, ?_⟩) ?_ ?_
  rotate_left
  · intro w'
    go_simp
    with_reducible rfl
  rotate_left
  · simp only [Act.put, List.setIfInBounds_toArray, List.set_cons_zero, List.set_cons_succ, i64_w, i32_w]
    rfl
  refine pure_ (i := 4) (N := some 17) (v := ?_) (a' := ?_) #[false, true, false, false, true, false, false, false, false, false, false, false, false, false, false, false, false] rfl rfl (by kernel_rfl) (fun _ _ _ h => h) (Or.inl ⟨by rfl, ?_⟩) ?_ ?_
  rotate_left
  · intro w'
    go_simp
    with_reducible rfl
  rotate_left
  · simp only [Act.put, List.setIfInBounds_toArray, List.set_cons_zero, List.set_cons_succ, i64_w, i32_w]
    rfl
  refine take_ (i := 0) (N := some 13) (v := (.agg ml.toArray)) (a' := ?aa_1) #[true, true, false, false, true, false, false, false, false, false, false, false, false, false, false, false, false] rfl rfl (by kernel_rfl) (fun _ _ _ h => h) ?hy_1 hHeld ?ha_1 ?h_1
  case hy_1 => exact yieldsIf_load_mid (by rfl) 33 (.tmp 3) rfl w.heap.size 0 rfl ml _ (fun w' s => s.1) Try.underlying33 rfl HSZ.out
  case ha_1 => simp only [Act.put, List.setIfInBounds_toArray, List.set_cons_zero, List.set_cons_succ, i64_w, i32_w]; rfl
  refine take_ (i := 3) (N := some 16) (v := (.agg ml.toArray)) (a' := ?aa_2) #[true, true, false, true, true, false, false, false, false, false, false, false, false, false, false, false, false] rfl rfl (by kernel_rfl) (fun _ _ _ h => h) ?hy_2 hHeld ?ha_2 ?h_2
  case hy_2 => exact yieldsIf_load_mid (by rfl) 33 (.tmp 3) rfl w.heap.size 0 rfl ml _ (fun w' s => s.1) Try.underlying33 rfl HSZ.out
  case ha_2 => simp only [Act.put, List.setIfInBounds_toArray, List.set_cons_zero, List.set_cons_succ, i64_w, i32_w]; rfl
  refine one_ (i := 2) (N := some 15) #[true, true, true, true, true, false, false, false, false, false, false, false, false, false, false, false, false] rfl rfl (by kernel_rfl) (by decide) (fun K hK => ?_)
  refine goes_ Try.func17 (by kernel_rfl) rfl #[.agg ml.toArray, .int .i64 now] (by rfl) rfl rfl (by simp only [List.map_toArray, List.map_cons, List.map_nil]; rfl) ?_
  with_reducible refine (Live_calls _ ml.toArray u h H5.out H6.out now).mono ?_
  rintro e w2 ⟨rfl, hb⟩
  refine ⟨_, rfl, ?_⟩
  replace hb := below_step (Below.refl wA.heap.size wA).drew hb
  have XM := Aside0.mk (blk_below XA.out hb)
  have YM := Aside0.mk (blk_below YA.out hb)
  have CM := Aside0.mk (Kd.C_below CA.out hb)
  have BM := Aside0.mk hb
  clear hb
  refine hK.out _ _ ⟨(range_blk (cs := ml) XM.out), (blk_cell YM.out 0), (blk_cell YM.out 1)⟩ (fun hHeld => ?_)
  clear hK K
  refine norm_ (a' := ?_) ?_ ?_
  rotate_left
  · show Act.put _ (some 15) _ = _
    simp only [Act.put, List.setIfInBounds_toArray, List.set_cons_zero, List.set_cons_succ, i64_w, i32_w]
    rfl
  refine one_ (i := 5) (N := some 18) #[true, true, true, true, true, true, false, false, false, false, false, false, false, false, false, false, false] rfl rfl (by kernel_rfl) (by decide) (fun K hK => ?_)
  refine goes_ Try.func18 (by kernel_rfl) rfl #[.agg ml.toArray, .int .i64 now] (by rfl) rfl rfl (by simp only [List.map_toArray, List.map_cons, List.map_nil]; rfl) ?_
  with_reducible refine (LiveR_calls _ ml.toArray u h H5.out H6.out now).mono ?_
  rintro e w5 ⟨rfl, hb⟩
  refine ⟨_, rfl, ?_⟩
  have XN := Aside0.mk (blk_below XM.out hb)
  have YN := Aside0.mk (blk_below YM.out hb)
  have CN := Aside0.mk (Kd.C_below CM.out hb)
  have BN := Aside0.mk (below_step BM.out hb)
  clear hb
  refine hK.out _ _ ⟨(range_blk (cs := ml) XN.out), (blk_cell YN.out 0), (blk_cell YN.out 1)⟩ (fun hHeld => ?_)
  clear hK K
  refine norm_ (a' := ?_) ?_ ?_
  rotate_left
  · show Act.put _ (some 18) _ = _
    simp only [Act.put, List.setIfInBounds_toArray, List.set_cons_zero, List.set_cons_succ, i64_w, i32_w]
    rfl
  refine pure_ (i := 6) (N := some 19) (v := (.bool true)) (a' := ?aa_5) #[true, true, true, true, true, true, true, false, false, false, false, false, false, false, false, false, false] rfl rfl (by kernel_rfl) (fun _ _ _ h => h) ?hy_5 ?ha_5 ?h_5
  case hy_5 => exact Or.inl ⟨by rfl, fun w' => by go_simp⟩
  case ha_5 => simp only [Act.put, List.setIfInBounds_toArray, List.set_cons_zero, List.set_cons_succ, i64_w, i32_w]; rfl
  refine pure_ (i := 7) (N := some 20) (v := ?_) (a' := ?_) #[true, true, true, true, true, true, true, true, false, false, false, false, false, false, false, false, false] rfl rfl (by kernel_rfl) (fun _ _ _ h => h) (Or.inl ⟨by rfl, ?_⟩) ?_ ?_
  rotate_left
  · intro w'
    go_simp
    with_reducible rfl
  rotate_left
  · simp only [Act.put, List.setIfInBounds_toArray, List.set_cons_zero, List.set_cons_succ, i64_w, i32_w]
    rfl
  refine take_ (i := 8) (N := some 21) (v := (.agg ml.toArray)) (a' := ?aa_3) #[true, true, true, true, true, true, true, true, true, false, false, false, false, false, false, false, false] rfl rfl (by kernel_rfl) (fun _ _ _ h => h) ?hy_3 hHeld ?ha_3 ?h_3
  case hy_3 => exact yieldsIf_load_mid (by rfl) 33 (.tmp 3) rfl w.heap.size 0 rfl ml _ (fun w' s => s.1) Try.underlying33 rfl HSZ.out
  case ha_3 => simp only [Act.put, List.setIfInBounds_toArray, List.set_cons_zero, List.set_cons_succ, i64_w, i32_w]; rfl
  refine take_ (i := 9) (N := some 22) (v := ?_) (a' := ?_) #[true, true, true, true, true, true, true, true, true, true, false, false, false, false, false, false, false] rfl rfl (by kernel_rfl) (fun _ _ _ h => h) (Or.inl ⟨by rfl, ?_⟩) hHeld ?_ ?_
  rotate_left
  · rintro w' ⟨s0, s1, s2⟩
    go_simp
    with_reducible rfl
  rotate_left
  · simp only [Act.put, List.setIfInBounds_toArray, List.set_cons_zero, List.set_cons_succ, i64_w, i32_w]
    rfl
  refine take_ (i := 11) (N := some 24) (v := (.agg ml.toArray)) (a' := ?aa_4) #[true, true, true, true, true, true, true, true, true, true, false, true, false, false, false, false, false] rfl rfl (by kernel_rfl) (fun _ _ _ h => h) ?hy_4 hHeld ?ha_4 ?h_4
  case hy_4 => exact yieldsIf_load_mid (by rfl) 33 (.tmp 3) rfl w.heap.size 0 rfl ml _ (fun w' s => s.1) Try.underlying33 rfl HSZ.out
  case ha_4 => simp only [Act.put, List.setIfInBounds_toArray, List.set_cons_zero, List.set_cons_succ, i64_w, i32_w]; rfl
  refine take_ (i := 12) (N := some 25) (v := ?_) (a' := ?_) #[true, true, true, true, true, true, true, true, true, true, false, true, true, false, false, false, false] rfl rfl (by kernel_rfl) (fun _ _ _ h => h) (Or.inl ⟨by rfl, ?_⟩) hHeld ?_ ?_
  rotate_left
  · rintro w' ⟨s0, s1, s2⟩
    go_simp
    with_reducible rfl
  rotate_left
  · simp only [Act.put, List.setIfInBounds_toArray, List.set_cons_zero, List.set_cons_succ, i64_w, i32_w]
    rfl
  refine one_ (i := 10) (N := some 23) #[true, true, true, true, true, true, true, true, true, true, true, true, true, false, false, false, false] rfl rfl (by kernel_rfl) (by decide) (fun K hK => ?_)
  refine goes_ Try.func16 (by kernel_rfl) rfl #[.agg ml.toArray, .agg #[.int .u32 (na : Int), .int .i64 fp]] (by rfl) rfl rfl (by simp only [List.map_toArray, List.map_cons, List.map_nil]; rfl) ?_
  with_reducible refine (Lets_calls _ ml.toArray A cap fs HM.out CN.out HN.out na fp).mono ?_
  rintro e w10 ⟨rfl, hb⟩
  refine ⟨_, rfl, ?_⟩
  have XO := Aside0.mk (blk_below XN.out hb)
  have YO := Aside0.mk (blk_below YN.out hb)
  have CO := Aside0.mk (Kd.C_below CN.out hb)
  have BO := Aside0.mk (below_step BN.out hb)
  clear hb
  refine hK.out _ _ ⟨(range_blk (cs := ml) XO.out), (blk_cell YO.out 0), (blk_cell YO.out 1)⟩ (fun hHeld => ?_)
  clear hK K
  refine norm_ (a' := ?_) ?_ ?_
  rotate_left
  · show Act.put _ (some 23) _ = _
    simp only [Act.put, List.setIfInBounds_toArray, List.set_cons_zero, List.set_cons_succ, i64_w, i32_w]
    rfl
  refine one_ (i := 13) (N := some 26) #[true, true, true, true, true, true, true, true, true, true, true, true, true, true, false, false, false] rfl rfl (by kernel_rfl) (by decide) (fun K hK => ?_)
  refine goes_ Try.func19 (by kernel_rfl) rfl #[.agg ml.toArray, .agg #[.int .u32 (na : Int), .int .i64 fp]] (by rfl) rfl rfl (by simp only [List.map_toArray, List.map_cons, List.map_nil]; rfl) ?_
  with_reducible refine (LetsR_calls _ ml.toArray A cap fs HM.out CO.out HN.out na fp).mono ?_
  rintro e w13 ⟨rfl, hb⟩
  refine ⟨_, rfl, ?_⟩
  rw [HSAME.out]
  have XZ := Aside0.mk (blk_below XO.out hb)
  have YZ := Aside0.mk (blk_below YO.out hb)
  have CZ := Aside0.mk (Kd.C_below CO.out hb)
  have BZ := Aside0.mk (below_step BO.out hb)
  clear hb
  refine hK.out _ _ ⟨(range_blk (cs := ml) XZ.out), (blk_cell YZ.out 0), (blk_cell YZ.out 1)⟩ (fun hHeld => ?_)
  clear hK K
  refine norm_ (a' := ?_) ?_ ?_
  rotate_left
  · show Act.put _ (some 26) _ = _
    simp only [Act.put, List.setIfInBounds_toArray, List.set_cons_zero, List.set_cons_succ, i64_w, i32_w]
    rfl
  refine pure_ (i := 14) (N := some 27) (v := (.bool true)) (a' := ?aa_6) #[true, true, true, true, true, true, true, true, true, true, true, true, true, true, true, false, false] rfl rfl (by kernel_rfl) (fun _ _ _ h => h) ?hy_6 ?ha_6 ?h_6
  case hy_6 => exact Or.inl ⟨by rfl, fun w' => by go_simp⟩
  case ha_6 => simp only [Act.put, List.setIfInBounds_toArray, List.set_cons_zero, List.set_cons_succ, i64_w, i32_w]; rfl
  refine pure_ (i := 15) (N := some 28) (v := ?_) (a' := ?_) #[true, true, true, true, true, true, true, true, true, true, true, true, true, true, true, true, false] rfl rfl (by kernel_rfl) (fun _ _ _ h => h) (Or.inl ⟨by rfl, ?_⟩) ?_ ?_
  rotate_left
  · intro w'
    go_simp
    with_reducible rfl
  rotate_left
  · simp only [Act.put, List.setIfInBounds_toArray, List.set_cons_zero, List.set_cons_succ, i64_w, i32_w]
    rfl
  refine pure_ (i := 16) (N := some 6) (v := ?_) (a' := ?_) #[true, true, true, true, true, true, true, true, true, true, true, true, true, true, true, true, true] rfl rfl (by kernel_rfl) (fun _ _ _ h => h) (Or.inl ⟨by rfl, ?_⟩) ?_ ?_
  rotate_left
  · intro w'
    go_simp
    with_reducible rfl
  rotate_left
  · simp only [Act.put, List.setIfInBounds_toArray, List.set_cons_zero, List.set_cons_succ, i64_w, i32_w]
    rfl
  refine done_ (by kernel_rfl) ?_
  go_wp2_with fail
  go_ret
  exact ⟨rfl, below_step BA.out BZ.out⟩
end Go.Proofs.Ytkpaibkkigfahaa.Bd
