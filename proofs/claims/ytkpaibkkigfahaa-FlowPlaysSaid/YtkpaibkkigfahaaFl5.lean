/- flow.Table.lay: a session put in, where there is one, or is none. -/
import Derived.Test.YtkpaibkkigfahaaFl4
import Derived.Test.YtkpaibkkigfahaaMp4
namespace Go.Proofs.Ytkpaibkkigfahaa.Fl
open Go.RowKit Go.Proofs.YtkpaibkkigfahaaW.PrintWords Go.Proofs.YtkpaibkkigfahaaW.PrintLast Go.Proofs.YtkpaibkkigfahaaW.PrintMore Go.Proofs.Ytkpaibkkigfahaa.Bs Go.Proofs.Ytkpaibkkigfahaa.Fr Go.Proofs.Ytkpaibkkigfahaa.Mp Go.Proofs.Ytkpaibkkigfahaa.Srt
open Go.Proofs.Ytkpaibkkigfahaa.PFlowPlays Go.Proofs.Ytkpaibkkigfahaa.FlP
set_option linter.unusedVariables false
set_option linter.unusedSimpArgs false

def layE (M : List S46) (f : S46) (there : Bool) (e : Int) : Int := if chk f = 0 then (if hasM M (keyF f) = there then 0 else e) else 1
def layM (M : List S46) (f : S46) (there : Bool) : List S46 := if chk f = 0 ∧ hasM M (keyF f) = there then upM M f else M
theorem chk_cases (f : S46) : chk f = 0 ∨ chk f = 1 := by unfold chk; split <;> simp
theorem Check_calls (f : S46) (w : World) : Calls Try.prog 32 #[valF f] w fun e w' => e = .returned (.int .i64 (chk f)) ∧ Below w.heap.size w w' := flow_Check.calls _ _ _ _ _ _ _ _ _ _ w (check_f 0 f)
/-- What the look into the map hands back. -/
def foundV (o : Option S46) : Value := match o with | none => .agg #[.int .i64 0, .int .u32 0, .int .i64 0, .int .u32 0, .int .i64 0, .int .i64 0, .int .i64 0, .int .i64 0] | some x => valF x
theorem found_agg (o : Option S46) : ∃ y : S46, foundV o = .agg #[.int .i64 y.f0, .int .u32 y.f1.f0, .int .i64 y.f1.f1, .int .u32 y.f2.f0, .int .i64 y.f2.f1, .int .i64 y.f3, .int .i64 y.f4, .int .i64 y.f5] := by cases o with
  | none => exact ⟨z46, rfl⟩
  | some x => exact ⟨x, rfl⟩
theorem found_get (o : Option S46) : (o.map valF).getD (.agg #[.int .i64 0, .int .u32 0, .int .i64 0, .int .u32 0, .int .i64 0, .int .i64 0, .int .i64 0, .int .i64 0]) = foundV o ∧ (o.map valF).isSome = o.isSome := by cases o <;> exact ⟨rfl, rfl⟩
set_option maxHeartbeats 4000000 in
set_option maxRecDepth 100000 in
theorem lay_bad (w : World) (base g b : Nat) (M : List S46) (h : FT w base g b M) (f : S46) (there : Bool) (e : Int) (hc : chk f = 1) :
    Calls Try.prog 53 #[.pointer (some ⟨g, 0, none⟩), valF f, .bool there, .int .i64 e] w fun e' w' => e' = .returned (.int .i64 1) ∧ Below w.heap.size w w' := by
  have H := Aside0.mk h
  have HC := Aside0.mk hc
  clear h hc
  have B1 := Aside0.mk (below_alloc (Below.refl w.heap.size w) (.cells #[.int .i64 f.f0, .int .u32 f.f1.f0, .int .i64 f.f1.f1, .int .u32 f.f2.f0, .int .i64 f.f2.f1, .int .i64 f.f3, .int .i64 f.f4, .int .i64 f.f5] 46))
  have hck := fun W => Check_calls f W
  have HCK := Aside0.mk hck
  clear hck
  unfold valF at HCK ⊢
  go_enter Try.func53, Try.ntmps53
  go_wp2_with (first
    | (go_at_call 82; refine (made_calls _ base g b M (H.out.below B1.out)).mono ?_; rintro e w1 ⟨rfl, rfl⟩)
    | (go_at_call 32; refine (HCK.out _).mono ?_; rintro e w2 ⟨rfl, hb2⟩; have B2 := Aside0.mk (below_step B1.out hb2); clear hb2; rw [HC.out]))
  go_ret
  exact ⟨rfl, B2.out⟩
set_option maxHeartbeats 8000000 in
set_option maxRecDepth 100000 in
theorem lay_calls (w : World) (base g b : Nat) (M : List S46) (h : FT w base g b M) (f : S46) (hok : okK (keyF f)) (there : Bool) (e : Int) (hbase : base ≤ w.heap.size) :
    Calls Try.prog 53 #[.pointer (some ⟨g, 0, none⟩), valF f, .bool there, .int .i64 e] w fun e' w' => e' = .returned (.int .i64 (layE M f there e)) ∧ FT w' base g b (layM M f there) ∧ Fr w w' (fun k => k = b) := by
  rcases chk_cases f with hc | hc
  · have HLE : Aside0 (layE M f there e = if hasM M (keyF f) = there then 0 else e) := ⟨by unfold layE; rw [if_pos hc]⟩
    have HLM : Aside0 (layM M f there = if hasM M (keyF f) = there then upM M f else M) := ⟨by unfold layM; simp only [hc, true_and]⟩
    have H := Aside0.mk h
    have HC := Aside0.mk hc
    have HOK := Aside0.mk hok
    clear h hc hok
    have B1 := Aside0.mk (below_alloc (Below.refl w.heap.size w) (.cells #[.int .i64 f.f0, .int .u32 f.f1.f0, .int .i64 f.f1.f1, .int .u32 f.f2.f0, .int .i64 f.f2.f1, .int .i64 f.f3, .int .i64 f.f4, .int .i64 f.f5] 46))
    have X1 := Aside0.mk (blk_new w (.cells #[.int .i64 f.f0, .int .u32 f.f1.f0, .int .i64 f.f1.f1, .int .u32 f.f2.f0, .int .i64 f.f2.f1, .int .i64 f.f3, .int .i64 f.f4, .int .i64 f.f5] 46))
    have hck := fun W => Check_calls f W
    have HCK := Aside0.mk hck
    clear hck
    unfold valF at HCK ⊢
    go_enter Try.func53, Try.ntmps53
    go_upto_region 6 with (first
      | (go_at_call 82; refine (made_calls _ base g b M (H.out.below B1.out)).mono ?_; rintro e w1 ⟨rfl, rfl⟩)
      | (go_at_call 32; refine (HCK.out _).mono ?_; rintro e w2 ⟨rfl, hb2⟩; have B2 := Aside0.mk (below_step B1.out hb2); have X2 := Aside0.mk (blk_below X1.out hb2); clear hb2; rw [HC.out]))
    have c0 := blk_cell X2.out 0
    have c1 := blk_cell X2.out 1
    have c2 := blk_cell X2.out 2
    have c3 := blk_cell X2.out 3
    have c4 := blk_cell X2.out 4
    have c5 := blk_cell X2.out 5
    have c6 := blk_cell X2.out 6
    have c7 := blk_cell X2.out 7
    simp only [List.getElem?_toArray, List.getElem?_cons_zero, List.getElem?_cons_succ] at c0 c1 c2 c3 c4 c5 c6 c7
    go_upto_region 7 with fail
    have X3 := Aside0.mk (blk_new w2 (.cells #[.int .i64 f.f0, .int .u32 f.f1.f0, .int .i64 f.f1.f1, .int .u32 f.f2.f0, .int .i64 f.f2.f1] 99))
    have F2 := Aside0.mk (H.out.below B2.out)
    have F3 := Aside0.mk ((H.out.below B2.out).below (below_alloc (Below.refl w2.heap.size w2) (.cells #[.int .i64 f.f0, .int .u32 f.f1.f0, .int .i64 f.f1.f1, .int .u32 f.f2.f0, .int .i64 f.f2.f1] 99)))
    have B3 := Aside0.mk (B2.out.alloc B2.out.size (.cells #[.int .i64 f.f0, .int .u32 f.f1.f0, .int .i64 f.f1.f1, .int .u32 f.f2.f0, .int .i64 f.f2.f1] 99))
    have X23 := Aside0.mk (blk_alloc X2.out (.cells #[.int .i64 f.f0, .int .u32 f.f1.f0, .int .i64 f.f1.f1, .int .u32 f.f2.f0, .int .i64 f.f2.f1] 99))
    clear c0 c1 c2 c3 c4 c5 c6 c7
    obtain ⟨q, hq⟩ : ∃ q, q = w2.heap.size := ⟨_, rfl⟩
    rw [← hq] at X3 ⊢
    generalize w2.alloc (.cells #[.int .i64 f.f0, .int .u32 f.f1.f0, .int .i64 f.f1.f1, .int .u32 f.f2.f0, .int .i64 f.f2.f1] 99) = w3 at *
    clear hq B1 X1 B2 X2 F2
    obtain ⟨L, hmap, hget, hup, hdel⟩ := F3.out.look
    have MP := Aside0.mk hmap
    have hg := hget (keyF f)
    obtain ⟨y, hy⟩ := found_agg (getM M (keyF f))
    obtain ⟨hs, hhs⟩ : ∃ hs, hs = hasM M (keyF f) := ⟨_, rfl⟩
    have HG : Aside0 ((aget L (keyF f)).getD (.agg #[.int .i64 0, .int .u32 0, .int .i64 0, .int .u32 0, .int .i64 0, .int .i64 0, .int .i64 0, .int .i64 0]) = .agg #[.int .i64 y.f0, .int .u32 y.f1.f0, .int .i64 y.f1.f1, .int .u32 y.f2.f0, .int .i64 y.f2.f1, .int .i64 y.f3, .int .i64 y.f4, .int .i64 y.f5] ∧ (aget L (keyF f)).isSome = hs) := ⟨by rw [hg, (found_get _).1, (found_get _).2, hy, hhs]; exact ⟨rfl, rfl⟩⟩
    rw [← hhs] at HLE HLM
    clear hy hhs
    have HUP := Aside0.mk hup
    clear hmap hget hup hdel hg
    have kg : w3.drew.cell? ⟨g, 0, none⟩ = some (.map (some b)) := blk_cell F3.out.blk 0
    have k0 : w3.drew.cell? ⟨q, 0, none⟩ = some (.int .i64 f.f0) := blk_cell X3.out 0
    have k1 : w3.drew.cell? ⟨q, 1, none⟩ = some (.int .u32 f.f1.f0) := blk_cell X3.out 1
    have k2 : w3.drew.cell? ⟨q, 2, none⟩ = some (.int .i64 f.f1.f1) := blk_cell X3.out 2
    have k3 : w3.drew.cell? ⟨q, 3, none⟩ = some (.int .u32 f.f2.f0) := blk_cell X3.out 3
    have k4 : w3.drew.cell? ⟨q, 4, none⟩ = some (.int .i64 f.f2.f1) := blk_cell X3.out 4
    refine start_ (n := 12) (S := fun w' => w'.cell? ⟨g, 0, none⟩ = some (.map (some b)) ∧ w'.cell? ⟨q, 0, none⟩ = some (.int .i64 f.f0) ∧ w'.cell? ⟨q, 1, none⟩ = some (.int .u32 f.f1.f0) ∧ w'.cell? ⟨q, 2, none⟩ = some (.int .i64 f.f1.f1) ∧ w'.cell? ⟨q, 3, none⟩ = some (.int .u32 f.f2.f0) ∧ w'.cell? ⟨q, 4, none⟩ = some (.int .i64 f.f2.f1) ∧ MapIs KF w' b L) (ds := [10]) #[false, false, false, false, false, false, false, false, false, false, false, false] (by kernel_rfl) rfl rfl ⟨kg, k0, k1, k2, k3, k4, (MP.out : MapIs KF w3.drew b L)⟩ (fun hHeld => ?_)
    refine pure_ (i := 0) (N := some 29) (v := ?_) (a' := ?_) #[true, false, false, false, false, false, false, false, false, false, false, false] rfl rfl (by kernel_rfl) (fun _ _ _ h => h) (Or.inl ⟨by rfl, ?_⟩) ?_ ?_
    rotate_left
    · intro w'
      go_simp
      with_reducible rfl
    rotate_left
    · simp only [Act.put, List.setIfInBounds_toArray, List.set_cons_zero, List.set_cons_succ, i64_w, i32_w]
      rfl
    refine pure_ (i := 1) (N := some 30) (v := ?_) (a' := ?_) #[true, true, false, false, false, false, false, false, false, false, false, false] rfl rfl (by kernel_rfl) (fun _ _ _ h => h) (Or.inl ⟨by rfl, ?_⟩) ?_ ?_
    rotate_left
    · intro w'
      go_simp
      with_reducible rfl
    rotate_left
    · simp only [Act.put, List.setIfInBounds_toArray, List.set_cons_zero, List.set_cons_succ, i64_w, i32_w]
      rfl
    refine pure_ (i := 2) (N := some 31) (v := ?_) (a' := ?_) #[true, true, true, false, false, false, false, false, false, false, false, false] rfl rfl (by kernel_rfl) (fun _ _ _ h => h) (Or.inl ⟨by rfl, ?_⟩) ?_ ?_
    rotate_left
    · intro w'
      go_simp
      with_reducible rfl
    rotate_left
    · simp only [Act.put, List.setIfInBounds_toArray, List.set_cons_zero, List.set_cons_succ, i64_w, i32_w]
      rfl
    refine take_ (i := 3) (N := some 32) (v := ?_) (a' := ?_) #[true, true, true, true, false, false, false, false, false, false, false, false] rfl rfl (by kernel_rfl) (fun _ _ _ h => h) (Or.inl ⟨by rfl, ?_⟩) hHeld ?_ ?_
    rotate_left
    · rintro w' ⟨s0, s1, s2, s3, s4, s5, s6⟩
      go_simp
      with_reducible rfl
    rotate_left
    · simp only [Act.put, List.setIfInBounds_toArray, List.set_cons_zero, List.set_cons_succ, i64_w, i32_w]
      rfl
    refine take_ (i := 4) (N := some 33) (v := ?_) (a' := ?_) #[true, true, true, true, true, false, false, false, false, false, false, false] rfl rfl (by kernel_rfl) (fun _ _ _ h => h) (Or.inl ⟨by rfl, ?_⟩) hHeld ?_ ?_
    rotate_left
    · rintro w' ⟨s0, s1, s2, s3, s4, s5, s6⟩
      go_simp
      with_reducible rfl
    rotate_left
    · simp only [Act.put, List.setIfInBounds_toArray, List.set_cons_zero, List.set_cons_succ, i64_w, i32_w]
      rfl
    refine take_ (i := 5) (N := some 34) (v := (.tuple #[.agg #[.int .i64 y.f0, .int .u32 y.f1.f0, .int .i64 y.f1.f1, .int .u32 y.f2.f0, .int .i64 y.f2.f1, .int .i64 y.f3, .int .i64 y.f4, .int .i64 y.f5], .bool hs])) (a' := ?aa_1) #[true, true, true, true, true, true, false, false, false, false, false, false] rfl rfl (by kernel_rfl) (fun _ _ _ h => h) ?hy_1 hHeld ?ha_1 ?h_1
    case hy_1 => exact Or.inl ⟨by rfl, fun w' s => look_run KF s.2.2.2.2.2.2 (.tmp 32) (.tmp 33) (by rfl) Try.underlying90 (Try.zeroValue46 w') (keyF f) HOK.out (by rfl) (by rfl) HG.out⟩
    case ha_1 => simp only [Act.put, List.setIfInBounds_toArray, List.set_cons_zero, List.set_cons_succ, i64_w, i32_w]; rfl
    refine pure_ (i := 6) (N := some 28) (v := ?_) (a' := ?_) #[true, true, true, true, true, true, true, false, false, false, false, false] rfl rfl (by kernel_rfl) (fun _ _ _ h => h) (Or.inl ⟨by rfl, ?_⟩) ?_ ?_
    rotate_left
    · intro w'
      go_simp
      with_reducible rfl
    rotate_left
    · simp only [Act.put, List.setIfInBounds_toArray, List.set_cons_zero, List.set_cons_succ, i64_w, i32_w]
      rfl
    refine pure_ (i := 7) (N := some 35) (v := ?_) (a' := ?_) #[true, true, true, true, true, true, true, true, false, false, false, false] rfl rfl (by kernel_rfl) (fun _ _ _ h => h) (Or.inl ⟨by rfl, ?_⟩) ?_ ?_
    rotate_left
    · intro w'
      go_simp
      with_reducible rfl
    rotate_left
    · simp only [Act.put, List.setIfInBounds_toArray, List.set_cons_zero, List.set_cons_succ, i64_w, i32_w]
      rfl
    refine pure_ (i := 8) (N := some 36) (v := ?_) (a' := ?_) #[true, true, true, true, true, true, true, true, true, false, false, false] rfl rfl (by kernel_rfl) (fun _ _ _ h => h) (Or.inl ⟨by rfl, ?_⟩) ?_ ?_
    rotate_left
    · intro w'
      go_simp
      with_reducible rfl
    rotate_left
    · simp only [Act.put, List.setIfInBounds_toArray, List.set_cons_zero, List.set_cons_succ, i64_w, i32_w]
      rfl
    refine one_ (i := 9) (N := some 11) #[true, true, true, true, true, true, true, true, true, true, false, false] rfl rfl (by kernel_rfl) (by decide) (fun K hK => ?_)
    refine value_ (w1 := ?_) (v := ?_) (by rfl) rfl ?_ ?_
    rotate_left 2
    · go_simp
      constructor
      · rfl
      · rfl
    refine hK.out _ _ ⟨(cell_alloc_old (w := w3.drew) kg _), (cell_alloc_old (w := w3.drew) k0 _), (cell_alloc_old (w := w3.drew) k1 _), (cell_alloc_old (w := w3.drew) k2 _), (cell_alloc_old (w := w3.drew) k3 _), (cell_alloc_old (w := w3.drew) k4 _), ((MP.out : MapIs KF w3.drew b L).alloc _)⟩ (fun hHeld => ?_)
    clear hK K
    refine norm_ (a' := ?_) ?_ ?_
    rotate_left
    · show Act.put _ (some 11) _ = _
      simp only [Act.put, List.setIfInBounds_toArray, List.set_cons_zero, List.set_cons_succ, i64_w, i32_w]
      rfl
    refine last_ (i := 10) (N := none) #[true, true, true, true, true, true, true, true, true, true, true, false] rfl rfl (by kernel_rfl) (by decide) (fun K hK => ?_)
    refine skip_ (w1 := ?_) (by rfl) rfl ?_ ?_
    rotate_left
    · go_simp
      rfl
    refine hK.out _ _ ?_
    clear hK K
    refine pure_ (i := 11) (N := some 12) (v := ?_) (a' := ?_) #[true, true, true, true, true, true, true, true, true, true, true, true] rfl rfl (by kernel_rfl) (fun _ _ _ h => h) (Or.inl ⟨by rfl, ?_⟩) ?_ ?_
    rotate_left
    · intro w'
      go_simp
      with_reducible rfl
    rotate_left
    · simp only [Act.put, List.setIfInBounds_toArray, List.set_cons_zero, List.set_cons_succ, i64_w, i32_w]
      rfl
    refine done_ (by kernel_rfl) ?_
    obtain ⟨w4, hw4⟩ : ∃ w4, w4 = (w3.alloc (.cells #[.int .i64 y.f0, .int .u32 y.f1.f0, .int .i64 y.f1.f1, .int .u32 y.f2.f0, .int .i64 y.f2.f1, .int .i64 y.f3, .int .i64 y.f4, .int .i64 y.f5] 46)).drew := ⟨_, rfl⟩
    have hb4 : Below w3.heap.size w3 w4 := by rw [hw4]; exact (below_alloc (Below.refl w3.heap.size w3) _).drew
    have MP4 : Aside0 (MapIs KF w4.drew b L) := ⟨by rw [hw4]; exact (MP.out.alloc _)⟩
    have B4 := Aside0.mk hb4
    have X4 := Aside0.mk (blk_below X3.out hb4)
    have X24 := Aside0.mk (blk_below X23.out hb4)
    have F4 := Aside0.mk (F3.out.below hb4)
    have GG := Aside0.mk (hb4.block g F3.out.lt)
    have B34 := Aside0.mk (below_step B3.out hb4)
    rw [← hw4]
    clear hb4 hw4 kg k0 k1 k2 k3 k4 hHeld MP X3 X23 F3
    have kg : w4.drew.cell? ⟨g, 0, none⟩ = some (.map (some b)) := blk_cell F4.out.blk 0
    have k0 : w4.drew.cell? ⟨q, 0, none⟩ = some (.int .i64 f.f0) := blk_cell X4.out 0
    have k1 : w4.drew.cell? ⟨q, 1, none⟩ = some (.int .u32 f.f1.f0) := blk_cell X4.out 1
    have k2 : w4.drew.cell? ⟨q, 2, none⟩ = some (.int .i64 f.f1.f1) := blk_cell X4.out 2
    have k3 : w4.drew.cell? ⟨q, 3, none⟩ = some (.int .u32 f.f2.f0) := blk_cell X4.out 3
    have k4 : w4.drew.cell? ⟨q, 4, none⟩ = some (.int .i64 f.f2.f1) := blk_cell X4.out 4
    have v0 : w4.drew.cell? ⟨w.heap.size, 0, none⟩ = some (.int .i64 f.f0) := blk_cell X24.out 0
    have v1 : w4.drew.cell? ⟨w.heap.size, 1, none⟩ = some (.int .u32 f.f1.f0) := blk_cell X24.out 1
    have v2 : w4.drew.cell? ⟨w.heap.size, 2, none⟩ = some (.int .i64 f.f1.f1) := blk_cell X24.out 2
    have v3 : w4.drew.cell? ⟨w.heap.size, 3, none⟩ = some (.int .u32 f.f2.f0) := blk_cell X24.out 3
    have v4 : w4.drew.cell? ⟨w.heap.size, 4, none⟩ = some (.int .i64 f.f2.f1) := blk_cell X24.out 4
    have v5 : w4.drew.cell? ⟨w.heap.size, 5, none⟩ = some (.int .i64 f.f3) := blk_cell X24.out 5
    have v6 : w4.drew.cell? ⟨w.heap.size, 6, none⟩ = some (.int .i64 f.f4) := blk_cell X24.out 6
    have v7 : w4.drew.cell? ⟨w.heap.size, 7, none⟩ = some (.int .i64 f.f5) := blk_cell X24.out 7
    by_cases hth : hs = there
    · subst hth
      go_upto_region 10 with fail
      refine start_ (n := 7) (S := fun w' => w'.cell? ⟨g, 0, none⟩ = some (.map (some b)) ∧ w'.cell? ⟨q, 0, none⟩ = some (.int .i64 f.f0) ∧ w'.cell? ⟨q, 1, none⟩ = some (.int .u32 f.f1.f0) ∧ w'.cell? ⟨q, 2, none⟩ = some (.int .i64 f.f1.f1) ∧ w'.cell? ⟨q, 3, none⟩ = some (.int .u32 f.f2.f0) ∧ w'.cell? ⟨q, 4, none⟩ = some (.int .i64 f.f2.f1) ∧ w'.cell? ⟨w.heap.size, 0, none⟩ = some (.int .i64 f.f0) ∧ w'.cell? ⟨w.heap.size, 1, none⟩ = some (.int .u32 f.f1.f0) ∧ w'.cell? ⟨w.heap.size, 2, none⟩ = some (.int .i64 f.f1.f1) ∧ w'.cell? ⟨w.heap.size, 3, none⟩ = some (.int .u32 f.f2.f0) ∧ w'.cell? ⟨w.heap.size, 4, none⟩ = some (.int .i64 f.f2.f1) ∧ w'.cell? ⟨w.heap.size, 5, none⟩ = some (.int .i64 f.f3) ∧ w'.cell? ⟨w.heap.size, 6, none⟩ = some (.int .i64 f.f4) ∧ w'.cell? ⟨w.heap.size, 7, none⟩ = some (.int .i64 f.f5)) (ds := [6]) #[false, false, false, false, false, false, false] (by kernel_rfl) rfl rfl ⟨kg, k0, k1, k2, k3, k4, v0, v1, v2, v3, v4, v5, v6, v7⟩ (fun hHeld => ?_)
      refine pure_ (i := 0) (N := some 41) (v := ?_) (a' := ?_) #[true, false, false, false, false, false, false] rfl rfl (by kernel_rfl) (fun _ _ _ h => h) (Or.inl ⟨by rfl, ?_⟩) ?_ ?_
      rotate_left
      · intro w'
        go_simp
        with_reducible rfl
      rotate_left
      · simp only [Act.put, List.setIfInBounds_toArray, List.set_cons_zero, List.set_cons_succ, i64_w, i32_w]
        rfl
      refine pure_ (i := 1) (N := some 42) (v := ?_) (a' := ?_) #[true, true, false, false, false, false, false] rfl rfl (by kernel_rfl) (fun _ _ _ h => h) (Or.inl ⟨by rfl, ?_⟩) ?_ ?_
      rotate_left
      · intro w'
        go_simp
        with_reducible rfl
      rotate_left
      · simp only [Act.put, List.setIfInBounds_toArray, List.set_cons_zero, List.set_cons_succ, i64_w, i32_w]
        rfl
      refine pure_ (i := 2) (N := some 43) (v := ?_) (a' := ?_) #[true, true, true, false, false, false, false] rfl rfl (by kernel_rfl) (fun _ _ _ h => h) (Or.inl ⟨by rfl, ?_⟩) ?_ ?_
      rotate_left
      · intro w'
        go_simp
        with_reducible rfl
      rotate_left
      · simp only [Act.put, List.setIfInBounds_toArray, List.set_cons_zero, List.set_cons_succ, i64_w, i32_w]
        rfl
      refine take_ (i := 3) (N := some 44) (v := ?_) (a' := ?_) #[true, true, true, true, false, false, false] rfl rfl (by kernel_rfl) (fun _ _ _ h => h) (Or.inl ⟨by rfl, ?_⟩) hHeld ?_ ?_
      rotate_left
      · rintro w' ⟨s0, s1, s2, s3, s4, s5, s6, s7, s8, s9, s10, s11, s12, s13⟩
        go_simp
        with_reducible rfl
      rotate_left
      · simp only [Act.put, List.setIfInBounds_toArray, List.set_cons_zero, List.set_cons_succ, i64_w, i32_w]
        rfl
      refine take_ (i := 4) (N := some 45) (v := ?_) (a' := ?_) #[true, true, true, true, true, false, false] rfl rfl (by kernel_rfl) (fun _ _ _ h => h) (Or.inl ⟨by rfl, ?_⟩) hHeld ?_ ?_
      rotate_left
      · rintro w' ⟨s0, s1, s2, s3, s4, s5, s6, s7, s8, s9, s10, s11, s12, s13⟩
        go_simp
        with_reducible rfl
      rotate_left
      · simp only [Act.put, List.setIfInBounds_toArray, List.set_cons_zero, List.set_cons_succ, i64_w, i32_w]
        rfl
      refine take_ (i := 5) (N := some 46) (v := ?_) (a' := ?_) #[true, true, true, true, true, true, false] rfl rfl (by kernel_rfl) (fun _ _ _ h => h) (Or.inl ⟨by rfl, ?_⟩) hHeld ?_ ?_
      rotate_left
      · rintro w' ⟨s0, s1, s2, s3, s4, s5, s6, s7, s8, s9, s10, s11, s12, s13⟩
        go_simp
        with_reducible rfl
      rotate_left
      · simp only [Act.put, List.setIfInBounds_toArray, List.set_cons_zero, List.set_cons_succ, i64_w, i32_w]
        rfl
      refine last_ (i := 6) (N := none) #[true, true, true, true, true, true, true] rfl rfl (by kernel_rfl) (by decide) (fun K hK => ?_)
      refine map_store_ KF (by rfl) rfl MP4.out (.tmp 44) (.tmp 45) (.tmp 46) rfl Try.underlying90 (keyF f) HOK.out (valF f) rfl rfl rfl ?_
      intro w9 hm9 hg9
      have M9 := Aside0.mk hm9
      have G9 := Aside0.mk hg9
      clear hm9 hg9
      refine hK.out _ _ ?_
      clear hK K
      refine done_ (by kernel_rfl) ?_
      go_wp2_with fail
      go_ret
      rw [HLE.out, HLM.out]
      simp only [if_true]
      refine ⟨rfl, HUP.out f w9 M9.out ?_, (Fr.of_below B34.out.drew (fun k => k = b)).grown G9.out (fun k hk => by cases hk; exact .inl rfl)⟩
      rw [← GG.out]
      exact G9.out.block g F4.out.lt (fun hk => F4.out.ne (by injection hk))
    · have HTH := Aside0.mk hth
      clear hth
      cases hs <;> cases there
      · exact absurd rfl HTH.out
      · go_wp2_with fail
        go_ret
        rw [HLE.out, HLM.out, if_neg (by decide), if_neg (by decide)]
        exact ⟨rfl, F4.out, Fr.of_below B34.out _⟩
      · go_wp2_with fail
        go_ret
        rw [HLE.out, HLM.out, if_neg (by decide), if_neg (by decide)]
        exact ⟨rfl, F4.out, Fr.of_below B34.out _⟩
      · exact absurd rfl HTH.out
  · refine (lay_bad w base g b M h f there e hc).mono ?_
    rintro e' w' ⟨rfl, hb⟩
    have h1 : layE M f there e = 1 := by unfold layE; rw [if_neg (by omega)]
    have h2 : layM M f there = M := by unfold layM; rw [if_neg (by omega)]
    rw [h1, h2]
    exact ⟨rfl, h.below hb, Fr.of_below hb _⟩
end Go.Proofs.Ytkpaibkkigfahaa.Fl
