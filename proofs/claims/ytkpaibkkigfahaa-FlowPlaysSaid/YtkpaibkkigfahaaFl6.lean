/- flow.Table: Get and Drop. -/
import Derived.Test.YtkpaibkkigfahaaFl5
namespace Go.Proofs.Ytkpaibkkigfahaa.Fl
open Go.RowKit Go.Proofs.YtkpaibkkigfahaaW.PrintWords Go.Proofs.YtkpaibkkigfahaaW.PrintLast Go.Proofs.YtkpaibkkigfahaaW.PrintMore Go.Proofs.Ytkpaibkkigfahaa.Bs Go.Proofs.Ytkpaibkkigfahaa.Fr Go.Proofs.Ytkpaibkkigfahaa.Mp Go.Proofs.Ytkpaibkkigfahaa.Srt
open Go.Proofs.Ytkpaibkkigfahaa.PFlowPlays Go.Proofs.Ytkpaibkkigfahaa.FlP
set_option linter.unusedVariables false
set_option linter.unusedSimpArgs false

def E1 (a b : Int) : Obj := .cells #[.int .u32 a, .int .i64 b] 29
def Z46 : Obj := .cells #[.int .i64 0, .int .u32 0, .int .i64 0, .int .u32 0, .int .i64 0, .int .i64 0, .int .i64 0, .int .i64 0] 46
set_option maxHeartbeats 8000000 in
set_option maxRecDepth 100000 in
theorem Get_calls (w : World) (base g b : Nat) (M : List S46) (h : FT w base g b M) (p ia ip fa fp : Int) (hok : okK (p, ia, ip, fa, fp)) :
    Calls Try.prog 58 #[.pointer (some ⟨g, 0, none⟩), .int .i64 p, .agg #[.int .u32 ia, .int .i64 ip], .agg #[.int .u32 fa, .int .i64 fp]] w fun e' w' => e' = .returned (.tuple #[foundV (getM M (p, ia, ip, fa, fp)), .bool (hasM M (p, ia, ip, fa, fp))]) ∧ Below w.heap.size w w' := by
  have H := Aside0.mk h
  have HOK := Aside0.mk hok
  clear h hok
  have B1 := Aside0.mk ((((Below.refl w.heap.size w).alloc (Nat.le_refl _) (E1 ia ip)).alloc (by simp) (E1 fa fp)).alloc (by simp; omega) Z46)
  go_enter Try.func58, Try.ntmps58
  go_upto_region 3 with (go_at_call 82; refine (made_calls _ base g b M (H.out.below B1.out)).mono ?_; rintro e w1 ⟨rfl, rfl⟩)
  have x6 := Aside0.mk (blk_alloc (blk_alloc (blk_new w (E1 ia ip)) (E1 fa fp)) Z46)
  have x7 : Aside0 ((((w.alloc (E1 ia ip)).alloc (E1 fa fp)).alloc Z46).heap[w.heap.size + 1]? = some (E1 fa fp)) := ⟨by have h := blk_alloc (blk_new (w.alloc (E1 ia ip)) (E1 fa fp)) Z46; rw [World.size_alloc] at h; exact h⟩
  have x8 : Aside0 ((((w.alloc (E1 ia ip)).alloc (E1 fa fp)).alloc Z46).heap[w.heap.size + 1 + 1]? = some Z46) := ⟨by have h := blk_new ((w.alloc (E1 ia ip)).alloc (E1 fa fp)) Z46; rw [World.size_alloc, World.size_alloc] at h; exact h⟩
  have F3 := Aside0.mk (H.out.below B1.out)
  obtain ⟨w3, hw3⟩ : ∃ w3, w3 = ((w.alloc (E1 ia ip)).alloc (E1 fa fp)).alloc Z46 := ⟨_, rfl⟩
  rw [← hw3] at B1 x6 x7 x8 F3
  rw [← hw3]
  clear hw3
  obtain ⟨L, hmap, hget, hup, hdel⟩ := F3.out.look
  have MP := Aside0.mk hmap
  have hg := hget (p, ia, ip, fa, fp)
  obtain ⟨y, hy⟩ := found_agg (getM M (p, ia, ip, fa, fp))
  obtain ⟨hs, hhs⟩ : ∃ hs, hs = hasM M (p, ia, ip, fa, fp) := ⟨_, rfl⟩
  have HG : Aside0 ((aget L (p, ia, ip, fa, fp)).getD (.agg #[.int .i64 0, .int .u32 0, .int .i64 0, .int .u32 0, .int .i64 0, .int .i64 0, .int .i64 0, .int .i64 0]) = .agg #[.int .i64 y.f0, .int .u32 y.f1.f0, .int .i64 y.f1.f1, .int .u32 y.f2.f0, .int .i64 y.f2.f1, .int .i64 y.f3, .int .i64 y.f4, .int .i64 y.f5] ∧ (aget L (p, ia, ip, fa, fp)).isSome = hs) := ⟨by rw [hg, (found_get _).1, (found_get _).2, hy, hhs]; exact ⟨rfl, rfl⟩⟩
  have HY : Aside0 (foundV (getM M (p, ia, ip, fa, fp)) = .agg #[.int .i64 y.f0, .int .u32 y.f1.f0, .int .i64 y.f1.f1, .int .u32 y.f2.f0, .int .i64 y.f2.f1, .int .i64 y.f3, .int .i64 y.f4, .int .i64 y.f5] ∧ hasM M (p, ia, ip, fa, fp) = hs) := ⟨⟨hy, hhs.symm⟩⟩
  clear hmap hget hup hdel hg hy hhs
  have kg : w3.drew.cell? ⟨g, 0, none⟩ = some (.map (some b)) := blk_cell F3.out.blk 0
  have k0 : w3.drew.cell? ⟨w.heap.size, 0, none⟩ = some (.int .u32 ia) := blk_cell x6.out 0
  have k1 : w3.drew.cell? ⟨w.heap.size, 1, none⟩ = some (.int .i64 ip) := blk_cell x6.out 1
  have k2 : w3.drew.cell? ⟨w.heap.size + 1, 0, none⟩ = some (.int .u32 fa) := blk_cell x7.out 0
  have k3 : w3.drew.cell? ⟨w.heap.size + 1, 1, none⟩ = some (.int .i64 fp) := blk_cell x7.out 1
  refine start_ (n := 15) (S := fun w' => w'.cell? ⟨g, 0, none⟩ = some (.map (some b)) ∧ w'.cell? ⟨w.heap.size, 0, none⟩ = some (.int .u32 ia) ∧ w'.cell? ⟨w.heap.size, 1, none⟩ = some (.int .i64 ip) ∧ w'.cell? ⟨w.heap.size + 1, 0, none⟩ = some (.int .u32 fa) ∧ w'.cell? ⟨w.heap.size + 1, 1, none⟩ = some (.int .i64 fp) ∧ MapIs KF w' b L) (ds := [13]) #[false, false, false, false, false, false, false, false, false, false, false, false, false, false, false] (by kernel_rfl) rfl rfl ⟨kg, k0, k1, k2, k3, (MP.out : MapIs KF w3.drew b L)⟩ (fun hHeld => ?_)
  refine pure_ (i := 0) (N := some 17) (v := ?_) (a' := ?_) #[true, false, false, false, false, false, false, false, false, false, false, false, false, false, false] rfl rfl (by kernel_rfl) (fun _ _ _ h => h) (Or.inl ⟨by rfl, ?_⟩) ?_ ?_
  rotate_left
  · intro w'
    go_simp
    with_reducible rfl
  rotate_left
  · simp only [Act.put, List.setIfInBounds_toArray, List.set_cons_zero, List.set_cons_succ, i64_w, i32_w]
    rfl
  refine pure_ (i := 1) (N := some 18) (v := ?_) (a' := ?_) #[true, true, false, false, false, false, false, false, false, false, false, false, false, false, false] rfl rfl (by kernel_rfl) (fun _ _ _ h => h) (Or.inl ⟨by rfl, ?_⟩) ?_ ?_
  rotate_left
  · intro w'
    go_simp
    with_reducible rfl
  rotate_left
  · simp only [Act.put, List.setIfInBounds_toArray, List.set_cons_zero, List.set_cons_succ, i64_w, i32_w]
    rfl
  refine pure_ (i := 2) (N := some 19) (v := ?_) (a' := ?_) #[true, true, true, false, false, false, false, false, false, false, false, false, false, false, false] rfl rfl (by kernel_rfl) (fun _ _ _ h => h) (Or.inl ⟨by rfl, ?_⟩) ?_ ?_
  rotate_left
  · intro w'
    go_simp
    with_reducible rfl
  rotate_left
  · simp only [Act.put, List.setIfInBounds_toArray, List.set_cons_zero, List.set_cons_succ, i64_w, i32_w]
    rfl
  refine pure_ (i := 4) (N := some 21) (v := ?_) (a' := ?_) #[true, true, true, false, true, false, false, false, false, false, false, false, false, false, false] rfl rfl (by kernel_rfl) (fun _ _ _ h => h) (Or.inl ⟨by rfl, ?_⟩) ?_ ?_
  rotate_left
  · intro w'
    go_simp
    with_reducible rfl
  rotate_left
  · simp only [Act.put, List.setIfInBounds_toArray, List.set_cons_zero, List.set_cons_succ, i64_w, i32_w]
    rfl
  refine take_ (i := 3) (N := some 20) (v := ?_) (a' := ?_) #[true, true, true, true, true, false, false, false, false, false, false, false, false, false, false] rfl rfl (by kernel_rfl) (fun _ _ _ h => h) (Or.inl ⟨by rfl, ?_⟩) hHeld ?_ ?_
  rotate_left
  · rintro w' ⟨s0, s1, s2, s3, s4, s5⟩
    go_simp
    with_reducible rfl
  rotate_left
  · simp only [Act.put, List.setIfInBounds_toArray, List.set_cons_zero, List.set_cons_succ, i64_w, i32_w]
    rfl
  refine take_ (i := 5) (N := some 22) (v := ?_) (a' := ?_) #[true, true, true, true, true, true, false, false, false, false, false, false, false, false, false] rfl rfl (by kernel_rfl) (fun _ _ _ h => h) (Or.inl ⟨by rfl, ?_⟩) hHeld ?_ ?_
  rotate_left
  · rintro w' ⟨s0, s1, s2, s3, s4, s5⟩
    go_simp
    with_reducible rfl
  rotate_left
  · simp only [Act.put, List.setIfInBounds_toArray, List.set_cons_zero, List.set_cons_succ, i64_w, i32_w]
    rfl
  refine take_ (i := 6) (N := some 23) (v := ?_) (a' := ?_) #[true, true, true, true, true, true, true, false, false, false, false, false, false, false, false] rfl rfl (by kernel_rfl) (fun _ _ _ h => h) (Or.inl ⟨by rfl, ?_⟩) hHeld ?_ ?_
  rotate_left
  · rintro w' ⟨s0, s1, s2, s3, s4, s5⟩
    go_simp
    with_reducible rfl
  rotate_left
  · simp only [Act.put, List.setIfInBounds_toArray, List.set_cons_zero, List.set_cons_succ, i64_w, i32_w]
    rfl
  refine pure_ (i := 7) (N := some 24) (v := ?_) (a' := ?_) #[true, true, true, true, true, true, true, true, false, false, false, false, false, false, false] rfl rfl (by kernel_rfl) (fun _ _ _ h => h) (Or.inl ⟨by rfl, ?_⟩) ?_ ?_
  rotate_left
  · intro w'
    go_simp
    with_reducible rfl
  rotate_left
  · simp only [Act.put, List.setIfInBounds_toArray, List.set_cons_zero, List.set_cons_succ, i64_w, i32_w]
    rfl
  refine take_ (i := 8) (N := some 25) (v := (.tuple #[.agg #[.int .i64 y.f0, .int .u32 y.f1.f0, .int .i64 y.f1.f1, .int .u32 y.f2.f0, .int .i64 y.f2.f1, .int .i64 y.f3, .int .i64 y.f4, .int .i64 y.f5], .bool hs])) (a' := ?aa_1) #[true, true, true, true, true, true, true, true, true, false, false, false, false, false, false] rfl rfl (by kernel_rfl) (fun _ _ _ h => h) ?hy_1 hHeld ?ha_1 ?h_1
  case hy_1 => exact Or.inl ⟨by rfl, fun w' s => look_run KF s.2.2.2.2.2 (.tmp 20) (.tmp 24) (by rfl) Try.underlying90 (Try.zeroValue46 w') (p, ia, ip, fa, fp) HOK.out (by rfl) (by rfl) HG.out⟩
  case ha_1 => simp only [Act.put, List.setIfInBounds_toArray, List.set_cons_zero, List.set_cons_succ, i64_w, i32_w]; rfl
  refine pure_ (i := 9) (N := some 16) (v := ?_) (a' := ?_) #[true, true, true, true, true, true, true, true, true, true, false, false, false, false, false] rfl rfl (by kernel_rfl) (fun _ _ _ h => h) (Or.inl ⟨by rfl, ?_⟩) ?_ ?_
  rotate_left
  · intro w'
    go_simp
    with_reducible rfl
  rotate_left
  · simp only [Act.put, List.setIfInBounds_toArray, List.set_cons_zero, List.set_cons_succ, i64_w, i32_w]
    rfl
  refine pure_ (i := 10) (N := some 26) (v := ?_) (a' := ?_) #[true, true, true, true, true, true, true, true, true, true, true, false, false, false, false] rfl rfl (by kernel_rfl) (fun _ _ _ h => h) (Or.inl ⟨by rfl, ?_⟩) ?_ ?_
  rotate_left
  · intro w'
    go_simp
    with_reducible rfl
  rotate_left
  · simp only [Act.put, List.setIfInBounds_toArray, List.set_cons_zero, List.set_cons_succ, i64_w, i32_w]
    rfl
  refine pure_ (i := 11) (N := some 27) (v := ?_) (a' := ?_) #[true, true, true, true, true, true, true, true, true, true, true, true, false, false, false] rfl rfl (by kernel_rfl) (fun _ _ _ h => h) (Or.inl ⟨by rfl, ?_⟩) ?_ ?_
  rotate_left
  · intro w'
    go_simp
    with_reducible rfl
  rotate_left
  · simp only [Act.put, List.setIfInBounds_toArray, List.set_cons_zero, List.set_cons_succ, i64_w, i32_w]
    rfl
  refine one_ (i := 12) (N := some 10) #[true, true, true, true, true, true, true, true, true, true, true, true, true, false, false] rfl rfl (by kernel_rfl) (by decide) (fun K hK => ?_)
  refine value_ (w1 := ?_) (v := ?_) (by rfl) rfl ?_ ?_
  rotate_left 2
  · go_simp
    constructor
    · rfl
    · rfl
  refine hK.out _ _ ⟨(cell_alloc_old (w := w3.drew) kg _), (cell_alloc_old (w := w3.drew) k0 _), (cell_alloc_old (w := w3.drew) k1 _), (cell_alloc_old (w := w3.drew) k2 _), (cell_alloc_old (w := w3.drew) k3 _), ((MP.out : MapIs KF w3.drew b L).alloc _)⟩ (fun hHeld => ?_)
  clear hK K
  refine norm_ (a' := ?_) ?_ ?_
  rotate_left
  · show Act.put _ (some 10) _ = _
    simp only [Act.put, List.setIfInBounds_toArray, List.set_cons_zero, List.set_cons_succ, i64_w, i32_w]
    rfl
  refine last_ (i := 13) (N := none) #[true, true, true, true, true, true, true, true, true, true, true, true, true, true, false] rfl rfl (by kernel_rfl) (by decide) (fun K hK => ?_)
  refine skip_ (w1 := ?_) (by rfl) rfl ?_ ?_
  rotate_left
  · go_simp
    rfl
  refine hK.out _ _ ?_
  clear hK K
  refine pure_ (i := 14) (N := some 11) (v := ?_) (a' := ?_) #[true, true, true, true, true, true, true, true, true, true, true, true, true, true, true] rfl rfl (by kernel_rfl) (fun _ _ _ h => h) (Or.inl ⟨by rfl, ?_⟩) ?_ ?_
  rotate_left
  · intro w'
    go_simp
    with_reducible rfl
  rotate_left
  · simp only [Act.put, List.setIfInBounds_toArray, List.set_cons_zero, List.set_cons_succ, i64_w, i32_w]
    rfl
  refine done_ (by kernel_rfl) ?_
  obtain ⟨w4, hw4⟩ : ∃ w4, w4 = (w3.alloc (.cells #[.int .i64 y.f0, .int .u32 y.f1.f0, .int .i64 y.f1.f1, .int .u32 y.f2.f0, .int .i64 y.f2.f1, .int .i64 y.f3, .int .i64 y.f4, .int .i64 y.f5] 46)).drew := ⟨_, rfl⟩
  have hb4 : Below w3.heap.size w3 w4 := by rw [hw4]; exact (below_alloc (Below.refl w3.heap.size w3) _).drew
  have x9 : w4.heap[w3.heap.size]? = some (.cells #[.int .i64 y.f0, .int .u32 y.f1.f0, .int .i64 y.f1.f1, .int .u32 y.f2.f0, .int .i64 y.f2.f1, .int .i64 y.f3, .int .i64 y.f4, .int .i64 y.f5] 46 (0, 0)) := by rw [hw4]; exact blk_new _ _
  have x84 := blk_below x8.out hb4
  have hge : w.heap.size ≤ w.heap.size + 1 + 1 := by omega
  generalize w.heap.size + 1 + 1 = r8 at *
  have HGE := Aside0.mk hge
  clear hge
  have B4 := Aside0.mk (below_step B1.out hb4)
  rw [← hw4]
  clear hw4 hb4 kg k0 k1 k2 k3 hHeld MP F3 x6 x7 x8
  have y0 : w4.cell? ⟨w3.heap.size, 0, none⟩ = some (.int .i64 y.f0) := blk_cell x9 0
  have y1 : w4.cell? ⟨w3.heap.size, 1, none⟩ = some (.int .u32 y.f1.f0) := blk_cell x9 1
  have y2 : w4.cell? ⟨w3.heap.size, 2, none⟩ = some (.int .i64 y.f1.f1) := blk_cell x9 2
  have y3 : w4.cell? ⟨w3.heap.size, 3, none⟩ = some (.int .u32 y.f2.f0) := blk_cell x9 3
  have y4 : w4.cell? ⟨w3.heap.size, 4, none⟩ = some (.int .i64 y.f2.f1) := blk_cell x9 4
  have y5 : w4.cell? ⟨w3.heap.size, 5, none⟩ = some (.int .i64 y.f3) := blk_cell x9 5
  have y6 : w4.cell? ⟨w3.heap.size, 6, none⟩ = some (.int .i64 y.f4) := blk_cell x9 6
  have y7 : w4.cell? ⟨w3.heap.size, 7, none⟩ = some (.int .i64 y.f5) := blk_cell x9 7
  have z0 : w4.cell? ⟨r8, 0, none⟩ = some (.int .i64 0) := blk_cell x84 0
  have f0 : w4.frozen? ⟨r8, 0, none⟩ = false := blk_frozen x84 0
  have z1 : w4.cell? ⟨r8, 1, none⟩ = some (.int .u32 0) := blk_cell x84 1
  have f1 : w4.frozen? ⟨r8, 1, none⟩ = false := blk_frozen x84 1
  have z2 : w4.cell? ⟨r8, 2, none⟩ = some (.int .i64 0) := blk_cell x84 2
  have f2 : w4.frozen? ⟨r8, 2, none⟩ = false := blk_frozen x84 2
  have z3 : w4.cell? ⟨r8, 3, none⟩ = some (.int .u32 0) := blk_cell x84 3
  have f3 : w4.frozen? ⟨r8, 3, none⟩ = false := blk_frozen x84 3
  have z4 : w4.cell? ⟨r8, 4, none⟩ = some (.int .i64 0) := blk_cell x84 4
  have f4 : w4.frozen? ⟨r8, 4, none⟩ = false := blk_frozen x84 4
  have z5 : w4.cell? ⟨r8, 5, none⟩ = some (.int .i64 0) := blk_cell x84 5
  have f5 : w4.frozen? ⟨r8, 5, none⟩ = false := blk_frozen x84 5
  have z6 : w4.cell? ⟨r8, 6, none⟩ = some (.int .i64 0) := blk_cell x84 6
  have f6 : w4.frozen? ⟨r8, 6, none⟩ = false := blk_frozen x84 6
  have z7 : w4.cell? ⟨r8, 7, none⟩ = some (.int .i64 0) := blk_cell x84 7
  have f7 : w4.frozen? ⟨r8, 7, none⟩ = false := blk_frozen x84 7
  clear x9 x84
  go_wp2_with fail
  refine bodyPost_ret (v := .tuple #[.agg #[.int .i64 y.f0, .int .u32 y.f1.f0, .int .i64 y.f1.f1, .int .u32 y.f2.f0, .int .i64 y.f2.f1, .int .i64 y.f3, .int .i64 y.f4, .int .i64 y.f5], .bool hs]) (by simp [results, Try.results58, go_sem, z0, z1, z2, z3, z4, z5, z6, z7]) rfl ⟨by rw [HY.out.1, HY.out.2], ?_⟩
  have hge := HGE.out
  exact ((((((((B4.out.setCell (p := ⟨r8, 0, none⟩) hge _).setCell (p := ⟨r8, 1, none⟩) hge _).setCell (p := ⟨r8, 2, none⟩) hge _).setCell (p := ⟨r8, 3, none⟩) hge _).setCell (p := ⟨r8, 4, none⟩) hge _).setCell (p := ⟨r8, 5, none⟩) hge _).setCell (p := ⟨r8, 6, none⟩) hge _).setCell (p := ⟨r8, 7, none⟩) hge _)
theorem has_del {M : List S46} {k : Key} (h : hasM M k = false) : delM M k = M := by
  refine del_none (fun x hx hk => ?_)
  unfold hasM getM at h
  rw [Option.isSome_eq_false_iff, Option.isNone_iff_eq_none, List.find?_eq_none] at h
  exact h x hx (by simpa using hk)
set_option maxHeartbeats 8000000 in
set_option maxRecDepth 100000 in
theorem Drop_calls (w : World) (base g b : Nat) (M : List S46) (h : FT w base g b M) (p ia ip fa fp : Int) (hok : okK (p, ia, ip, fa, fp)) :
    Calls Try.prog 27 #[.pointer (some ⟨g, 0, none⟩), .int .i64 p, .agg #[.int .u32 ia, .int .i64 ip], .agg #[.int .u32 fa, .int .i64 fp]] w fun e' w' => e' = .returned (.bool (hasM M (p, ia, ip, fa, fp))) ∧ FT w' base g b (delM M (p, ia, ip, fa, fp)) ∧ Fr w w' (fun k => k = b) := by
  have H := Aside0.mk h
  have HOK := Aside0.mk hok
  clear h hok
  have B1 := Aside0.mk (((Below.refl w.heap.size w).alloc (Nat.le_refl _) (E1 ia ip)).alloc (by simp) (E1 fa fp))
  have x6 := Aside0.mk (blk_alloc (blk_new w (E1 ia ip)) (E1 fa fp))
  have x7 : Aside0 (((w.alloc (E1 ia ip)).alloc (E1 fa fp)).heap[w.heap.size + 1]? = some (E1 fa fp)) := ⟨by have h := blk_new (w.alloc (E1 ia ip)) (E1 fa fp); rw [World.size_alloc] at h; exact h⟩
  obtain ⟨y, hy⟩ := found_agg (getM M (p, ia, ip, fa, fp))
  obtain ⟨hs, hhs⟩ : ∃ hs, hs = hasM M (p, ia, ip, fa, fp) := ⟨_, rfl⟩
  have HY : Aside0 (foundV (getM M (p, ia, ip, fa, fp)) = .agg #[.int .i64 y.f0, .int .u32 y.f1.f0, .int .i64 y.f1.f1, .int .u32 y.f2.f0, .int .i64 y.f2.f1, .int .i64 y.f3, .int .i64 y.f4, .int .i64 y.f5] ∧ hasM M (p, ia, ip, fa, fp) = hs) := ⟨⟨hy, hhs.symm⟩⟩
  have HGET : Aside0 (∀ W, Below w.heap.size w W → Calls Try.prog 58 #[.pointer (some ⟨g, 0, none⟩), .int .i64 p, .agg #[.int .u32 ia, .int .i64 ip], .agg #[.int .u32 fa, .int .i64 fp]] W fun e' w' => e' = .returned (.tuple #[.agg #[.int .i64 y.f0, .int .u32 y.f1.f0, .int .i64 y.f1.f1, .int .u32 y.f2.f0, .int .i64 y.f2.f1, .int .i64 y.f3, .int .i64 y.f4, .int .i64 y.f5], .bool hs]) ∧ Below W.heap.size W w') := ⟨fun W hW => by have h_ := Get_calls W base g b M (H.out.below hW) p ia ip fa fp HOK.out; rw [HY.out.1, HY.out.2] at h_; exact h_⟩
  clear hy hhs
  cases hs with
  | false =>
    go_enter Try.func27, Try.ntmps27
    go_wp2_with (go_at_call 58; refine (HGET.out _ B1.out).mono ?_; rintro e w2 ⟨rfl, hb2⟩; have B2 := Aside0.mk (below_step B1.out hb2); have x62 := Aside0.mk (blk_below x6.out hb2); have x72 := Aside0.mk (blk_below x7.out hb2); clear hb2)
    go_ret
    have hb := B2.out.alloc B2.out.size (.cells #[.int .i64 y.f0, .int .u32 y.f1.f0, .int .i64 y.f1.f1, .int .u32 y.f2.f0, .int .i64 y.f2.f1, .int .i64 y.f3, .int .i64 y.f4, .int .i64 y.f5] 46)
    rw [HY.out.2, has_del HY.out.2]
    exact ⟨rfl, H.out.below hb, Fr.of_below hb _⟩
  | true =>
    go_enter Try.func27, Try.ntmps27
    go_upto_region 3 with (go_at_call 58; refine (HGET.out _ B1.out).mono ?_; rintro e w2 ⟨rfl, hb2⟩; have B2 := Aside0.mk (below_step B1.out hb2); have x62 := Aside0.mk (blk_below x6.out hb2); have x72 := Aside0.mk (blk_below x7.out hb2); clear hb2)
    obtain ⟨w3, hw3⟩ : ∃ w3, w3 = w2.alloc (.cells #[.int .i64 y.f0, .int .u32 y.f1.f0, .int .i64 y.f1.f1, .int .u32 y.f2.f0, .int .i64 y.f2.f1, .int .i64 y.f3, .int .i64 y.f4, .int .i64 y.f5] 46) := ⟨_, rfl⟩
    have hb3 : Below w2.heap.size w2 w3 := by rw [hw3]; exact below_alloc (Below.refl w2.heap.size w2) _
    have x63 := Aside0.mk (blk_below x62.out hb3)
    have x73 := Aside0.mk (blk_below x72.out hb3)
    have B3 := Aside0.mk (below_step B2.out hb3)
    have F3 := Aside0.mk (H.out.below (below_step B2.out hb3))
    rw [← hw3]
    clear hw3 hb3 x62 x72 B2 x6 x7 B1
    obtain ⟨L, hmap, hget, hup, hdel⟩ := F3.out.look
    have MP := Aside0.mk hmap
    have HDEL := Aside0.mk hdel
    clear hmap hget hup hdel
    have kg : w3.drew.cell? ⟨g, 0, none⟩ = some (.map (some b)) := blk_cell F3.out.blk 0
    have k0 : w3.drew.cell? ⟨w.heap.size, 0, none⟩ = some (.int .u32 ia) := blk_cell x63.out 0
    have k1 : w3.drew.cell? ⟨w.heap.size, 1, none⟩ = some (.int .i64 ip) := blk_cell x63.out 1
    have k2 : w3.drew.cell? ⟨w.heap.size + 1, 0, none⟩ = some (.int .u32 fa) := blk_cell x73.out 0
    have k3 : w3.drew.cell? ⟨w.heap.size + 1, 1, none⟩ = some (.int .i64 fp) := blk_cell x73.out 1
    refine start_ (n := 9) (S := fun w' => w'.cell? ⟨g, 0, none⟩ = some (.map (some b)) ∧ w'.cell? ⟨w.heap.size, 0, none⟩ = some (.int .u32 ia) ∧ w'.cell? ⟨w.heap.size, 1, none⟩ = some (.int .i64 ip) ∧ w'.cell? ⟨w.heap.size + 1, 0, none⟩ = some (.int .u32 fa) ∧ w'.cell? ⟨w.heap.size + 1, 1, none⟩ = some (.int .i64 fp)) (ds := [8]) #[false, false, false, false, false, false, false, false, false] (by kernel_rfl) rfl rfl ⟨kg, k0, k1, k2, k3⟩ (fun hHeld => ?_)
    refine pure_ (i := 0) (N := some 20) (v := ?_) (a' := ?_) #[true, false, false, false, false, false, false, false, false] rfl rfl (by kernel_rfl) (fun _ _ _ h => h) (Or.inl ⟨by rfl, ?_⟩) ?_ ?_
    rotate_left
    · intro w'
      go_simp
      with_reducible rfl
    rotate_left
    · simp only [Act.put, List.setIfInBounds_toArray, List.set_cons_zero, List.set_cons_succ, i64_w, i32_w]
      rfl
    refine pure_ (i := 1) (N := some 21) (v := ?_) (a' := ?_) #[true, true, false, false, false, false, false, false, false] rfl rfl (by kernel_rfl) (fun _ _ _ h => h) (Or.inl ⟨by rfl, ?_⟩) ?_ ?_
    rotate_left
    · intro w'
      go_simp
      with_reducible rfl
    rotate_left
    · simp only [Act.put, List.setIfInBounds_toArray, List.set_cons_zero, List.set_cons_succ, i64_w, i32_w]
      rfl
    refine pure_ (i := 2) (N := some 22) (v := ?_) (a' := ?_) #[true, true, true, false, false, false, false, false, false] rfl rfl (by kernel_rfl) (fun _ _ _ h => h) (Or.inl ⟨by rfl, ?_⟩) ?_ ?_
    rotate_left
    · intro w'
      go_simp
      with_reducible rfl
    rotate_left
    · simp only [Act.put, List.setIfInBounds_toArray, List.set_cons_zero, List.set_cons_succ, i64_w, i32_w]
      rfl
    refine pure_ (i := 4) (N := some 24) (v := ?_) (a' := ?_) #[true, true, true, false, true, false, false, false, false] rfl rfl (by kernel_rfl) (fun _ _ _ h => h) (Or.inl ⟨by rfl, ?_⟩) ?_ ?_
    rotate_left
    · intro w'
      go_simp
      with_reducible rfl
    rotate_left
    · simp only [Act.put, List.setIfInBounds_toArray, List.set_cons_zero, List.set_cons_succ, i64_w, i32_w]
      rfl
    refine take_ (i := 3) (N := some 23) (v := ?_) (a' := ?_) #[true, true, true, true, true, false, false, false, false] rfl rfl (by kernel_rfl) (fun _ _ _ h => h) (Or.inl ⟨by rfl, ?_⟩) hHeld ?_ ?_
    rotate_left
    · rintro w' ⟨s0, s1, s2, s3, s4⟩
      go_simp
      with_reducible rfl
    rotate_left
    · simp only [Act.put, List.setIfInBounds_toArray, List.set_cons_zero, List.set_cons_succ, i64_w, i32_w]
      rfl
    refine take_ (i := 5) (N := some 25) (v := ?_) (a' := ?_) #[true, true, true, true, true, true, false, false, false] rfl rfl (by kernel_rfl) (fun _ _ _ h => h) (Or.inl ⟨by rfl, ?_⟩) hHeld ?_ ?_
    rotate_left
    · rintro w' ⟨s0, s1, s2, s3, s4⟩
      go_simp
      with_reducible rfl
    rotate_left
    · simp only [Act.put, List.setIfInBounds_toArray, List.set_cons_zero, List.set_cons_succ, i64_w, i32_w]
      rfl
    refine take_ (i := 6) (N := some 26) (v := ?_) (a' := ?_) #[true, true, true, true, true, true, true, false, false] rfl rfl (by kernel_rfl) (fun _ _ _ h => h) (Or.inl ⟨by rfl, ?_⟩) hHeld ?_ ?_
    rotate_left
    · rintro w' ⟨s0, s1, s2, s3, s4⟩
      go_simp
      with_reducible rfl
    rotate_left
    · simp only [Act.put, List.setIfInBounds_toArray, List.set_cons_zero, List.set_cons_succ, i64_w, i32_w]
      rfl
    refine pure_ (i := 7) (N := some 27) (v := ?_) (a' := ?_) #[true, true, true, true, true, true, true, true, false] rfl rfl (by kernel_rfl) (fun _ _ _ h => h) (Or.inl ⟨by rfl, ?_⟩) ?_ ?_
    rotate_left
    · intro w'
      go_simp
      with_reducible rfl
    rotate_left
    · simp only [Act.put, List.setIfInBounds_toArray, List.set_cons_zero, List.set_cons_succ, i64_w, i32_w]
      rfl
    refine last_ (i := 8) (N := none) #[true, true, true, true, true, true, true, true, true] rfl rfl (by kernel_rfl) (by decide) (fun K hK => ?_)
    refine map_drop_ KF (by rfl) rfl (MP.out : MapIs KF w3.drew b L) (.tmp 23) (.tmp 27) rfl Try.underlying90 (p, ia, ip, fa, fp) HOK.out rfl rfl ?_
    intro w9 hm9 hg9
    have M9 := Aside0.mk hm9
    have G9 := Aside0.mk hg9
    clear hm9 hg9
    refine hK.out _ _ ?_
    clear hK K
    refine done_ (by kernel_rfl) ?_
    go_wp2_with fail
    go_ret
    rw [HY.out.2]
    refine ⟨rfl, HDEL.out (p, ia, ip, fa, fp) w9 M9.out ?_, (Fr.of_below B3.out.drew (fun k => k = b)).grown G9.out (fun k hk => by cases hk; exact .inl rfl)⟩
    exact G9.out.block g F3.out.lt (fun hk => F3.out.ne (by injection hk))
end Go.Proofs.Ytkpaibkkigfahaa.Fl
