/- bind.Table: Put of a mapping without filters. -/
import Derived.Test.YtkpaibkkigfahaaBd1
import Derived.Test.YtkpaibkkigfahaaMp5
namespace Go.Proofs.Ytkpaibkkigfahaa.Bd
open Go.RowKit Go.Proofs.YtkpaibkkigfahaaW.PrintWords Go.Proofs.YtkpaibkkigfahaaW.PrintLast Go.Proofs.YtkpaibkkigfahaaW.PrintMore Go.Proofs.Ytkpaibkkigfahaa.Bs Go.Proofs.Ytkpaibkkigfahaa.Fr Go.Proofs.Ytkpaibkkigfahaa.Mp
open Go.Proofs.Ytkpaibkkigfahaa.PBindLets
set_option linter.unusedVariables false
set_option linter.unusedSimpArgs false
def lK (p ia ip : Int) : List Value := [.int .i64 p, .int .u32 ia, .int .i64 ip]
theorem info85 : (Try.prog.info? 85).map (·.size) = some 3 := by kernel_rfl
theorem one_lK (p ia ip : Int) : ∀ v ∈ lK p ia ip, v.oneCell' = true := by
  intro v hv
  unfold lK at hv
  simp only [List.mem_cons, List.not_mem_nil, or_false] at hv
  rcases hv with rfl | rfl | rfl <;> rfl
theorem own_nil' (w : World) (p ia ip oa op : Int) : Calls Try.prog 50 #[.agg (lM p ia ip oa op).toArray] w fun e w' => e = .returned (.agg (lM p ia ip oa op).toArray) ∧ Below w.heap.size w w' := own_nil w p ia ip oa op
theorem Check_calls' (w : World) (p ia ip oa op : Int) (hp : p = 6 ∨ p = 17) (h1 : 0 ≤ ip ∧ ip ≤ 65535) (h2 : 0 ≤ op ∧ op ≤ 65535) : Calls Try.prog 46 #[.agg (lM p ia ip oa op).toArray] w fun e w' => e = .returned (.int .i64 0) ∧ Below w.heap.size w w' := Check_calls w p ia ip oa op hp h1 h2
theorem two_new (w : World) (o o' : Obj) : ((w.alloc o).alloc o').heap[w.heap.size + 1]? = some o' := by
  have h := blk_new (w.alloc o) o'
  rw [World.size_alloc] at h
  exact h
theorem fork2 (W : World) (o : Obj) : ((W.drew.alloc o).alloc o).heap[W.heap.size]? = some o ∧ ((W.drew.alloc o).alloc o).heap[W.heap.size + 1]? = some o ∧ W.heap.size ≠ W.heap.size + 1 ∧ W.heap.size ≤ W.heap.size ∧ W.heap.size ≤ W.heap.size + 1 ∧ Below W.heap.size W ((W.drew.alloc o).alloc o) :=
  ⟨blk_alloc (blk_new W.drew o) o, two_new W.drew o o, by omega, Nat.le_refl _, Nat.le_succ _, Below.alloc (Below.alloc (Below.refl W.heap.size W).drew (Nat.le_refl _) o) (by rw [World.size_alloc]; exact Nat.le_succ _) o⟩
theorem fork2' (W : World) (o : Obj) : ((W.drew.alloc o).alloc o).heap[W.heap.size + 1]? = some o ∧ ((W.drew.alloc o).alloc o).heap[W.heap.size]? = some o ∧ W.heap.size + 1 ≠ W.heap.size ∧ W.heap.size ≤ W.heap.size + 1 ∧ W.heap.size ≤ W.heap.size ∧ Below W.heap.size W ((W.drew.alloc o).alloc o) :=
  ⟨two_new W.drew o o, blk_alloc (blk_new W.drew o) o, by omega, Nat.le_succ _, Nat.le_refl _, (fork2 W o).2.2.2.2.2⟩
theorem BT.ltm {w : World} {base g bi bo : Nat} {Li Lo : List (Key × Value)} (h : BT w base g bi bo Li Lo) : bi < w.heap.size ∧ bo < w.heap.size := ⟨h.min.lt, h.mout.lt⟩
set_option maxHeartbeats 8000000 in
set_option maxRecDepth 100000 in
theorem Put_calls (w : World) (base g bi bo : Nat) (Li Lo : List (Key × Value)) (h : BT w base g bi bo Li Lo) (p ia ip oa op : Int) (hp : p = 6 ∨ p = 17) (h1 : 0 ≤ ip ∧ ip ≤ 65535) (h2 : 0 ≤ op ∧ op ≤ 65535) (hok1 : okK (p, ia, ip)) (hok2 : okK (p, oa, op))
    (hg1 : aget Li (p, ia, ip) = none) (ea eb : Int) (hs : Bool) (hg2 : (aget Lo (p, oa, op)).getD (.agg #[.int .u32 0, .int .i64 0]) = .agg #[.int .u32 ea, .int .i64 eb] ∧ (aget Lo (p, oa, op)).isSome = hs) :
    Calls Try.prog 15 #[.pointer (some ⟨g, 0, none⟩), .agg (lM p ia ip oa op).toArray] w fun e' w' => (hs = true → e' = .returned (.int .i64 10) ∧ BT w' base g bi bo Li Lo) ∧
      (hs = false → e' = .returned (.int .i64 0) ∧ BT w' base g bi bo (aset Li (p, ia, ip) (vM p ia ip oa op)) (aset Lo (p, oa, op) (.agg #[.int .u32 ia, .int .i64 ip]))) ∧ Fr w w' (fun k => k = bi ∨ k = bo) := by
  have H := Aside0.mk h
  have HOK1 := Aside0.mk hok1
  have HOK2 := Aside0.mk hok2
  have HG1 : Aside0 ((aget Li (p, ia, ip)).getD (.agg #[.int .i64 0, .int .u32 0, .int .i64 0, .int .u32 0, .int .i64 0, .int .i64 0, .int .i64 0, .int .u8 0, .int .u8 0, .int .u8 0, .int .u8 0, .int .u8 0, .int .u8 0, .int .u8 0, .int .u8 0, .int .u8 0, .int .u8 0, .int .u8 0, .int .u8 0, .slice none 0 0]) = .agg #[.int .i64 0, .int .u32 0, .int .i64 0, .int .u32 0, .int .i64 0, .int .i64 0, .int .i64 0, .int .u8 0, .int .u8 0, .int .u8 0, .int .u8 0, .int .u8 0, .int .u8 0, .int .u8 0, .int .u8 0, .int .u8 0, .int .u8 0, .int .u8 0, .int .u8 0, .slice none 0 0] ∧ (aget Li (p, ia, ip)).isSome = false) := ⟨by rw [hg1]; exact ⟨rfl, rfl⟩⟩
  have HG2 := Aside0.mk hg2
  have HCK := Aside0.mk (fun W => Check_calls' W p ia ip oa op hp h1 h2)
  have B1 := Aside0.mk (below_alloc (Below.refl w.heap.size w) (.cells (lM p ia ip oa op).toArray 33))
  have X1 := Aside0.mk (blk_new w (.cells (lM p ia ip oa op).toArray 33))
  have BT1 := Aside0.mk (H.out.below B1.out)
  clear h hok1 hok2 hg1 hg2 hp h1 h2
  go_enter Try.func15, Try.ntmps15
  go_upto_region 3 with (go_at_call 49; refine (made_calls _ base g bi bo Li Lo BT1.out).mono ?_; rintro e w1 ⟨rfl, rfl⟩)
  obtain ⟨w1, hw1⟩ : ∃ w1, w1 = w.alloc (.cells (lM p ia ip oa op).toArray 33) := ⟨_, rfl⟩
  rw [← hw1] at B1 X1 BT1
  rw [← hw1]
  clear hw1
  go_upto_region 6 with (first
    | (refine wpList_load_mid rfl 33 (.tmp 3) rfl w.heap.size 0 rfl (lM p ia ip oa op) _ (range_blk X1.out) Try.underlying33 rfl info33 ?_)
    | (go_at_call 46; refine (HCK.out _).mono ?_; rintro e w2 ⟨rfl, hb2⟩; have B2 := Aside0.mk (below_step B1.out hb2); have X3 := Aside0.mk (blk_below X1.out hb2); have BT2 := Aside0.mk (BT1.out.below hb2); clear hb2))
  have A3 := Aside0.mk (blk_lt X3.out)
  refine start_ (n := 14) (S := fun w' => w'.cell? ⟨w.heap.size, 0, none⟩ = some (.int .i64 p) ∧ w'.cell? ⟨w.heap.size, 1, none⟩ = some (.int .u32 ia) ∧ w'.cell? ⟨w.heap.size, 2, none⟩ = some (.int .i64 ip) ∧ w'.cell? ⟨w.heap.size, 3, none⟩ = some (.int .u32 oa) ∧ w'.cell? ⟨w.heap.size, 4, none⟩ = some (.int .i64 op)) (ds := [13]) #[false, false, false, false, false, false, false, false, false, false, false, false, false, false] (by kernel_rfl) rfl rfl ⟨(blk_cell X3.out 0), (blk_cell X3.out 1), (blk_cell X3.out 2), (blk_cell X3.out 3), (blk_cell X3.out 4)⟩ (fun hHeld => ?_)
  refine pure_ (i := 0) (N := some 20) (v := ?_) (a' := ?_) #[true, false, false, false, false, false, false, false, false, false, false, false, false, false] rfl rfl (by kernel_rfl) (fun _ _ _ h => h) (Or.inl ⟨by rfl, ?_⟩) ?_ ?_
  rotate_left
  · intro w'
    go_simp
    with_reducible rfl
  rotate_left
  · simp only [Act.put, List.setIfInBounds_toArray, List.set_cons_zero, List.set_cons_succ, i64_w, i32_w]
    rfl
  refine pure_ (i := 2) (N := some 22) (v := ?_) (a' := ?_) #[true, false, true, false, false, false, false, false, false, false, false, false, false, false] rfl rfl (by kernel_rfl) (fun _ _ _ h => h) (Or.inl ⟨by rfl, ?_⟩) ?_ ?_
  rotate_left
  · intro w'
    go_simp
    with_reducible rfl
  rotate_left
  · simp only [Act.put, List.setIfInBounds_toArray, List.set_cons_zero, List.set_cons_succ, i64_w, i32_w]
    rfl
  refine pure_ (i := 5) (N := some 25) (v := ?_) (a' := ?_) #[true, false, true, false, false, true, false, false, false, false, false, false, false, false] rfl rfl (by kernel_rfl) (fun _ _ _ h => h) (Or.inl ⟨by rfl, ?_⟩) ?_ ?_
  rotate_left
  · intro w'
    go_simp
    with_reducible rfl
  rotate_left
  · simp only [Act.put, List.setIfInBounds_toArray, List.set_cons_zero, List.set_cons_succ, i64_w, i32_w]
    rfl
  refine pure_ (i := 7) (N := some 27) (v := ?_) (a' := ?_) #[true, false, true, false, false, true, false, true, false, false, false, false, false, false] rfl rfl (by kernel_rfl) (fun _ _ _ h => h) (Or.inl ⟨by rfl, ?_⟩) ?_ ?_
  rotate_left
  · intro w'
    go_simp
    with_reducible rfl
  rotate_left
  · simp only [Act.put, List.setIfInBounds_toArray, List.set_cons_zero, List.set_cons_succ, i64_w, i32_w]
    rfl
  refine take_ (i := 1) (N := some 21) (v := ?_) (a' := ?_) #[true, true, true, false, false, true, false, true, false, false, false, false, false, false] rfl rfl (by kernel_rfl) (fun _ _ _ h => h) (Or.inl ⟨by rfl, ?_⟩) hHeld ?_ ?_
  rotate_left
  · rintro w' ⟨s0, s1, s2, s3, s4⟩
    go_simp
    with_reducible rfl
  rotate_left
  · simp only [Act.put, List.setIfInBounds_toArray, List.set_cons_zero, List.set_cons_succ, i64_w, i32_w]
    rfl
  refine take_ (i := 3) (N := some 23) (v := ?_) (a' := ?_) #[true, true, true, true, false, true, false, true, false, false, false, false, false, false] rfl rfl (by kernel_rfl) (fun _ _ _ h => h) (Or.inl ⟨by rfl, ?_⟩) hHeld ?_ ?_
  rotate_left
  · rintro w' ⟨s0, s1, s2, s3, s4⟩
    go_simp
    with_reducible rfl
  rotate_left
  · simp only [Act.put, List.setIfInBounds_toArray, List.set_cons_zero, List.set_cons_succ, i64_w, i32_w]
    rfl
  refine pure_ (i := 4) (N := some 24) (v := ?_) (a' := ?_) #[true, true, true, true, true, true, false, true, false, false, false, false, false, false] rfl rfl (by kernel_rfl) (fun _ _ _ h => h) (Or.inl ⟨by rfl, ?_⟩) ?_ ?_
  rotate_left
  · intro w'
    go_simp
    with_reducible rfl
  rotate_left
  · simp only [Act.put, List.setIfInBounds_toArray, List.set_cons_zero, List.set_cons_succ, i64_w, i32_w]
    rfl
  refine take_ (i := 6) (N := some 26) (v := ?_) (a' := ?_) #[true, true, true, true, true, true, true, true, false, false, false, false, false, false] rfl rfl (by kernel_rfl) (fun _ _ _ h => h) (Or.inl ⟨by rfl, ?_⟩) hHeld ?_ ?_
  rotate_left
  · rintro w' ⟨s0, s1, s2, s3, s4⟩
    go_simp
    with_reducible rfl
  rotate_left
  · simp only [Act.put, List.setIfInBounds_toArray, List.set_cons_zero, List.set_cons_succ, i64_w, i32_w]
    rfl
  refine take_ (i := 8) (N := some 28) (v := ?_) (a' := ?_) #[true, true, true, true, true, true, true, true, true, false, false, false, false, false] rfl rfl (by kernel_rfl) (fun _ _ _ h => h) (Or.inl ⟨by rfl, ?_⟩) hHeld ?_ ?_
  rotate_left
  · rintro w' ⟨s0, s1, s2, s3, s4⟩
    go_simp
    with_reducible rfl
  rotate_left
  · simp only [Act.put, List.setIfInBounds_toArray, List.set_cons_zero, List.set_cons_succ, i64_w, i32_w]
    rfl
  refine pure_ (i := 9) (N := some 29) (v := ?_) (a' := ?_) #[true, true, true, true, true, true, true, true, true, true, false, false, false, false] rfl rfl (by kernel_rfl) (fun _ _ _ h => h) (Or.inl ⟨by rfl, ?_⟩) ?_ ?_
  rotate_left
  · intro w'
    go_simp
    with_reducible rfl
  rotate_left
  · simp only [Act.put, List.setIfInBounds_toArray, List.set_cons_zero, List.set_cons_succ, i64_w, i32_w]
    rfl
  refine join_ (σ := Nat × Nat) 2 #[true, true, true, true, true, true, true, true, true, true, true, true, false, false] (fun s => [(6, .pointer (some ⟨s.1, 0, none⟩)), (7, .pointer (some ⟨s.2, 0, none⟩))]) (fun s w' => (w'.cell? ⟨w.heap.size, 0, none⟩ = some (.int .i64 p) ∧ w'.cell? ⟨w.heap.size, 1, none⟩ = some (.int .u32 ia) ∧ w'.cell? ⟨w.heap.size, 2, none⟩ = some (.int .i64 ip) ∧ w'.cell? ⟨w.heap.size, 3, none⟩ = some (.int .u32 oa) ∧ w'.cell? ⟨w.heap.size, 4, none⟩ = some (.int .i64 op)) ∧ w'.heap[s.1]? = some (.cells #[.int .i64 0, .int .u32 0, .int .i64 0] 85 (0, 0)) ∧ w'.heap[s.2]? = some (.cells #[.int .i64 0, .int .u32 0, .int .i64 0] 85 (0, 0)) ∧ s.1 ≠ s.2 ∧ w2.heap.size ≤ s.1 ∧ w2.heap.size ≤ s.2 ∧ Below w2.heap.size w2 w') ?_ ?_
  rotate_left
  · intro hCont
    refine two_ (i := 10) (j := 11) (Ni := some 6) (Nj := some 7) #[true, true, true, true, true, true, true, true, true, true, true, false, false, false] #[true, true, true, true, true, true, true, true, true, true, false, true, false, false] rfl rfl rfl rfl (by kernel_rfl) (by decide) (by decide) (fun K hK => ?_) (fun K hK => ?_)
    · skip
      refine value_ (w1 := ?_) (v := ?_) (by rfl) rfl ?_ ?_
      rotate_left 2
      · go_simp
        constructor
        · rfl
        · rfl
      refine hK.out _ _ ⟨(cell_alloc_old hHeld.1 _), (cell_alloc_old hHeld.2.1 _), (cell_alloc_old hHeld.2.2.1 _), (cell_alloc_old hHeld.2.2.2.1 _), (cell_alloc_old hHeld.2.2.2.2 _)⟩ (fun hHeld => ?_)
      clear hK K
      refine norm_ (a' := ?_) ?_ ?_
      rotate_left
      · show Act.put _ (some 6) _ = _
        simp only [Act.put, List.setIfInBounds_toArray, List.set_cons_zero, List.set_cons_succ, i64_w, i32_w]
        rfl
      refine one_ (i := 11) (N := some 7) #[true, true, true, true, true, true, true, true, true, true, true, true, false, false] rfl rfl (by kernel_rfl) (by decide) (fun K hK => ?_)
      refine value_ (w1 := ?_) (v := ?_) (by rfl) rfl ?_ ?_
      rotate_left 2
      · go_simp
        constructor
        · rfl
        · rfl
      refine hK.out _ _ ⟨(cell_alloc_old hHeld.1 _), (cell_alloc_old hHeld.2.1 _), (cell_alloc_old hHeld.2.2.1 _), (cell_alloc_old hHeld.2.2.2.1 _), (cell_alloc_old hHeld.2.2.2.2 _)⟩ (fun hHeld => ?_)
      clear hK K
      refine norm_ (a' := ?_) ?_ ?_
      rotate_left
      · show Act.put _ (some 7) _ = _
        simp only [Act.put, List.setIfInBounds_toArray, List.set_cons_zero, List.set_cons_succ, i64_w, i32_w]
        rfl
      exact norm_ (by simp only [putAll, Act.put, List.setIfInBounds_toArray, List.set_cons_zero, List.set_cons_succ]) (hCont (w2.heap.size, w2.heap.size + 1) _ ⟨hHeld, fork2 w2 _⟩)
    · skip
      refine value_ (w1 := ?_) (v := ?_) (by rfl) rfl ?_ ?_
      rotate_left 2
      · go_simp
        constructor
        · rfl
        · rfl
      refine hK.out _ _ ⟨(cell_alloc_old hHeld.1 _), (cell_alloc_old hHeld.2.1 _), (cell_alloc_old hHeld.2.2.1 _), (cell_alloc_old hHeld.2.2.2.1 _), (cell_alloc_old hHeld.2.2.2.2 _)⟩ (fun hHeld => ?_)
      clear hK K
      refine norm_ (a' := ?_) ?_ ?_
      rotate_left
      · show Act.put _ (some 7) _ = _
        simp only [Act.put, List.setIfInBounds_toArray, List.set_cons_zero, List.set_cons_succ, i64_w, i32_w]
        rfl
      refine one_ (i := 10) (N := some 6) #[true, true, true, true, true, true, true, true, true, true, true, true, false, false] rfl rfl (by kernel_rfl) (by decide) (fun K hK => ?_)
      refine value_ (w1 := ?_) (v := ?_) (by rfl) rfl ?_ ?_
      rotate_left 2
      · go_simp
        constructor
        · rfl
        · rfl
      refine hK.out _ _ ⟨(cell_alloc_old hHeld.1 _), (cell_alloc_old hHeld.2.1 _), (cell_alloc_old hHeld.2.2.1 _), (cell_alloc_old hHeld.2.2.2.1 _), (cell_alloc_old hHeld.2.2.2.2 _)⟩ (fun hHeld => ?_)
      clear hK K
      refine norm_ (a' := ?_) ?_ ?_
      rotate_left
      · show Act.put _ (some 6) _ = _
        simp only [Act.put, List.setIfInBounds_toArray, List.set_cons_zero, List.set_cons_succ, i64_w, i32_w]
        rfl
      exact norm_ (by simp only [putAll, Act.put, List.setIfInBounds_toArray, List.set_cons_zero, List.set_cons_succ]) (hCont (w2.heap.size + 1, w2.heap.size) _ ⟨hHeld, fork2' w2 _⟩)
  rintro ⟨a6, a7⟩ w6 ⟨hH, h61, h62, h63, h64, h65, h66⟩
  have hHeld : w6.cell? ⟨w.heap.size, 0, none⟩ = some (.int .i64 p) ∧ w6.cell? ⟨w.heap.size, 1, none⟩ = some (.int .u32 ia) ∧ w6.cell? ⟨w.heap.size, 2, none⟩ = some (.int .i64 ip) ∧ w6.cell? ⟨w.heap.size, 3, none⟩ = some (.int .u32 oa) ∧ w6.cell? ⟨w.heap.size, 4, none⟩ = some (.int .i64 op) := hH
  have X6 : Aside0 (w6.heap[a6]? = some (.cells #[.int .i64 0, .int .u32 0, .int .i64 0] 85 (0, 0))) := ⟨h61⟩
  have X7 : Aside0 (w6.heap[a7]? = some (.cells #[.int .i64 0, .int .u32 0, .int .i64 0] 85 (0, 0))) := ⟨h62⟩
  have NE67 : Aside0 (a6 ≠ a7) := ⟨h63⟩
  have L6 : Aside0 (w2.heap.size ≤ a6) := ⟨h64⟩
  have L7 : Aside0 (w2.heap.size ≤ a7) := ⟨h65⟩
  have B6 : Aside0 (Below w2.heap.size w2 w6) := ⟨h66⟩
  have X36 := Aside0.mk (blk_below X3.out h66)
  clear h61 h62 h63 h64 h65 h66 hH
  refine norm_ (a' := ?_) ?_ ?_
  rotate_left
  · simp only [putAll, Act.put, List.setIfInBounds_toArray, List.set_cons_zero, List.set_cons_succ]
    rfl
  refine one_ (i := 12) (N := none) #[true, true, true, true, true, true, true, true, true, true, true, true, true, false] rfl rfl (by kernel_rfl) (by decide) (fun K hK => ?_)
  refine fill_ (by rfl) rfl 85 (.tmp 6) (.tmp 24) rfl a6 _ 85 (lK p ia ip) (X6.out) rfl rfl rfl info85 (one_lK p ia ip) ?_
  intro w7 hxw7 hfw7
  have HXw7 := Aside0.mk hxw7
  have HFw7 := Aside0.mk hfw7
  clear hxw7 hfw7
  have X37 := Aside0.mk (HFw7.out.blk X36.out (fun he => by have := L6.out; have := blk_lt X3.out; omega))
  have X77 := Aside0.mk (HFw7.out.blk X7.out (fun he => NE67.out he.symm))
  refine hK.out _ _ ⟨(blk_cell X37.out 0), (blk_cell X37.out 1), (blk_cell X37.out 2), (blk_cell X37.out 3), (blk_cell X37.out 4)⟩ (fun hHeld => ?_)
  clear hK K
  refine last_ (i := 13) (N := none) #[true, true, true, true, true, true, true, true, true, true, true, true, true, true] rfl rfl (by kernel_rfl) (by decide) (fun K hK => ?_)
  refine fill_ (by rfl) rfl 85 (.tmp 7) (.tmp 29) rfl a7 _ 85 (lK p oa op) (X77.out) rfl rfl rfl info85 (one_lK p oa op) ?_
  intro w8 hxw8 hfw8
  have HXw8 := Aside0.mk hxw8
  have HFw8 := Aside0.mk hfw8
  clear hxw8 hfw8
  refine hK.out _ _ ?_
  clear hK K
  refine done_ (by kernel_rfl) ?_
  have X38 := Aside0.mk (HFw8.out.blk X37.out (fun he => by have := L7.out; have := A3.out; omega))
  have X68 := Aside0.mk (HFw8.out.blk HXw7.out (fun he => NE67.out he))
  have X78 := HXw8
  have B8 := Aside0.mk (below_fr (below_fr B6.out B6.out.size HFw7.out (fun k hk => by rw [hk]; exact L6.out)) (Nat.le_trans B6.out.size HFw7.out.size) HFw8.out (fun k hk => by rw [hk]; exact L7.out))
  have BT8 := Aside0.mk (BT2.out.below B8.out)
  have C8 := Aside0.mk (below_step B2.out B8.out)
  have NE3 : Aside0 (w.heap.size ≠ bi ∧ w.heap.size ≠ bo) := ⟨by have := H.out.ltm; omega, by have := H.out.ltm; omega⟩
  have NE6 : Aside0 (a6 ≠ bi ∧ a6 ≠ bo) := ⟨by have := BT2.out.ltm; have := L6.out; omega, by have := BT2.out.ltm; have := L6.out; omega⟩
  have NE7 : Aside0 (a7 ≠ bi ∧ a7 ≠ bo) := ⟨by have := BT2.out.ltm; have := L7.out; omega, by have := BT2.out.ltm; have := L7.out; omega⟩
  have NEg : Aside0 (g ≠ bi ∧ g ≠ bo) := ⟨H.out.ni, H.out.no⟩
  have NIO : Aside0 (bi ≠ bo) := ⟨H.out.nio⟩
  clear hHeld X1 B1 BT1 X3 X6 X7 X36 X37 X77 HXw7 HXw8 HFw7 HFw8 B6
  go_upto_region 7 with fail
  refine start_ (n := 12) (S := fun w' => w'.cell? ⟨g, 0, none⟩ = some (.map (some bi)) ∧ w'.cell? ⟨a6, 0, none⟩ = some (.int .i64 p) ∧ w'.cell? ⟨a6, 1, none⟩ = some (.int .u32 ia) ∧ w'.cell? ⟨a6, 2, none⟩ = some (.int .i64 ip) ∧ MapIs KB w' bi Li) (ds := [10]) #[false, false, false, false, false, false, false, false, false, false, false, false] (by kernel_rfl) rfl rfl ⟨(blk_cell BT8.out.blk 0), (blk_cell X68.out 0), (blk_cell X68.out 1), (blk_cell X68.out 2), BT8.out.min⟩ (fun hHeld => ?_)
  refine pure_ (i := 0) (N := some 31) (v := ?_) (a' := ?_) #[true, false, false, false, false, false, false, false, false, false, false, false] rfl rfl (by kernel_rfl) (fun _ _ _ h => h) (Or.inl ⟨by rfl, ?_⟩) ?_ ?_
  rotate_left
  · intro w'
    go_simp
    with_reducible rfl
  rotate_left
  · simp only [Act.put, List.setIfInBounds_toArray, List.set_cons_zero, List.set_cons_succ, i64_w, i32_w]
    rfl
  refine pure_ (i := 1) (N := some 32) (v := ?_) (a' := ?_) #[true, true, false, false, false, false, false, false, false, false, false, false] rfl rfl (by kernel_rfl) (fun _ _ _ h => h) (Or.inl ⟨by rfl, ?_⟩) ?_ ?_
  rotate_left
  · intro w'
    go_simp
    with_reducible rfl
  rotate_left
  · simp only [Act.put, List.setIfInBounds_toArray, List.set_cons_zero, List.set_cons_succ, i64_w, i32_w]
    rfl
  refine pure_ (i := 2) (N := some 33) (v := ?_) (a' := ?_) #[true, true, true, false, false, false, false, false, false, false, false, false] rfl rfl (by kernel_rfl) (fun _ _ _ h => h) (Or.inl ⟨by rfl, ?_⟩) ?_ ?_
  rotate_left
  · intro w'
    go_simp
    with_reducible rfl
  rotate_left
  · simp only [Act.put, List.setIfInBounds_toArray, List.set_cons_zero, List.set_cons_succ, i64_w, i32_w]
    rfl
  refine take_ (i := 3) (N := some 34) (v := ?_) (a' := ?_) #[true, true, true, true, false, false, false, false, false, false, false, false] rfl rfl (by kernel_rfl) (fun _ _ _ h => h) (Or.inl ⟨by rfl, ?_⟩) hHeld ?_ ?_
  rotate_left
  · rintro w' ⟨s0, s1, s2, s3, s4⟩
    go_simp
    with_reducible rfl
  rotate_left
  · simp only [Act.put, List.setIfInBounds_toArray, List.set_cons_zero, List.set_cons_succ, i64_w, i32_w]
    rfl
  refine take_ (i := 4) (N := some 35) (v := ?_) (a' := ?_) #[true, true, true, true, true, false, false, false, false, false, false, false] rfl rfl (by kernel_rfl) (fun _ _ _ h => h) (Or.inl ⟨by rfl, ?_⟩) hHeld ?_ ?_
  rotate_left
  · rintro w' ⟨s0, s1, s2, s3, s4⟩
    go_simp
    with_reducible rfl
  rotate_left
  · simp only [Act.put, List.setIfInBounds_toArray, List.set_cons_zero, List.set_cons_succ, i64_w, i32_w]
    rfl
  refine take_ (i := 5) (N := some 36) (v := (.tuple #[.agg #[.int .i64 0, .int .u32 0, .int .i64 0, .int .u32 0, .int .i64 0, .int .i64 0, .int .i64 0, .int .u8 0, .int .u8 0, .int .u8 0, .int .u8 0, .int .u8 0, .int .u8 0, .int .u8 0, .int .u8 0, .int .u8 0, .int .u8 0, .int .u8 0, .int .u8 0, .slice none 0 0], .bool false])) (a' := ?aa_3) #[true, true, true, true, true, true, false, false, false, false, false, false] rfl rfl (by kernel_rfl) (fun _ _ _ h => h) ?hy_3 hHeld ?ha_3 ?h_3
  case hy_3 => exact Or.inl ⟨by rfl, fun w' s => look_run KB s.2.2.2.2 (.tmp 34) (.tmp 35) (by rfl) Try.underlying80 (Try.zeroValue33 w') (p, ia, ip) HOK1.out (by rfl) (by rfl) HG1.out⟩
  case ha_3 => simp only [Act.put, List.setIfInBounds_toArray, List.set_cons_zero, List.set_cons_succ, i64_w, i32_w]; rfl
  refine pure_ (i := 6) (N := some 30) (v := ?_) (a' := ?_) #[true, true, true, true, true, true, true, false, false, false, false, false] rfl rfl (by kernel_rfl) (fun _ _ _ h => h) (Or.inl ⟨by rfl, ?_⟩) ?_ ?_
  rotate_left
  · intro w'
    go_simp
    with_reducible rfl
  rotate_left
  · simp only [Act.put, List.setIfInBounds_toArray, List.set_cons_zero, List.set_cons_succ, i64_w, i32_w]
    rfl
  refine pure_ (i := 7) (N := some 37) (v := ?_) (a' := ?_) #[true, true, true, true, true, true, true, true, false, false, false, false] rfl rfl (by kernel_rfl) (fun _ _ _ h => h) (Or.inl ⟨by rfl, ?_⟩) ?_ ?_
  rotate_left
  · intro w'
    go_simp
    with_reducible rfl
  rotate_left
  · simp only [Act.put, List.setIfInBounds_toArray, List.set_cons_zero, List.set_cons_succ, i64_w, i32_w]
    rfl
  refine pure_ (i := 8) (N := some 38) (v := ?_) (a' := ?_) #[true, true, true, true, true, true, true, true, true, false, false, false] rfl rfl (by kernel_rfl) (fun _ _ _ h => h) (Or.inl ⟨by rfl, ?_⟩) ?_ ?_
  rotate_left
  · intro w'
    go_simp
    with_reducible rfl
  rotate_left
  · simp only [Act.put, List.setIfInBounds_toArray, List.set_cons_zero, List.set_cons_succ, i64_w, i32_w]
    rfl
  refine one_ (i := 9) (N := some 8) #[true, true, true, true, true, true, true, true, true, true, false, false] rfl rfl (by kernel_rfl) (by decide) (fun K hK => ?_)
  refine value_ (w1 := ?_) (v := ?_) (by rfl) rfl ?_ ?_
  rotate_left 2
  · go_simp
    constructor
    · rfl
    · rfl
  refine hK.out _ _ ⟨(cell_alloc_old hHeld.1 _), (cell_alloc_old hHeld.2.1 _), (cell_alloc_old hHeld.2.2.1 _), (cell_alloc_old hHeld.2.2.2.1 _), (MapIs.alloc (w := w8.drew) BT8.out.min _)⟩ (fun hHeld => ?_)
  clear hK K
  refine norm_ (a' := ?_) ?_ ?_
  rotate_left
  · show Act.put _ (some 8) _ = _
    simp only [Act.put, List.setIfInBounds_toArray, List.set_cons_zero, List.set_cons_succ, i64_w, i32_w]
    rfl
  refine last_ (i := 10) (N := none) #[true, true, true, true, true, true, true, true, true, true, true, false] rfl rfl (by kernel_rfl) (by decide) (fun K hK => ?_)
  refine fill_ (by rfl) rfl 33 (.tmp 8) (.tmp 37) rfl w8.heap.size _ 33 (lM 0 0 0 0 0) (blk_new w8.drew _) rfl rfl rfl info33 (one_lM 0 0 0 0 0) ?_
  intro w10 hxw10 hfw10
  have HXw10 := Aside0.mk hxw10
  have HFw10 := Aside0.mk hfw10
  clear hxw10 hfw10
  refine hK.out _ _ ?_
  clear hK K
  refine pure_ (i := 11) (N := some 9) (v := ?_) (a' := ?_) #[true, true, true, true, true, true, true, true, true, true, true, true] rfl rfl (by kernel_rfl) (fun _ _ _ h => h) (Or.inl ⟨by rfl, ?_⟩) ?_ ?_
  rotate_left
  · intro w'
    go_simp
    with_reducible rfl
  rotate_left
  · simp only [Act.put, List.setIfInBounds_toArray, List.set_cons_zero, List.set_cons_succ, i64_w, i32_w]
    rfl
  refine done_ (by kernel_rfl) ?_
  have BA := Aside0.mk ((Below.refl w8.heap.size w8).drew.alloc (Nat.le_refl _) (.cells #[.int .i64 0, .int .u32 0, .int .i64 0, .int .u32 0, .int .i64 0, .int .i64 0, .int .i64 0, .int .u8 0, .int .u8 0, .int .u8 0, .int .u8 0, .int .u8 0, .int .u8 0, .int .u8 0, .int .u8 0, .int .u8 0, .int .u8 0, .int .u8 0, .int .u8 0, .slice none 0 0] 33))
  have B10 := Aside0.mk (below_fr BA.out BA.out.size HFw10.out (fun k hk => by rw [hk]; exact Nat.le_refl _))
  have X310 := Aside0.mk (blk_below X38.out B10.out)
  have X610 := Aside0.mk (blk_below X68.out B10.out)
  have X710 := Aside0.mk (blk_below X78.out B10.out)
  have BT10 := Aside0.mk (BT8.out.below B10.out)
  have C10 := Aside0.mk (below_step C8.out B10.out)
  clear hHeld BA B10 X38 X68 X78 HXw10 HFw10
  go_upto_region 10 with fail
  refine start_ (n := 12) (S := fun w' => w'.cell? ⟨g, 1, none⟩ = some (.map (some bo)) ∧ w'.cell? ⟨a7, 0, none⟩ = some (.int .i64 p) ∧ w'.cell? ⟨a7, 1, none⟩ = some (.int .u32 oa) ∧ w'.cell? ⟨a7, 2, none⟩ = some (.int .i64 op) ∧ MapIs KB w' bo Lo) (ds := [10]) #[false, false, false, false, false, false, false, false, false, false, false, false] (by kernel_rfl) rfl rfl ⟨(blk_cell BT10.out.blk 1), (blk_cell X710.out 0), (blk_cell X710.out 1), (blk_cell X710.out 2), BT10.out.mout⟩ (fun hHeld => ?_)
  refine pure_ (i := 0) (N := some 41) (v := ?_) (a' := ?_) #[true, false, false, false, false, false, false, false, false, false, false, false] rfl rfl (by kernel_rfl) (fun _ _ _ h => h) (Or.inl ⟨by rfl, ?_⟩) ?_ ?_
  rotate_left
  · intro w'
    go_simp
    with_reducible rfl
  rotate_left
  · simp only [Act.put, List.setIfInBounds_toArray, List.set_cons_zero, List.set_cons_succ, i64_w, i32_w]
    rfl
  refine pure_ (i := 1) (N := some 42) (v := ?_) (a' := ?_) #[true, true, false, false, false, false, false, false, false, false, false, false] rfl rfl (by kernel_rfl) (fun _ _ _ h => h) (Or.inl ⟨by rfl, ?_⟩) ?_ ?_
  rotate_left
  · intro w'
    go_simp
    with_reducible rfl
  rotate_left
  · simp only [Act.put, List.setIfInBounds_toArray, List.set_cons_zero, List.set_cons_succ, i64_w, i32_w]
    rfl
  refine pure_ (i := 2) (N := some 43) (v := ?_) (a' := ?_) #[true, true, true, false, false, false, false, false, false, false, false, false] rfl rfl (by kernel_rfl) (fun _ _ _ h => h) (Or.inl ⟨by rfl, ?_⟩) ?_ ?_
  rotate_left
  · intro w'
    go_simp
    with_reducible rfl
  rotate_left
  · simp only [Act.put, List.setIfInBounds_toArray, List.set_cons_zero, List.set_cons_succ, i64_w, i32_w]
    rfl
  refine take_ (i := 3) (N := some 44) (v := ?_) (a' := ?_) #[true, true, true, true, false, false, false, false, false, false, false, false] rfl rfl (by kernel_rfl) (fun _ _ _ h => h) (Or.inl ⟨by rfl, ?_⟩) hHeld ?_ ?_
  rotate_left
  · rintro w' ⟨s0, s1, s2, s3, s4⟩
    go_simp
    with_reducible rfl
  rotate_left
  · simp only [Act.put, List.setIfInBounds_toArray, List.set_cons_zero, List.set_cons_succ, i64_w, i32_w]
    rfl
  refine take_ (i := 4) (N := some 45) (v := ?_) (a' := ?_) #[true, true, true, true, true, false, false, false, false, false, false, false] rfl rfl (by kernel_rfl) (fun _ _ _ h => h) (Or.inl ⟨by rfl, ?_⟩) hHeld ?_ ?_
  rotate_left
  · rintro w' ⟨s0, s1, s2, s3, s4⟩
    go_simp
    with_reducible rfl
  rotate_left
  · simp only [Act.put, List.setIfInBounds_toArray, List.set_cons_zero, List.set_cons_succ, i64_w, i32_w]
    rfl
  refine take_ (i := 5) (N := some 46) (v := (.tuple #[.agg #[.int .u32 ea, .int .i64 eb], .bool hs])) (a' := ?aa_4) #[true, true, true, true, true, true, false, false, false, false, false, false] rfl rfl (by kernel_rfl) (fun _ _ _ h => h) ?hy_4 hHeld ?ha_4 ?h_4
  case hy_4 => exact Or.inl ⟨by rfl, fun w' s => look_run KB s.2.2.2.2 (.tmp 44) (.tmp 45) (by rfl) Try.underlying81 (Try.zeroValue29 w') (p, oa, op) HOK2.out (by rfl) (by rfl) HG2.out⟩
  case ha_4 => simp only [Act.put, List.setIfInBounds_toArray, List.set_cons_zero, List.set_cons_succ, i64_w, i32_w]; rfl
  refine pure_ (i := 6) (N := some 40) (v := ?_) (a' := ?_) #[true, true, true, true, true, true, true, false, false, false, false, false] rfl rfl (by kernel_rfl) (fun _ _ _ h => h) (Or.inl ⟨by rfl, ?_⟩) ?_ ?_
  rotate_left
  · intro w'
    go_simp
    with_reducible rfl
  rotate_left
  · simp only [Act.put, List.setIfInBounds_toArray, List.set_cons_zero, List.set_cons_succ, i64_w, i32_w]
    rfl
  refine pure_ (i := 7) (N := some 47) (v := ?_) (a' := ?_) #[true, true, true, true, true, true, true, true, false, false, false, false] rfl rfl (by kernel_rfl) (fun _ _ _ h => h) (Or.inl ⟨by rfl, ?_⟩) ?_ ?_
  rotate_left
  · intro w'
    go_simp
    with_reducible rfl
  rotate_left
  · simp only [Act.put, List.setIfInBounds_toArray, List.set_cons_zero, List.set_cons_succ, i64_w, i32_w]
    rfl
  refine pure_ (i := 8) (N := some 48) (v := ?_) (a' := ?_) #[true, true, true, true, true, true, true, true, true, false, false, false] rfl rfl (by kernel_rfl) (fun _ _ _ h => h) (Or.inl ⟨by rfl, ?_⟩) ?_ ?_
  rotate_left
  · intro w'
    go_simp
    with_reducible rfl
  rotate_left
  · simp only [Act.put, List.setIfInBounds_toArray, List.set_cons_zero, List.set_cons_succ, i64_w, i32_w]
    rfl
  refine one_ (i := 9) (N := some 10) #[true, true, true, true, true, true, true, true, true, true, false, false] rfl rfl (by kernel_rfl) (by decide) (fun K hK => ?_)
  refine value_ (w1 := ?_) (v := ?_) (by rfl) rfl ?_ ?_
  rotate_left 2
  · go_simp
    constructor
    · rfl
    · rfl
  refine hK.out _ _ ⟨(cell_alloc_old hHeld.1 _), (cell_alloc_old hHeld.2.1 _), (cell_alloc_old hHeld.2.2.1 _), (cell_alloc_old hHeld.2.2.2.1 _), (MapIs.alloc (w := w10.drew) BT10.out.mout _)⟩ (fun hHeld => ?_)
  clear hK K
  refine norm_ (a' := ?_) ?_ ?_
  rotate_left
  · show Act.put _ (some 10) _ = _
    simp only [Act.put, List.setIfInBounds_toArray, List.set_cons_zero, List.set_cons_succ, i64_w, i32_w]
    rfl
  refine last_ (i := 10) (N := none) #[true, true, true, true, true, true, true, true, true, true, true, false] rfl rfl (by kernel_rfl) (by decide) (fun K hK => ?_)
  refine skip_ (w1 := ?_) (by rfl) rfl ?_ ?_
  rotate_left
  · go_simp
    rfl
  refine hK.out _ _ ?_
  clear hK K
  refine pure_ (i := 11) (N := some 11) (v := ?_) (a' := ?_) #[true, true, true, true, true, true, true, true, true, true, true, true] rfl rfl (by kernel_rfl) (fun _ _ _ h => h) (Or.inl ⟨by rfl, ?_⟩) ?_ ?_
  rotate_left
  · intro w'
    go_simp
    with_reducible rfl
  rotate_left
  · simp only [Act.put, List.setIfInBounds_toArray, List.set_cons_zero, List.set_cons_succ, i64_w, i32_w]
    rfl
  refine done_ (by kernel_rfl) ?_
  obtain ⟨w11, hw11⟩ : ∃ w11, w11 = (w10.alloc (.cells #[.int .u32 ea, .int .i64 eb] 29)).drew := ⟨_, rfl⟩
  have hb11 : Below w10.heap.size w10 w11 := by rw [hw11]; exact (below_alloc (Below.refl w10.heap.size w10) _).drew
  have X3b := Aside0.mk (blk_below X310.out hb11)
  have X6b := Aside0.mk (blk_below X610.out hb11)
  have X7b := Aside0.mk (blk_below X710.out hb11)
  have BT11 := Aside0.mk (BT10.out.below hb11)
  have Gb := Aside0.mk BT11.out.blk
  have C11 := Aside0.mk (below_step C10.out hb11)
  rw [← hw11]
  clear hb11 hw11 hHeld X310 X610 X710
  cases hs with
  | true =>
    go_wp2_with fail
    go_ret
    exact ⟨⟨rfl, BT11.out⟩, Fr.of_below C11.out _⟩
  | false =>
    go_upto_region 13 with fail
    refine start_ (n := 20) (S := fun w' => w'.cell? ⟨g, 0, none⟩ = some (.map (some bi)) ∧ w'.cell? ⟨g, 1, none⟩ = some (.map (some bo)) ∧ w'.cell? ⟨a6, 0, none⟩ = some (.int .i64 p) ∧ w'.cell? ⟨a6, 1, none⟩ = some (.int .u32 ia) ∧ w'.cell? ⟨a6, 2, none⟩ = some (.int .i64 ip) ∧ w'.cell? ⟨a7, 0, none⟩ = some (.int .i64 p) ∧ w'.cell? ⟨a7, 1, none⟩ = some (.int .u32 oa) ∧ w'.cell? ⟨a7, 2, none⟩ = some (.int .i64 op) ∧ w'.cell? ⟨w.heap.size, 1, none⟩ = some (.int .u32 ia) ∧ w'.cell? ⟨w.heap.size, 2, none⟩ = some (.int .i64 ip) ∧ w'.rangeAt w.heap.size 0 (lM p ia ip oa op)) (ds := [19]) #[false, false, false, false, false, false, false, false, false, false, false, false, false, false, false, false, false, false, false, false] (by kernel_rfl) rfl rfl ⟨(blk_cell Gb.out 0), (blk_cell Gb.out 1), (blk_cell X6b.out 0), (blk_cell X6b.out 1), (blk_cell X6b.out 2), (blk_cell X7b.out 0), (blk_cell X7b.out 1), (blk_cell X7b.out 2), (blk_cell X3b.out 1), (blk_cell X3b.out 2), (range_blk (cs := (lM p ia ip oa op)) X3b.out)⟩ (fun hHeld => ?_)
    refine pure_ (i := 0) (N := some 50) (v := ?_) (a' := ?_) #[true, false, false, false, false, false, false, false, false, false, false, false, false, false, false, false, false, false, false, false] rfl rfl (by kernel_rfl) (fun _ _ _ h => h) (Or.inl ⟨by rfl, ?_⟩) ?_ ?_
    rotate_left
    · intro w'
      go_simp
      with_reducible rfl
    rotate_left
    · simp only [Act.put, List.setIfInBounds_toArray, List.set_cons_zero, List.set_cons_succ, i64_w, i32_w]
      rfl
    refine pure_ (i := 1) (N := some 51) (v := ?_) (a' := ?_) #[true, true, false, false, false, false, false, false, false, false, false, false, false, false, false, false, false, false, false, false] rfl rfl (by kernel_rfl) (fun _ _ _ h => h) (Or.inl ⟨by rfl, ?_⟩) ?_ ?_
    rotate_left
    · intro w'
      go_simp
      with_reducible rfl
    rotate_left
    · simp only [Act.put, List.setIfInBounds_toArray, List.set_cons_zero, List.set_cons_succ, i64_w, i32_w]
      rfl
    refine pure_ (i := 2) (N := some 52) (v := ?_) (a' := ?_) #[true, true, true, false, false, false, false, false, false, false, false, false, false, false, false, false, false, false, false, false] rfl rfl (by kernel_rfl) (fun _ _ _ h => h) (Or.inl ⟨by rfl, ?_⟩) ?_ ?_
    rotate_left
    · intro w'
      go_simp
      with_reducible rfl
    rotate_left
    · simp only [Act.put, List.setIfInBounds_toArray, List.set_cons_zero, List.set_cons_succ, i64_w, i32_w]
      rfl
    refine pure_ (i := 5) (N := some 55) (v := ?_) (a' := ?_) #[true, true, true, false, false, true, false, false, false, false, false, false, false, false, false, false, false, false, false, false] rfl rfl (by kernel_rfl) (fun _ _ _ h => h) (Or.inl ⟨by rfl, ?_⟩) ?_ ?_
    rotate_left
    · intro w'
      go_simp
      with_reducible rfl
    rotate_left
    · simp only [Act.put, List.setIfInBounds_toArray, List.set_cons_zero, List.set_cons_succ, i64_w, i32_w]
      rfl
    refine pure_ (i := 6) (N := some 56) (v := ?_) (a' := ?_) #[true, true, true, false, false, true, true, false, false, false, false, false, false, false, false, false, false, false, false, false] rfl rfl (by kernel_rfl) (fun _ _ _ h => h) (Or.inl ⟨by rfl, ?_⟩) ?_ ?_
    rotate_left
    · intro w'
      go_simp
      with_reducible rfl
    rotate_left
    · simp only [Act.put, List.setIfInBounds_toArray, List.set_cons_zero, List.set_cons_succ, i64_w, i32_w]
      rfl
    refine pure_ (i := 7) (N := some 57) (v := ?_) (a' := ?_) #[true, true, true, false, false, true, true, true, false, false, false, false, false, false, false, false, false, false, false, false] rfl rfl (by kernel_rfl) (fun _ _ _ h => h) (Or.inl ⟨by rfl, ?_⟩) ?_ ?_
    rotate_left
    · intro w'
      go_simp
      with_reducible rfl
    rotate_left
    · simp only [Act.put, List.setIfInBounds_toArray, List.set_cons_zero, List.set_cons_succ, i64_w, i32_w]
      rfl
    refine pure_ (i := 12) (N := some 62) (v := ?_) (a' := ?_) #[true, true, true, false, false, true, true, true, false, false, false, false, true, false, false, false, false, false, false, false] rfl rfl (by kernel_rfl) (fun _ _ _ h => h) (Or.inl ⟨by rfl, ?_⟩) ?_ ?_
    rotate_left
    · intro w'
      go_simp
      with_reducible rfl
    rotate_left
    · simp only [Act.put, List.setIfInBounds_toArray, List.set_cons_zero, List.set_cons_succ, i64_w, i32_w]
      rfl
    refine take_ (i := 3) (N := some 53) (v := ?_) (a' := ?_) #[true, true, true, true, false, true, true, true, false, false, false, false, true, false, false, false, false, false, false, false] rfl rfl (by kernel_rfl) (fun _ _ _ h => h) (Or.inl ⟨by rfl, ?_⟩) hHeld ?_ ?_
    rotate_left
    · rintro w' ⟨s0, s1, s2, s3, s4, s5, s6, s7, s8, s9, s10⟩
      go_simp
      with_reducible rfl
    rotate_left
    · simp only [Act.put, List.setIfInBounds_toArray, List.set_cons_zero, List.set_cons_succ, i64_w, i32_w]
      rfl
    refine take_ (i := 4) (N := some 54) (v := ?_) (a' := ?_) #[true, true, true, true, true, true, true, true, false, false, false, false, true, false, false, false, false, false, false, false] rfl rfl (by kernel_rfl) (fun _ _ _ h => h) (Or.inl ⟨by rfl, ?_⟩) hHeld ?_ ?_
    rotate_left
    · rintro w' ⟨s0, s1, s2, s3, s4, s5, s6, s7, s8, s9, s10⟩
      go_simp
      with_reducible rfl
    rotate_left
    · simp only [Act.put, List.setIfInBounds_toArray, List.set_cons_zero, List.set_cons_succ, i64_w, i32_w]
      rfl
    refine take_ (i := 8) (N := some 58) (v := ?_) (a' := ?_) #[true, true, true, true, true, true, true, true, true, false, false, false, true, false, false, false, false, false, false, false] rfl rfl (by kernel_rfl) (fun _ _ _ h => h) (Or.inl ⟨by rfl, ?_⟩) hHeld ?_ ?_
    rotate_left
    · rintro w' ⟨s0, s1, s2, s3, s4, s5, s6, s7, s8, s9, s10⟩
      go_simp
      with_reducible rfl
    rotate_left
    · simp only [Act.put, List.setIfInBounds_toArray, List.set_cons_zero, List.set_cons_succ, i64_w, i32_w]
      rfl
    refine take_ (i := 9) (N := some 59) (v := ?_) (a' := ?_) #[true, true, true, true, true, true, true, true, true, true, false, false, true, false, false, false, false, false, false, false] rfl rfl (by kernel_rfl) (fun _ _ _ h => h) (Or.inl ⟨by rfl, ?_⟩) hHeld ?_ ?_
    rotate_left
    · rintro w' ⟨s0, s1, s2, s3, s4, s5, s6, s7, s8, s9, s10⟩
      go_simp
      with_reducible rfl
    rotate_left
    · simp only [Act.put, List.setIfInBounds_toArray, List.set_cons_zero, List.set_cons_succ, i64_w, i32_w]
      rfl
    refine take_ (i := 10) (N := some 60) (v := (.agg (lM p ia ip oa op).toArray)) (a' := ?aa_5) #[true, true, true, true, true, true, true, true, true, true, true, false, true, false, false, false, false, false, false, false] rfl rfl (by kernel_rfl) (fun _ _ _ h => h) ?hy_5 hHeld ?ha_5 ?h_5
    case hy_5 => exact yieldsIf_load_mid (by rfl) 33 (.tmp 3) rfl w.heap.size 0 rfl (lM p ia ip oa op) _ (fun w' s => s.2.2.2.2.2.2.2.2.2.2) Try.underlying33 rfl info33
    case ha_5 => simp only [Act.put, List.setIfInBounds_toArray, List.set_cons_zero, List.set_cons_succ, i64_w, i32_w]; rfl
    refine take_ (i := 13) (N := some 63) (v := ?_) (a' := ?_) #[true, true, true, true, true, true, true, true, true, true, true, false, true, true, false, false, false, false, false, false] rfl rfl (by kernel_rfl) (fun _ _ _ h => h) (Or.inl ⟨by rfl, ?_⟩) hHeld ?_ ?_
    rotate_left
    · rintro w' ⟨s0, s1, s2, s3, s4, s5, s6, s7, s8, s9, s10⟩
      go_simp
      with_reducible rfl
    rotate_left
    · simp only [Act.put, List.setIfInBounds_toArray, List.set_cons_zero, List.set_cons_succ, i64_w, i32_w]
      rfl
    refine one_ (i := 11) (N := some 61) #[true, true, true, true, true, true, true, true, true, true, true, true, true, true, false, false, false, false, false, false] rfl rfl (by kernel_rfl) (by decide) (fun K hK => ?_)
    refine goes_ Try.func50 (by kernel_rfl) rfl #[.agg (lM p ia ip oa op).toArray] (by rfl) rfl rfl (by simp only [List.map_toArray, List.map_cons, List.map_nil]; rfl) ?_
    with_reducible refine (own_nil' _ p ia ip oa op).mono ?_
    rintro e w12 ⟨rfl, hb12⟩
    refine ⟨_, rfl, ?_⟩
    replace hb12 := below_step (Below.refl w11.heap.size w11).drew hb12
    have Gc := Aside0.mk (blk_below Gb.out hb12)
    have X3c := Aside0.mk (blk_below X3b.out hb12)
    have X6c := Aside0.mk (blk_below X6b.out hb12)
    have X7c := Aside0.mk (blk_below X7b.out hb12)
    have MI12 := Aside0.mk (BT11.out.min.below hb12)
    have MO12 := Aside0.mk (BT11.out.mout.below hb12)
    have HB12 := Aside0.mk hb12
    clear hb12
    refine hK.out _ _ ⟨(blk_cell Gc.out 0), (blk_cell Gc.out 1), (blk_cell X6c.out 0), (blk_cell X6c.out 1), (blk_cell X6c.out 2), (blk_cell X7c.out 0), (blk_cell X7c.out 1), (blk_cell X7c.out 2), (blk_cell X3c.out 1), (blk_cell X3c.out 2), (range_blk (cs := (lM p ia ip oa op)) X3c.out)⟩ (fun hHeld => ?_)
    clear hK K
    refine norm_ (a' := ?_) ?_ ?_
    rotate_left
    · show Act.put _ (some 61) _ = _
      simp only [Act.put, List.setIfInBounds_toArray, List.set_cons_zero, List.set_cons_succ, i64_w, i32_w]
      rfl
    refine one_ (i := 14) (N := some 64) #[true, true, true, true, true, true, true, true, true, true, true, true, true, true, true, false, false, false, false, false] rfl rfl (by kernel_rfl) (by decide) (fun K hK => ?_)
    refine entry_ KB (by rfl) rfl MI12.out (.tmp 53) (.tmp 54) rfl Try.underlying80 Try.zeroValue33 (p, ia, ip) HOK1.out rfl rfl ?_
    intro st14 w14 hg14 hs14 hS14
    have Gd := Aside0.mk ((hg14.block _ (blk_lt Gc.out) (fun h => NEg.out.1 (by injection h))).trans Gc.out)
    have X3d := Aside0.mk ((hg14.block _ (blk_lt X3c.out) (fun h => NE3.out.1 (by injection h))).trans X3c.out)
    have X6d := Aside0.mk ((hg14.block _ (blk_lt X6c.out) (fun h => NE6.out.1 (by injection h))).trans X6c.out)
    have X7d := Aside0.mk ((hg14.block _ (blk_lt X7c.out) (fun h => NE7.out.1 (by injection h))).trans X7c.out)
    have MO14 := Aside0.mk (MO12.out.grown hg14 (fun h => NIO.out (by injection h with h; exact h.symm)))
    have HG14 := Aside0.mk hg14
    have HS14 := Aside0.mk hS14
    have HZ14 := Aside0.mk hs14
    clear hg14 hs14 hS14
    refine hK.out _ _ ⟨(blk_cell Gd.out 0), (blk_cell Gd.out 1), (blk_cell X6d.out 0), (blk_cell X6d.out 1), (blk_cell X6d.out 2), (blk_cell X7d.out 0), (blk_cell X7d.out 1), (blk_cell X7d.out 2), (blk_cell X3d.out 1), (blk_cell X3d.out 2), (range_blk (cs := (lM p ia ip oa op)) X3d.out)⟩ (fun hHeld => ?_)
    clear hK K
    refine norm_ (a' := ?_) ?_ ?_
    rotate_left
    · show Act.put _ (some 64) _ = _
      simp only [Act.put, List.setIfInBounds_toArray, List.set_cons_zero, List.set_cons_succ, i64_w, i32_w]
      rfl
    refine pure_ (i := 15) (N := some 65) (v := ?_) (a' := ?_) #[true, true, true, true, true, true, true, true, true, true, true, true, true, true, true, true, false, false, false, false] rfl rfl (by kernel_rfl) (fun _ _ _ h => h) (Or.inl ⟨by rfl, ?_⟩) ?_ ?_
    rotate_left
    · intro w'
      go_simp
      with_reducible rfl
    rotate_left
    · simp only [Act.put, List.setIfInBounds_toArray, List.set_cons_zero, List.set_cons_succ, i64_w, i32_w]
      rfl
    refine one_ (i := 16) (N := none) #[true, true, true, true, true, true, true, true, true, true, true, true, true, true, true, true, true, false, false, false] rfl rfl (by kernel_rfl) (by decide) (fun K hK => ?_)
    refine entry_store_ KB (by rfl) rfl HS14.out rfl (.tmp 53) (.tmp 65) (.tmp 61) rfl (.agg (lM p ia ip oa op).toArray) rfl rfl rfl ?_
    intro w16 hm16 hg16
    have Ge := Aside0.mk ((hg16.block _ (blk_lt Gd.out) (fun h => NEg.out.1 (by injection h))).trans Gd.out)
    have X3e := Aside0.mk ((hg16.block _ (blk_lt X3d.out) (fun h => NE3.out.1 (by injection h))).trans X3d.out)
    have X6e := Aside0.mk ((hg16.block _ (blk_lt X6d.out) (fun h => NE6.out.1 (by injection h))).trans X6d.out)
    have X7e := Aside0.mk ((hg16.block _ (blk_lt X7d.out) (fun h => NE7.out.1 (by injection h))).trans X7d.out)
    have MO16 := Aside0.mk (MO14.out.grown hg16 (fun h => NIO.out (by injection h with h; exact h.symm)))
    have MI16 := Aside0.mk hm16
    have HG16 := Aside0.mk hg16
    clear hm16 hg16
    refine hK.out _ _ ⟨(blk_cell Ge.out 0), (blk_cell Ge.out 1), (blk_cell X6e.out 0), (blk_cell X6e.out 1), (blk_cell X6e.out 2), (blk_cell X7e.out 0), (blk_cell X7e.out 1), (blk_cell X7e.out 2), (blk_cell X3e.out 1), (blk_cell X3e.out 2), (range_blk (cs := (lM p ia ip oa op)) X3e.out)⟩ (fun hHeld => ?_)
    clear hK K
    refine one_ (i := 17) (N := some 66) #[true, true, true, true, true, true, true, true, true, true, true, true, true, true, true, true, true, true, false, false] rfl rfl (by kernel_rfl) (by decide) (fun K hK => ?_)
    refine entry_ KB (by rfl) rfl MO16.out (.tmp 58) (.tmp 59) rfl Try.underlying81 Try.zeroValue29 (p, oa, op) HOK2.out rfl rfl ?_
    intro st17 w17 hg17 hs17 hS17
    have Gf := Aside0.mk ((hg17.block _ (blk_lt Ge.out) (fun h => NEg.out.2 (by injection h))).trans Ge.out)
    have X3f := Aside0.mk ((hg17.block _ (blk_lt X3e.out) (fun h => NE3.out.2 (by injection h))).trans X3e.out)
    have X6f := Aside0.mk ((hg17.block _ (blk_lt X6e.out) (fun h => NE6.out.2 (by injection h))).trans X6e.out)
    have X7f := Aside0.mk ((hg17.block _ (blk_lt X7e.out) (fun h => NE7.out.2 (by injection h))).trans X7e.out)
    have MI17 := Aside0.mk (MI16.out.grown hg17 (fun h => NIO.out (by injection h)))
    have HG17 := Aside0.mk hg17
    have HS17 := Aside0.mk hS17
    clear hg17 hs17 hS17
    refine hK.out _ _ ⟨(blk_cell Gf.out 0), (blk_cell Gf.out 1), (blk_cell X6f.out 0), (blk_cell X6f.out 1), (blk_cell X6f.out 2), (blk_cell X7f.out 0), (blk_cell X7f.out 1), (blk_cell X7f.out 2), (blk_cell X3f.out 1), (blk_cell X3f.out 2), (range_blk (cs := (lM p ia ip oa op)) X3f.out)⟩ (fun hHeld => ?_)
    clear hK K
    refine norm_ (a' := ?_) ?_ ?_
    rotate_left
    · show Act.put _ (some 66) _ = _
      simp only [Act.put, List.setIfInBounds_toArray, List.set_cons_zero, List.set_cons_succ, i64_w, i32_w]
      rfl
    refine pure_ (i := 18) (N := some 67) (v := ?_) (a' := ?_) #[true, true, true, true, true, true, true, true, true, true, true, true, true, true, true, true, true, true, true, false] rfl rfl (by kernel_rfl) (fun _ _ _ h => h) (Or.inl ⟨by rfl, ?_⟩) ?_ ?_
    rotate_left
    · intro w'
      go_simp
      with_reducible rfl
    rotate_left
    · simp only [Act.put, List.setIfInBounds_toArray, List.set_cons_zero, List.set_cons_succ, i64_w, i32_w]
      rfl
    refine last_ (i := 19) (N := none) #[true, true, true, true, true, true, true, true, true, true, true, true, true, true, true, true, true, true, true, true] rfl rfl (by kernel_rfl) (by decide) (fun K hK => ?_)
    refine entry_store_ KB (by rfl) rfl HS17.out rfl (.tmp 58) (.tmp 67) (.tmp 63) rfl (.agg #[.int .u32 ia, .int .i64 ip]) rfl rfl rfl ?_
    intro w19 hm19 hg19
    have Gh := Aside0.mk ((hg19.block _ (blk_lt Gf.out) (fun h => NEg.out.2 (by injection h))).trans Gf.out)
    have MI19 := Aside0.mk (MI17.out.grown hg19 (fun h => NIO.out (by injection h)))
    have MO19 := Aside0.mk hm19
    have HG19 := Aside0.mk hg19
    clear hm19 hg19
    refine hK.out _ _ ?_
    clear hK K
    refine done_ (by kernel_rfl) ?_
    go_wp2_with fail
    go_ret
    refine ⟨⟨rfl, ⟨Gh.out, MI19.out, MO19.out, H.out.ge, H.out.gei, H.out.geo, H.out.nio⟩⟩, ?_⟩
    exact ((((Fr.of_below (below_step C11.out HB12.out) (fun k => k = bi ∨ k = bo)).grown HG14.out (fun k hk => by cases hk; exact .inl (.inl rfl))).grown HG16.out (fun k hk => by cases hk; exact .inl (.inl rfl))).grown HG17.out (fun k hk => by cases hk; exact .inl (.inr rfl))).grown HG19.out (fun k hk => by cases hk; exact .inl (.inr rfl))
end Go.Proofs.Ytkpaibkkigfahaa.Bd
