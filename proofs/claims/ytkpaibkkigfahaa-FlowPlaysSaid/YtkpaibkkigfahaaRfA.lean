/- The document's list of sessions: where a session is; the plain laws of its Put, Set, Drop. The document's list of sessions: how it lies in memory; place. The document's list of sessions: place. The document's list of sessions: Get, Count, Due. The document's list of sessions: Due. -/
import Derived.Test.YtkpaibkkigfahaaFl10
import Derived.Test.YtkpaibkkigfahaaAr
import Derived.Laws.ResultCell
namespace Go.Proofs.Ytkpaibkkigfahaa.Fl
open Go.RowKit Go.Proofs.YtkpaibkkigfahaaW.PrintWords Go.Proofs.YtkpaibkkigfahaaW.PrintLast Go.Proofs.YtkpaibkkigfahaaW.PrintMore Go.Proofs.Ytkpaibkkigfahaa.Bs Go.Proofs.Ytkpaibkkigfahaa.Fr Go.Proofs.Ytkpaibkkigfahaa.Mp Go.Proofs.Ytkpaibkkigfahaa.Srt
open Go.Proofs.Ytkpaibkkigfahaa.PFlowPlays Go.Proofs.Ytkpaibkkigfahaa.FlP
set_option linter.unusedVariables false
set_option linter.unusedSimpArgs false

/-- Where a session of a key is, or would be. -/
def placeM (k : Key) : List S46 → Nat × Bool
  | [] => (0, false)
  | x :: r => if agK (keyF x) k = 0 then (0, true) else if agK (keyF x) k > 0 then (0, false) else ((placeM k r).1 + 1, (placeM k r).2)
theorem place_skip (k : Key) : ∀ (M : List S46) (i : Nat), i ≤ M.length → (∀ x ∈ M.take i, agK (keyF x) k < 0) → placeM k M = ((placeM k (M.drop i)).1 + i, (placeM k (M.drop i)).2)
  | M, 0, _, _ => by simp
  | [], i + 1, h, _ => by simp at h
  | x :: r, i + 1, h, hx => by
    have h1 := hx x (by simp)
    have ih := place_skip k r i (by simpa using h) (fun y hy => hx y (by simp [hy]))
    rw [placeM, if_neg (by omega), if_neg (by omega), ih, List.drop_succ_cons]
    simp only [Prod.mk.injEq, and_true]
    omega
theorem place_le (k : Key) : ∀ M : List S46, (placeM k M).1 ≤ M.length
  | [] => by simp [placeM]
  | x :: r => by
    have ih := place_le k r
    unfold placeM
    split
    · simp
    · split
      · simp
      · simp only [List.length_cons]; omega
theorem place_ins (f : S46) : ∀ M : List S46, M.take (placeM (keyF f) M).1 ++ f :: M.drop (placeM (keyF f) M).1 = ins f M
  | [] => by simp [placeM, ins]
  | x :: r => by
    have ih := place_ins f r
    unfold placeM ins
    by_cases h0 : agK (keyF x) (keyF f) = 0
    · rw [if_pos h0, if_neg (by show ¬ agK (keyF x) (keyF f) < 0; omega)]
      simp
    · rw [if_neg h0]
      by_cases h1 : agK (keyF x) (keyF f) > 0
      · rw [if_pos h1, if_neg (by show ¬ agK (keyF x) (keyF f) < 0; omega)]
        simp
      · rw [if_neg h1, if_pos (by show agK (keyF x) (keyF f) < 0; omega)]
        simp [ih]
theorem get_cons (x : S46) (r : List S46) (k : Key) : getM (x :: r) k = if keyF x = k then some x else getM r k := by
  unfold getM
  rw [List.find?_cons]
  by_cases h : keyF x = k <;> simp [h]
theorem get_lt {M : List S46} {x : S46} {k : Key} (h : Srt (x :: M)) (hx : agK (keyF x) k ≥ 0) : getM M k = none := by
  unfold getM
  rw [List.find?_eq_none]
  intro y hy hk
  have h1 := (List.pairwise_cons.1 h).1 y hy
  have h2 : keyF y = k := by simpa using hk
  rw [h2] at h1
  omega
theorem place_has {k : Key} : ∀ {M : List S46}, Srt M → (placeM k M).2 = hasM M k ∧ (hasM M k = true → M[(placeM k M).1]? = getM M k)
  | [], _ => by simp [placeM, hasM, getM]
  | x :: r, h => by
    have ih := place_has (k := k) (List.pairwise_cons.1 h).2
    unfold placeM hasM
    rw [get_cons]
    by_cases h0 : agK (keyF x) k = 0
    · rw [if_pos h0, if_pos (ag_zero h0)]
      simp
    · rw [if_neg h0]
      have hk : keyF x ≠ k := fun he => h0 (by rw [he]; have := good_ag.a k k; omega)
      rw [if_neg hk]
      by_cases h1 : agK (keyF x) k > 0
      · rw [if_pos h1, get_lt h (by omega)]
        simp
      · rw [if_neg h1]
        exact ⟨ih.1, fun hh => by simpa using ih.2 hh⟩
theorem del_gt {M : List S46} {x : S46} (h : Srt (x :: M)) : delM M (keyF x) = M := by
  refine List.filter_eq_self.2 (fun y hy => ?_)
  have h1 := (List.pairwise_cons.1 h).1 y hy
  simp only [decide_eq_true_eq]
  intro he
  rw [he] at h1
  have := good_ag.a (keyF x) (keyF x)
  omega
theorem del_cons (x : S46) (r : List S46) (k : Key) : delM (x :: r) k = if keyF x = k then delM r k else x :: delM r k := by
  unfold delM
  rw [List.filter_cons]
  by_cases h : keyF x = k <;> simp [h]
theorem place_del {k : Key} : ∀ {M : List S46}, Srt M → hasM M k = true → M.take (placeM k M).1 ++ M.drop ((placeM k M).1 + 1) = delM M k
  | [], _, hh => by simp [hasM, getM] at hh
  | x :: r, h, hh => by
    have ih := place_del (k := k) (List.pairwise_cons.1 h).2
    unfold placeM
    rw [del_cons]
    by_cases h0 : agK (keyF x) k = 0
    · have hk := ag_zero h0
      rw [if_pos h0, if_pos hk, ← hk, del_gt h]
      simp
    · have hk : keyF x ≠ k := fun he => h0 (by rw [he]; have := good_ag.a k k; omega)
      have hr : hasM r k = true := by unfold hasM at hh ⊢; rw [get_cons, if_neg hk] at hh; exact hh
      rw [if_neg h0, if_neg hk]
      by_cases h1 : agK (keyF x) k > 0
      · unfold hasM at hr
        rw [get_lt h (by omega)] at hr
        cases hr
      · rw [if_neg h1]
        simp [ih hr]
theorem place_set {f : S46} : ∀ {M : List S46}, Srt M → hasM M (keyF f) = true → M.set (placeM (keyF f) M).1 f = upM M f
  | [], _, hh => by simp [hasM, getM] at hh
  | x :: r, h, hh => by
    have ih := place_set (f := f) (List.pairwise_cons.1 h).2
    unfold placeM
    unfold upM at ih ⊢
    rw [del_cons]
    by_cases h0 : agK (keyF x) (keyF f) = 0
    · have hk := ag_zero h0
      rw [if_pos h0, if_pos hk, ← hk, del_gt h]
      cases r with
      | nil => rfl
      | cons y s =>
        have h1 := (List.pairwise_cons.1 h).1 y List.mem_cons_self
        have h2 := good_ag.a (keyF y) (keyF f)
        rw [hk] at h1
        rw [ins, if_neg (by show ¬ agK (keyF y) (keyF f) < 0; omega)]
        rfl
    · have hk : keyF x ≠ keyF f := fun he => h0 (by rw [he]; have := good_ag.a (keyF f) (keyF f); omega)
      have hr : hasM r (keyF f) = true := by unfold hasM at hh ⊢; rw [get_cons, if_neg hk] at hh; exact hh
      rw [if_neg h0, if_neg hk]
      by_cases h1 : agK (keyF x) (keyF f) > 0
      · unfold hasM at hr
        rw [get_lt h (by omega)] at hr
        cases hr
      · rw [if_neg h1, ins, if_pos (by show agK (keyF x) (keyF f) < 0; omega), List.set_cons_succ, ih hr]
end Go.Proofs.Ytkpaibkkigfahaa.Fl
namespace Go.Proofs.Ytkpaibkkigfahaa.Fl
open Go.RowKit Go.Proofs.YtkpaibkkigfahaaW.PrintWords Go.Proofs.YtkpaibkkigfahaaW.PrintLast Go.Proofs.YtkpaibkkigfahaaW.PrintMore Go.Proofs.Ytkpaibkkigfahaa.Bs Go.Proofs.Ytkpaibkkigfahaa.Fr Go.Proofs.Ytkpaibkkigfahaa.Mp Go.Proofs.Ytkpaibkkigfahaa.Srt
open Go.Proofs.Ytkpaibkkigfahaa.PFlowPlays Go.Proofs.Ytkpaibkkigfahaa.FlP
set_option linter.unusedVariables false
set_option linter.unusedSimpArgs false
/-- The document's list of block g, its sessions in a row of its own. -/
structure RF (w : World) (base g : Nat) (M : List S46) : Prop where
  row : ∃ v, w.heap[g]? = some (.cells #[v] 57 (0, 0)) ∧ k46.R 46 w base (fun _ => True) v M ∧ ∀ k, own v k → k ≠ g
  ge : base ≤ g
section
variable {w w' : World} {base g : Nat} {M : List S46}
theorem RF.lt (h : RF w base g M) : g < w.heap.size := by obtain ⟨v, hb, _⟩ := h.row; exact blk_lt hb
theorem RF.fr (h : RF w base g M) {F : Nat → Prop} (k : Fr w w' F) (hn : ∀ j, F j → j < base) : RF w' base g M where
  row := by
    obtain ⟨v, hb, hr, ho⟩ := h.row
    exact ⟨v, k.blk hb (fun hf => by have := hn g hf; have := h.ge; omega), R_fr hr rfl k (fun j hj hf => by have := hn j hf; have := R_ge hr hj; omega), ho⟩
  ge := h.ge
theorem RF.below (h : RF w base g M) (hb : Below w.heap.size w w') : RF w' base g M := h.fr (Fr.of_below hb (fun _ => False)) (fun _ hf => hf.elim)
/-- What is read of it. -/
theorem RF.look (h : RF w base g M) : ∃ A c, w.cell? ⟨g, 0, none⟩ = some (.slice A M.length c) ∧ k46.C w A M.length M ∧ M.length ≤ c := by
  obtain ⟨v, hb, hr, _⟩ := h.row
  obtain ⟨A, c, rfl⟩ := len_row hr
  have hh := Kd.R_reads' hr
  exact ⟨A, c, blk_cell hb 0, hh.2.2, by omega⟩
end
def befF (a b c d : Int) : Bool := if a < c then true else if a = c then decide (b < d) else false
theorem before_calls (a b c d : Int) (w : World) : Calls Try.prog 85 #[.agg #[.int .u32 a, .int .i64 b], .agg #[.int .u32 c, .int .i64 d]] w fun e w' => e = .returned (.bool (befF a b c d)) ∧ Below w.heap.size w w' := by
  refine (bailiwickref18_before.calls a b c d (befF a b c d) w ?_).mono ?_
  · unfold bailiwickref18_before.f befF
    split
    · rfl
    · split <;> rfl
  · intro e w' h
    exact h
theorem cmp_lt {a b : Int} (h : a < b) : cmpI a b = -1 := by unfold cmpI; rw [if_pos h]
theorem cmp_gt {a b : Int} (h : b < a) : cmpI a b = 1 := by unfold cmpI; rw [if_neg (by omega), if_pos h]
theorem cmp_eq (a : Int) : cmpI a a = 0 := by unfold cmpI; rw [if_neg (by omega), if_neg (by omega)]
theorem or_eq (a b : Int) : orI (cmpI a a) b = b := by unfold orI; rw [cmp_eq, if_pos rfl]
theorem or_lt {a b : Int} (c : Int) (h : a < b) : orI (cmpI a b) c = -1 := by unfold orI; rw [cmp_lt h, if_neg (by omega)]
theorem or_gt {a b : Int} (c : Int) (h : b < a) : orI (cmpI a b) c = 1 := by unfold orI; rw [cmp_gt h, if_neg (by omega)]
theorem bef_true {a b c d : Int} (h : befF a b c d = true) (r : Int) : orI (cmpI c a) (orI (cmpI d b) r) = 1 := by
  unfold befF at h
  by_cases h1 : a < c
  · exact or_gt _ h1
  · rw [if_neg h1] at h
    by_cases h2 : a = c
    · subst h2
      rw [if_pos rfl, decide_eq_true_eq] at h
      rw [or_eq, or_gt _ h]
    · rw [if_neg h2] at h; cases h
theorem bef_false {a b c d : Int} (h : befF a b c d = false) (hne : (c == a && d == b) = false) (r : Int) : orI (cmpI c a) (orI (cmpI d b) r) = -1 := by
  unfold befF at h
  by_cases h1 : a < c
  · rw [if_pos h1] at h; cases h
  · rw [if_neg h1] at h
    by_cases h2 : a = c
    · subst h2
      rw [if_pos rfl, decide_eq_false_iff_not] at h
      have hd : d ≠ b := fun he => by rw [he] at hne; simp at hne
      rw [or_eq, or_lt _ (by omega)]
    · exact or_lt _ (by omega)
theorem bef_true2 {a b c d : Int} (h : befF a b c d = true) : orI (cmpI c a) (cmpI d b) = 1 := by
  have h1 := bef_true h 0
  unfold orI at h1 ⊢
  split at h1
  · rename_i h0
    rw [if_pos h0]
    split at h1
    · omega
    · exact h1
  · rename_i h0
    rw [if_neg h0]; exact h1
theorem bef_false2 {a b c d : Int} (h : befF a b c d = false) (hne : (c == a && d == b) = false) : orI (cmpI c a) (cmpI d b) = -1 := by
  have h1 := bef_false h hne 0
  unfold orI at h1 ⊢
  split at h1
  · rename_i h0
    rw [if_pos h0]
    split at h1
    · omega
    · exact h1
  · rename_i h0
    rw [if_neg h0]; exact h1
theorem place_found {k : Key} {M : List S46} {i : Nat} {x : S46} (hx : M[i]? = some x) (h : ∀ y ∈ M.take i, agK (keyF y) k < 0) (h0 : agK (keyF x) k = 0) : placeM k M = (i, true) := by
  obtain ⟨hi, rfl⟩ := List.getElem?_eq_some_iff.1 hx
  rw [place_skip k M i (by omega) h, List.drop_eq_getElem_cons hi, placeM, if_pos h0]
  simp
theorem place_stop {k : Key} {M : List S46} {i : Nat} {x : S46} (hx : M[i]? = some x) (h : ∀ y ∈ M.take i, agK (keyF y) k < 0) (h0 : agK (keyF x) k = 1) : placeM k M = (i, false) := by
  obtain ⟨hi, rfl⟩ := List.getElem?_eq_some_iff.1 hx
  rw [place_skip k M i (by omega) h, List.drop_eq_getElem_cons hi, placeM, if_neg (by omega), if_pos (by omega)]
  simp
theorem place_end {k : Key} {M : List S46} (h : ∀ y ∈ M.take M.length, agK (keyF y) k < 0) : placeM k M = (M.length, false) := by
  rw [place_skip k M M.length (Nat.le_refl _) h, List.drop_length]
  simp [placeM]
theorem lt_next {k : Key} {M : List S46} {i : Nat} {x : S46} (hx : M[i]? = some x) (h : ∀ y ∈ M.take i, agK (keyF y) k < 0) (h0 : agK (keyF x) k = -1) : ∀ y ∈ M.take (i + 1), agK (keyF y) k < 0 := by
  intro y hy
  rw [List.take_add_one, hx, List.mem_append] at hy
  rcases hy with hy | hy
  · exact h y hy
  · obtain rfl : y = x := by simpa using hy
    omega
end Go.Proofs.Ytkpaibkkigfahaa.Fl
namespace Go.Proofs.Ytkpaibkkigfahaa.Fl
open Go.RowKit Go.Proofs.YtkpaibkkigfahaaW.PrintWords Go.Proofs.YtkpaibkkigfahaaW.PrintLast Go.Proofs.YtkpaibkkigfahaaW.PrintMore Go.Proofs.Ytkpaibkkigfahaa.Bs Go.Proofs.Ytkpaibkkigfahaa.Fr Go.Proofs.Ytkpaibkkigfahaa.Mp Go.Proofs.Ytkpaibkkigfahaa.Srt
open Go.Proofs.Ytkpaibkkigfahaa.PFlowPlays Go.Proofs.Ytkpaibkkigfahaa.FlP
set_option linter.unusedVariables false
set_option linter.unusedSimpArgs false
theorem eqI {a b c d : Int} (h : (a == b && (c == d)) = true) : a = b ∧ c = d := by simpa using h
theorem bef_eq (a b c d : Int) (h : (c == a && (d == b)) = true) : befF a b c d = false := by
  obtain ⟨rfl, rfl⟩ := eqI h
  unfold befF
  rw [if_neg (by omega), if_pos rfl]
  simp
theorem two_new (w : World) (o o' : Obj) : ((w.alloc o).alloc o').heap[w.heap.size + 1]? = some o' := by
  have h := blk_new (w.alloc o) o'
  rw [World.size_alloc] at h
  exact h
set_option maxHeartbeats 8000000 in
set_option maxRecDepth 100000 in
theorem place_calls (w : World) (base g : Nat) (M : List S46) (h : RF w base g M) (hM : M.length ≤ 100000) (p ia ip fa fp : Int) :
    Calls Try.prog 59 #[.pointer (some ⟨g, 0, none⟩), .int .i64 p, .agg #[.int .u32 ia, .int .i64 ip], .agg #[.int .u32 fa, .int .i64 fp]] w fun e w' => e = .returned (.tuple #[.int .i64 ((placeM (p, ia, ip, fa, fp) M).1 : Nat), .bool (placeM (p, ia, ip, fa, fp) M).2]) ∧ Below w.heap.size w w' := by
  obtain ⟨A, c, hcell, hC, _⟩ := h.look
  have hb := Below.alloc (below_alloc (Below.refl w.heap.size w) (E1 ia ip)) (by rw [World.size_alloc]; exact Nat.le_succ _) (E1 fa fp)
  have x6 := blk_alloc (blk_new w (E1 ia ip)) (E1 fa fp)
  have x7 := two_new w (E1 ia ip) (E1 fa fp)
  have HCELL := Aside0.mk (pw_cell_below hb hcell)
  have HC := Aside0.mk (Kd.C_below hC hb)
  have HB := Aside0.mk hb
  have Z6 := Aside0.mk x6
  have Z7 := Aside0.mk x7
  have HML := Aside0.mk hM
  clear hb x6 x7 hcell hC hM h
  unfold E1 at HCELL HC HB Z6 Z7
  go_enter Try.func59, Try.ntmps59
  go_wp2_with fail
  generalize (w.alloc (.cells #[.int .u32 ia, .int .i64 ip] 29)).alloc (.cells #[.int .u32 fa, .int .i64 fp] 29) = w2 at *
  go_loopg [10] M.length (fun r v10 wr => ∃ (i : Nat), v10 = .int .i64 i ∧ Aside0 (r + i = M.length) ∧ Aside0 (Below w2.heap.size w2 wr) ∧ Aside0 (∀ y ∈ M.take i, agK (keyF y) (p, ia, ip, fa, fp) < 0))
  case atStart => exact ⟨0, rfl, ⟨by omega⟩, ⟨Below.refl _ _⟩, ⟨by simp⟩⟩
  case round =>
    obtain ⟨i, rfl, hr, hbr, HLT⟩ := hrel
    have kg : wr.cell? ⟨g, 0, none⟩ = some (.slice A M.length c) := pw_cell_below hbr.out HCELL.out
    by_cases hi : i < M.length
    · have hi1 : decide ((i : Int) < (M.length : Int)) = true := decide_eq_true (by omega)
      have hi2 : (i : Int) < (M.length : Int) := by omega
      have hi3 : (0 : Int) ≤ (i : Int) := by omega
      obtain ⟨ad0, hA0, p0, p1, p2, p3, p4, p5, p6, p7⟩ := at_T46 (Kd.C_below HC.out hbr.out) (i : Int) hi3 hi2
      subst hA0
      rw [Int.toNat_natCast] at p0 p1 p2 p3 p4 p5 p6 p7
      have HG := Aside0.mk (rd_get hi)
      generalize rd_T46 M (i : Int) = x at *
      go_upto_region 5 with fail
      have Z0x := Aside0.mk (blk_new wr (.cells #[.int .i64 x.f0, .int .u32 x.f1.f0, .int .i64 x.f1.f1, .int .u32 x.f2.f0, .int .i64 x.f2.f1, .int .i64 x.f3, .int .i64 x.f4, .int .i64 x.f5] 46))
      have Z6x := Aside0.mk (blk_alloc (blk_below Z6.out hbr.out) (.cells #[.int .i64 x.f0, .int .u32 x.f1.f0, .int .i64 x.f1.f1, .int .u32 x.f2.f0, .int .i64 x.f2.f1, .int .i64 x.f3, .int .i64 x.f4, .int .i64 x.f5] 46))
      have Z7x := Aside0.mk (blk_alloc (blk_below Z7.out hbr.out) (.cells #[.int .i64 x.f0, .int .u32 x.f1.f0, .int .i64 x.f1.f1, .int .u32 x.f2.f0, .int .i64 x.f2.f1, .int .i64 x.f3, .int .i64 x.f4, .int .i64 x.f5] 46))
      have Dx := Aside0.mk (hbr.out.alloc hbr.out.size (.cells #[.int .i64 x.f0, .int .u32 x.f1.f0, .int .i64 x.f1.f1, .int .u32 x.f2.f0, .int .i64 x.f2.f1, .int .i64 x.f3, .int .i64 x.f4, .int .i64 x.f5] 46))
      generalize wr.alloc (.cells #[.int .i64 x.f0, .int .u32 x.f1.f0, .int .i64 x.f1.f1, .int .u32 x.f2.f0, .int .i64 x.f2.f1, .int .i64 x.f3, .int .i64 x.f4, .int .i64 x.f5] 46) = wx at *
      clear p0 p1 p2 p3 p4 p5 p6 p7
      have o0 : wx.cell? ⟨wr.heap.size, 0, none⟩ = some (.int .i64 x.f0) := blk_cell Z0x.out 0
      have o1 : wx.cell? ⟨wr.heap.size, 1, none⟩ = some (.int .u32 x.f1.f0) := blk_cell Z0x.out 1
      have o2 : wx.cell? ⟨wr.heap.size, 2, none⟩ = some (.int .i64 x.f1.f1) := blk_cell Z0x.out 2
      have o3 : wx.cell? ⟨wr.heap.size, 3, none⟩ = some (.int .u32 x.f2.f0) := blk_cell Z0x.out 3
      have o4 : wx.cell? ⟨wr.heap.size, 4, none⟩ = some (.int .i64 x.f2.f1) := blk_cell Z0x.out 4
      have o5 : wx.cell? ⟨wr.heap.size, 5, none⟩ = some (.int .i64 x.f3) := blk_cell Z0x.out 5
      have o6 : wx.cell? ⟨wr.heap.size, 6, none⟩ = some (.int .i64 x.f4) := blk_cell Z0x.out 6
      have o7 : wx.cell? ⟨wr.heap.size, 7, none⟩ = some (.int .i64 x.f5) := blk_cell Z0x.out 7
      have q0 : wx.cell? ⟨w.heap.size, 0, none⟩ = some (.int .u32 ia) := blk_cell Z6x.out 0
      have q1 : wx.cell? ⟨w.heap.size, 1, none⟩ = some (.int .i64 ip) := blk_cell Z6x.out 1
      have q2 : wx.cell? ⟨w.heap.size + 1, 0, none⟩ = some (.int .u32 fa) := blk_cell Z7x.out 0
      have q3 : wx.cell? ⟨w.heap.size + 1, 1, none⟩ = some (.int .i64 fp) := blk_cell Z7x.out 1
      obtain ⟨bI, hbI⟩ : ∃ b, b = (x.f1.f0 == ia && (x.f1.f1 == ip)) := ⟨_, rfl⟩
      have hE1 := eql29 x.f1.f0 ia x.f1.f1 ip
      rw [← hbI] at hE1
      have HBI := Aside0.mk hbI
      obtain ⟨bF, hbF⟩ : ∃ b, b = (x.f2.f0 == fa && (x.f2.f1 == fp)) := ⟨_, rfl⟩
      have hE2 := eql29 x.f2.f0 fa x.f2.f1 fp
      rw [← hbF] at hE2
      have HBF := Aside0.mk hbF
      clear hbI hbF
      by_cases h1 : x.f0 = p
      · subst h1
        cases bI with
        | true =>
          have hBI := HBI.out
          obtain ⟨e1, e2⟩ := eqI hBI.symm
          have HBEF := Aside0.mk (bef_eq ia ip x.f1.f0 x.f1.f1 hBI.symm)
          have HE12 : Aside0 (x.f1.f0 = ia ∧ x.f1.f1 = ip) := ⟨⟨e1, e2⟩⟩
          clear e1 e2 hBI
          cases bF with
          | true =>
            have HE34 : Aside0 (x.f2.f0 = fa ∧ x.f2.f1 = fp) := ⟨eqI HBF.out.symm⟩
            go_wp2_with fail
            go_ret2
            exact ⟨by rw [place_found HG.out HLT.out (by show orI (cmpI x.f0 x.f0) (orI (cmpI x.f1.f0 ia) (orI (cmpI x.f1.f1 ip) (orI (cmpI x.f2.f0 fa) (cmpI x.f2.f1 fp)))) = _; rw [or_eq]; rw [HE12.out.1, HE12.out.2, HE34.out.1, HE34.out.2, or_eq, or_eq, or_eq, cmp_eq])]; rfl, below_step HB.out Dx.out⟩
          | false =>
            go_wp2_with fail
            refine (before_calls _ _ _ _ _).mono ?_
            rintro e wt1 ⟨rfl, hd⟩
            rw [HBEF.out]
            have Z0y := Aside0.mk (blk_below Z0x.out hd)
            have Z6y := Aside0.mk (blk_below Z6x.out hd)
            have Z7y := Aside0.mk (blk_below Z7x.out hd)
            have Dy := Aside0.mk (below_step Dx.out hd)
            clear hd
            clear o0 o1 o2 o3 o4 o5 o6 o7 q0 q1 q2 q3
            have o0 : wt1.cell? ⟨wr.heap.size, 0, none⟩ = some (.int .i64 x.f0) := blk_cell Z0y.out 0
            have o1 : wt1.cell? ⟨wr.heap.size, 1, none⟩ = some (.int .u32 x.f1.f0) := blk_cell Z0y.out 1
            have o2 : wt1.cell? ⟨wr.heap.size, 2, none⟩ = some (.int .i64 x.f1.f1) := blk_cell Z0y.out 2
            have o3 : wt1.cell? ⟨wr.heap.size, 3, none⟩ = some (.int .u32 x.f2.f0) := blk_cell Z0y.out 3
            have o4 : wt1.cell? ⟨wr.heap.size, 4, none⟩ = some (.int .i64 x.f2.f1) := blk_cell Z0y.out 4
            have o5 : wt1.cell? ⟨wr.heap.size, 5, none⟩ = some (.int .i64 x.f3) := blk_cell Z0y.out 5
            have o6 : wt1.cell? ⟨wr.heap.size, 6, none⟩ = some (.int .i64 x.f4) := blk_cell Z0y.out 6
            have o7 : wt1.cell? ⟨wr.heap.size, 7, none⟩ = some (.int .i64 x.f5) := blk_cell Z0y.out 7
            have q0 : wt1.cell? ⟨w.heap.size, 0, none⟩ = some (.int .u32 ia) := blk_cell Z6y.out 0
            have q1 : wt1.cell? ⟨w.heap.size, 1, none⟩ = some (.int .i64 ip) := blk_cell Z6y.out 1
            have q2 : wt1.cell? ⟨w.heap.size + 1, 0, none⟩ = some (.int .u32 fa) := blk_cell Z7y.out 0
            have q3 : wt1.cell? ⟨w.heap.size + 1, 1, none⟩ = some (.int .i64 fp) := blk_cell Z7y.out 1
            obtain ⟨b4, hb4⟩ : ∃ b4, b4 = befF fa fp x.f2.f0 x.f2.f1 := ⟨_, rfl⟩
            have HB4 := Aside0.mk hb4
            clear hb4
            cases b4 with
            | true =>
              go_wp2_with fail
              refine (before_calls _ _ _ _ _).mono ?_
              rintro e wt2 ⟨rfl, hd⟩
              rw [← HB4.out]
              have Z0z := Aside0.mk (blk_below Z0y.out hd)
              have Z6z := Aside0.mk (blk_below Z6y.out hd)
              have Z7z := Aside0.mk (blk_below Z7y.out hd)
              have Dz := Aside0.mk (below_step Dy.out hd)
              clear hd
              clear o0 o1 o2 o3 o4 o5 o6 o7 q0 q1 q2 q3
              have o0 : wt2.cell? ⟨wr.heap.size, 0, none⟩ = some (.int .i64 x.f0) := blk_cell Z0z.out 0
              have o1 : wt2.cell? ⟨wr.heap.size, 1, none⟩ = some (.int .u32 x.f1.f0) := blk_cell Z0z.out 1
              have o2 : wt2.cell? ⟨wr.heap.size, 2, none⟩ = some (.int .i64 x.f1.f1) := blk_cell Z0z.out 2
              have o3 : wt2.cell? ⟨wr.heap.size, 3, none⟩ = some (.int .u32 x.f2.f0) := blk_cell Z0z.out 3
              have o4 : wt2.cell? ⟨wr.heap.size, 4, none⟩ = some (.int .i64 x.f2.f1) := blk_cell Z0z.out 4
              have o5 : wt2.cell? ⟨wr.heap.size, 5, none⟩ = some (.int .i64 x.f3) := blk_cell Z0z.out 5
              have o6 : wt2.cell? ⟨wr.heap.size, 6, none⟩ = some (.int .i64 x.f4) := blk_cell Z0z.out 6
              have o7 : wt2.cell? ⟨wr.heap.size, 7, none⟩ = some (.int .i64 x.f5) := blk_cell Z0z.out 7
              have q0 : wt2.cell? ⟨w.heap.size, 0, none⟩ = some (.int .u32 ia) := blk_cell Z6z.out 0
              have q1 : wt2.cell? ⟨w.heap.size, 1, none⟩ = some (.int .i64 ip) := blk_cell Z6z.out 1
              have q2 : wt2.cell? ⟨w.heap.size + 1, 0, none⟩ = some (.int .u32 fa) := blk_cell Z7z.out 0
              have q3 : wt2.cell? ⟨w.heap.size + 1, 1, none⟩ = some (.int .i64 fp) := blk_cell Z7z.out 1
              go_wp2_with fail
              go_ret2
              exact ⟨by rw [place_stop HG.out HLT.out (by show orI (cmpI x.f0 x.f0) (orI (cmpI x.f1.f0 ia) (orI (cmpI x.f1.f1 ip) (orI (cmpI x.f2.f0 fa) (cmpI x.f2.f1 fp)))) = _; rw [or_eq]; rw [HE12.out.1, HE12.out.2, or_eq, or_eq]; exact bef_true2 HB4.out.symm)]; rfl, below_step HB.out Dz.out⟩
            | false =>
              go_wp2_with fail
              refine (before_calls _ _ _ _ _).mono ?_
              rintro e wt2 ⟨rfl, hd⟩
              rw [← HB4.out]
              have Z0z := Aside0.mk (blk_below Z0y.out hd)
              have Z6z := Aside0.mk (blk_below Z6y.out hd)
              have Z7z := Aside0.mk (blk_below Z7y.out hd)
              have Dz := Aside0.mk (below_step Dy.out hd)
              clear hd
              clear o0 o1 o2 o3 o4 o5 o6 o7 q0 q1 q2 q3
              have o0 : wt2.cell? ⟨wr.heap.size, 0, none⟩ = some (.int .i64 x.f0) := blk_cell Z0z.out 0
              have o1 : wt2.cell? ⟨wr.heap.size, 1, none⟩ = some (.int .u32 x.f1.f0) := blk_cell Z0z.out 1
              have o2 : wt2.cell? ⟨wr.heap.size, 2, none⟩ = some (.int .i64 x.f1.f1) := blk_cell Z0z.out 2
              have o3 : wt2.cell? ⟨wr.heap.size, 3, none⟩ = some (.int .u32 x.f2.f0) := blk_cell Z0z.out 3
              have o4 : wt2.cell? ⟨wr.heap.size, 4, none⟩ = some (.int .i64 x.f2.f1) := blk_cell Z0z.out 4
              have o5 : wt2.cell? ⟨wr.heap.size, 5, none⟩ = some (.int .i64 x.f3) := blk_cell Z0z.out 5
              have o6 : wt2.cell? ⟨wr.heap.size, 6, none⟩ = some (.int .i64 x.f4) := blk_cell Z0z.out 6
              have o7 : wt2.cell? ⟨wr.heap.size, 7, none⟩ = some (.int .i64 x.f5) := blk_cell Z0z.out 7
              have q0 : wt2.cell? ⟨w.heap.size, 0, none⟩ = some (.int .u32 ia) := blk_cell Z6z.out 0
              have q1 : wt2.cell? ⟨w.heap.size, 1, none⟩ = some (.int .i64 ip) := blk_cell Z6z.out 1
              have q2 : wt2.cell? ⟨w.heap.size + 1, 0, none⟩ = some (.int .u32 fa) := blk_cell Z7z.out 0
              have q3 : wt2.cell? ⟨w.heap.size + 1, 1, none⟩ = some (.int .i64 fp) := blk_cell Z7z.out 1
              go_wp2_with fail
              go_roundg (M.length - (i + 1))
              case measure => have := hr.out; omega
              case rel => exact ⟨i + 1, by first | rfl | (have := HML.out; rw [show wrap64 ((i : Int) + 1) = ((i + 1 : Nat) : Int) from by unfold wrap64; omega]), ⟨by omega⟩, ⟨Dz.out⟩, ⟨lt_next HG.out HLT.out (by show orI (cmpI x.f0 x.f0) (orI (cmpI x.f1.f0 ia) (orI (cmpI x.f1.f1 ip) (orI (cmpI x.f2.f0 fa) (cmpI x.f2.f1 fp)))) = _; rw [or_eq]; rw [HE12.out.1, HE12.out.2, or_eq, or_eq]; exact bef_false2 HB4.out.symm HBF.out.symm)⟩⟩
        | false =>
          obtain ⟨b2, hb2⟩ : ∃ b2, b2 = befF ia ip x.f1.f0 x.f1.f1 := ⟨_, rfl⟩
          have HB2 := Aside0.mk hb2
          clear hb2
          cases b2 with
          | true =>
            go_wp2_with fail
            refine (before_calls _ _ _ _ _).mono ?_
            rintro e wt1 ⟨rfl, hd⟩
            rw [← HB2.out]
            have Z0y := Aside0.mk (blk_below Z0x.out hd)
            have Z6y := Aside0.mk (blk_below Z6x.out hd)
            have Z7y := Aside0.mk (blk_below Z7x.out hd)
            have Dy := Aside0.mk (below_step Dx.out hd)
            clear hd
            clear o0 o1 o2 o3 o4 o5 o6 o7 q0 q1 q2 q3
            have o0 : wt1.cell? ⟨wr.heap.size, 0, none⟩ = some (.int .i64 x.f0) := blk_cell Z0y.out 0
            have o1 : wt1.cell? ⟨wr.heap.size, 1, none⟩ = some (.int .u32 x.f1.f0) := blk_cell Z0y.out 1
            have o2 : wt1.cell? ⟨wr.heap.size, 2, none⟩ = some (.int .i64 x.f1.f1) := blk_cell Z0y.out 2
            have o3 : wt1.cell? ⟨wr.heap.size, 3, none⟩ = some (.int .u32 x.f2.f0) := blk_cell Z0y.out 3
            have o4 : wt1.cell? ⟨wr.heap.size, 4, none⟩ = some (.int .i64 x.f2.f1) := blk_cell Z0y.out 4
            have o5 : wt1.cell? ⟨wr.heap.size, 5, none⟩ = some (.int .i64 x.f3) := blk_cell Z0y.out 5
            have o6 : wt1.cell? ⟨wr.heap.size, 6, none⟩ = some (.int .i64 x.f4) := blk_cell Z0y.out 6
            have o7 : wt1.cell? ⟨wr.heap.size, 7, none⟩ = some (.int .i64 x.f5) := blk_cell Z0y.out 7
            have q0 : wt1.cell? ⟨w.heap.size, 0, none⟩ = some (.int .u32 ia) := blk_cell Z6y.out 0
            have q1 : wt1.cell? ⟨w.heap.size, 1, none⟩ = some (.int .i64 ip) := blk_cell Z6y.out 1
            have q2 : wt1.cell? ⟨w.heap.size + 1, 0, none⟩ = some (.int .u32 fa) := blk_cell Z7y.out 0
            have q3 : wt1.cell? ⟨w.heap.size + 1, 1, none⟩ = some (.int .i64 fp) := blk_cell Z7y.out 1
            go_wp2_with fail
            go_ret2
            exact ⟨by rw [place_stop HG.out HLT.out (by show orI (cmpI x.f0 x.f0) (orI (cmpI x.f1.f0 ia) (orI (cmpI x.f1.f1 ip) (orI (cmpI x.f2.f0 fa) (cmpI x.f2.f1 fp)))) = _; rw [or_eq]; exact bef_true HB2.out.symm _)]; rfl, below_step HB.out Dy.out⟩
          | false =>
            go_wp2_with fail
            refine (before_calls _ _ _ _ _).mono ?_
            rintro e wt1 ⟨rfl, hd⟩
            rw [← HB2.out]
            have Z0y := Aside0.mk (blk_below Z0x.out hd)
            have Z6y := Aside0.mk (blk_below Z6x.out hd)
            have Z7y := Aside0.mk (blk_below Z7x.out hd)
            have Dy := Aside0.mk (below_step Dx.out hd)
            clear hd
            clear o0 o1 o2 o3 o4 o5 o6 o7 q0 q1 q2 q3
            have o0 : wt1.cell? ⟨wr.heap.size, 0, none⟩ = some (.int .i64 x.f0) := blk_cell Z0y.out 0
            have o1 : wt1.cell? ⟨wr.heap.size, 1, none⟩ = some (.int .u32 x.f1.f0) := blk_cell Z0y.out 1
            have o2 : wt1.cell? ⟨wr.heap.size, 2, none⟩ = some (.int .i64 x.f1.f1) := blk_cell Z0y.out 2
            have o3 : wt1.cell? ⟨wr.heap.size, 3, none⟩ = some (.int .u32 x.f2.f0) := blk_cell Z0y.out 3
            have o4 : wt1.cell? ⟨wr.heap.size, 4, none⟩ = some (.int .i64 x.f2.f1) := blk_cell Z0y.out 4
            have o5 : wt1.cell? ⟨wr.heap.size, 5, none⟩ = some (.int .i64 x.f3) := blk_cell Z0y.out 5
            have o6 : wt1.cell? ⟨wr.heap.size, 6, none⟩ = some (.int .i64 x.f4) := blk_cell Z0y.out 6
            have o7 : wt1.cell? ⟨wr.heap.size, 7, none⟩ = some (.int .i64 x.f5) := blk_cell Z0y.out 7
            have q0 : wt1.cell? ⟨w.heap.size, 0, none⟩ = some (.int .u32 ia) := blk_cell Z6y.out 0
            have q1 : wt1.cell? ⟨w.heap.size, 1, none⟩ = some (.int .i64 ip) := blk_cell Z6y.out 1
            have q2 : wt1.cell? ⟨w.heap.size + 1, 0, none⟩ = some (.int .u32 fa) := blk_cell Z7y.out 0
            have q3 : wt1.cell? ⟨w.heap.size + 1, 1, none⟩ = some (.int .i64 fp) := blk_cell Z7y.out 1
            go_wp2_with fail
            go_roundg (M.length - (i + 1))
            case measure => have := hr.out; omega
            case rel => exact ⟨i + 1, by first | rfl | (have := HML.out; rw [show wrap64 ((i : Int) + 1) = ((i + 1 : Nat) : Int) from by unfold wrap64; omega]), ⟨by omega⟩, ⟨Dy.out⟩, ⟨lt_next HG.out HLT.out (by show orI (cmpI x.f0 x.f0) (orI (cmpI x.f1.f0 ia) (orI (cmpI x.f1.f1 ip) (orI (cmpI x.f2.f0 fa) (cmpI x.f2.f1 fp)))) = _; rw [or_eq]; exact bef_false HB2.out.symm HBI.out.symm _)⟩⟩
      · have c0 : (x.f0 == p) = false := beq_eq_false_iff_ne.mpr h1
        by_cases h2 : x.f0 > p
        · have g0 : decide (x.f0 > p) = true := decide_eq_true h2
          go_wp2_with fail
          go_ret2
          exact ⟨by rw [place_stop HG.out HLT.out (by show orI (cmpI x.f0 p) _ = _; exact or_gt _ h2)]; rfl, below_step HB.out Dx.out⟩
        · have g0 : decide (x.f0 > p) = false := decide_eq_false h2
          have h3 : x.f0 < p := by omega
          go_wp2_with fail
          go_roundg (M.length - (i + 1))
          case measure => have := hr.out; omega
          case rel => exact ⟨i + 1, by first | rfl | (have := HML.out; rw [show wrap64 ((i : Int) + 1) = ((i + 1 : Nat) : Int) from by unfold wrap64; omega]), ⟨by omega⟩, ⟨Dx.out⟩, ⟨lt_next HG.out HLT.out (by show orI (cmpI x.f0 p) _ = _; exact or_lt _ h3)⟩⟩
    · have hi1 : decide ((i : Int) < (M.length : Int)) = false := decide_eq_false (by omega)
      have hil : i = M.length := by have := hr.out; omega
      have HPE := Aside0.mk (place_end (by have := HLT.out; rw [hil] at this; exact this))
      clear hil
      go_wp2_with fail
      go_ret2
      exact ⟨by rw [HPE.out]; rfl, below_step HB.out hbr.out⟩
end Go.Proofs.Ytkpaibkkigfahaa.Fl
namespace Go.Proofs.Ytkpaibkkigfahaa.Fl
open Go.RowKit Go.Proofs.YtkpaibkkigfahaaW.PrintWords Go.Proofs.YtkpaibkkigfahaaW.PrintLast Go.Proofs.YtkpaibkkigfahaaW.PrintMore Go.Proofs.Ytkpaibkkigfahaa.Bs Go.Proofs.Ytkpaibkkigfahaa.Fr Go.Proofs.Ytkpaibkkigfahaa.Mp Go.Proofs.Ytkpaibkkigfahaa.Srt
open Go.Proofs.Ytkpaibkkigfahaa.PFlowPlays Go.Proofs.Ytkpaibkkigfahaa.FlP
set_option linter.unusedVariables false
set_option linter.unusedSimpArgs false
theorem info46s : (Try.prog.info? 46).map (·.size) = some 8 := by kernel_rfl
theorem results_cell_tmp_row {P : Program} {fn : Func} {p u : Tmp} {ty : TypeId} (h : fn.results = #[.cell p ty, .tmp u]) (tmps : Array Value) (w : World) (g : Nat) (t : TypeId) (cs : Array Value) (fr : Nat × Nat) (d : TypeDesc) (v : Value)
    (hp : tmps.getD p undef = .pointer (some ⟨g, 0, none⟩)) (hv : tmps.getD u undef = v) (hg : w.heap[g]? = some (.cells cs t fr))
    (hu : P.underlying ty = some d) (hd : (match d with | .struct _ | .array _ _ => true | _ => false) = true) (hi : (P.info? ty).map (·.size) = some cs.size) :
    (results fn tmps).run P w = .ok (.tuple #[.agg cs, v]) w := by
  rw [results_cell_tmp h, hp, hv]
  simp [asAddr, Go.run_loadVar_row w g t ty cs fr d hg hu hd hi, Result.andThen]
theorem has_get {M : List S46} {k : Key} (h : hasM M k = true) : ∃ y, getM M k = some y := Option.isSome_iff_exists.1 h
theorem place_no {M : List S46} {k : Key} (h : Srt M) (hh : hasM M k = false) : getM M k = none := by
  unfold hasM at hh
  simpa using hh
set_option maxHeartbeats 4000000 in
set_option maxRecDepth 100000 in
theorem RGet_calls (w : World) (base g : Nat) (M : List S46) (h : RF w base g M) (hM : M.length ≤ 100000) (hs : Srt M) (p ia ip fa fp : Int) :
    Calls Try.prog 64 #[.pointer (some ⟨g, 0, none⟩), .int .i64 p, .agg #[.int .u32 ia, .int .i64 ip], .agg #[.int .u32 fa, .int .i64 fp]] w fun e w' => e = .returned (.tuple #[foundV (getM M (p, ia, ip, fa, fp)), .bool (hasM M (p, ia, ip, fa, fp))]) ∧ Below w.heap.size w w' := by
  have hb := (((Below.refl w.heap.size w).alloc (Nat.le_refl _) (E1 ia ip)).alloc (by simp) (E1 fa fp)).alloc (by simp; omega) Z46
  have HB := Aside0.mk hb
  have x8 : Aside0 ((((w.alloc (E1 ia ip)).alloc (E1 fa fp)).alloc Z46).heap[w.heap.size + 1 + 1]? = some Z46) := ⟨by have h := blk_new ((w.alloc (E1 ia ip)).alloc (E1 fa fp)) Z46; rw [World.size_alloc, World.size_alloc] at h; exact h⟩
  have R1 := Aside0.mk (h.below hb)
  have HS := Aside0.mk (place_has (k := (p, ia, ip, fa, fp)) hs)
  have HML := Aside0.mk hM
  have HSR := Aside0.mk hs
  clear hb h hM hs
  have HPL := Aside0.mk (place_calls _ base g M R1.out HML.out p ia ip fa fp)
  go_enter Try.func64, Try.ntmps64
  go_wp2_with fail
  refine HPL.out.mono ?_
  rintro e w3 ⟨rfl, hb3⟩
  have B3 := Aside0.mk (below_step HB.out hb3)
  have Z3 := Aside0.mk (blk_below x8.out hb3)
  have R3 := Aside0.mk (R1.out.below hb3)
  have S3 := Aside0.mk hb3.size
  clear hb3 HPL
  unfold Z46 at Z3
  obtain ⟨i, hi⟩ : ∃ i, i = (placeM (p, ia, ip, fa, fp) M).1 := ⟨_, rfl⟩
  obtain ⟨b, hbb⟩ : ∃ b, b = (placeM (p, ia, ip, fa, fp) M).2 := ⟨_, rfl⟩
  rw [← hi, ← hbb]
  have hh := HS.out
  rw [← hi, ← hbb] at hh
  have HH := Aside0.mk hh
  clear hi hbb hh HS
  cases b with
  | false =>
    have HN := Aside0.mk (place_no HSR.out HH.out.1.symm)
    go_wp2_with (refine wp_fill rfl 46 (.tmp 8) (.tmp 22) rfl (w.heap.size + 1 + 1) _ 46 (encF z46) Z3.out rfl rfl rfl info46s (fun v hv => pod46.one z46 v hv) ?_; intro w4 hx4 hf4; have X4 := Aside0.mk hx4; have HF4 := Aside0.mk hf4; clear hx4 hf4)
    refine bodyPost_ret (results_cell_tmp_row rfl _ _ (w.heap.size + 1 + 1) 46 _ (0, 0) _ _ rfl rfl X4.out Try.underlying46 rfl info46s) rfl ⟨by rw [HN.out, ← HH.out.1]; rfl, below_fr B3.out B3.out.size HF4.out (fun k hk => by rw [hk]; omega)⟩
  | true =>
    obtain ⟨y, hy⟩ := has_get HH.out.1.symm
    have HY := Aside0.mk hy
    have hg := HH.out.2 HH.out.1.symm
    rw [hy] at hg
    have hil := (List.getElem?_eq_some_iff.1 hg).1
    have hi2 : (i : Int) < (M.length : Int) := by omega
    have hi3 : (0 : Int) ≤ (i : Int) := by omega
    obtain ⟨A, c, kg, hC, _⟩ := R3.out.look
    obtain ⟨ad0, hA0, p0, p1, p2, p3, p4, p5, p6, p7⟩ := at_T46 hC (i : Int) hi3 hi2
    subst hA0
    rw [Int.toNat_natCast, rd_of hg] at p0 p1 p2 p3 p4 p5 p6 p7
    clear hg hC hy
    go_wp2_with (refine wp_fill rfl 46 (.tmp 8) (.tmp 29) rfl (w.heap.size + 1 + 1) _ 46 (encF y) Z3.out rfl rfl rfl info46s (fun v hv => pod46.one y v hv) ?_; intro w4 hx4 hf4; have X4 := Aside0.mk hx4; have HF4 := Aside0.mk hf4; clear hx4 hf4)
    refine bodyPost_ret (results_cell_tmp_row rfl _ _ (w.heap.size + 1 + 1) 46 _ (0, 0) _ _ rfl rfl X4.out Try.underlying46 rfl info46s) rfl ⟨by rw [HY.out, ← HH.out.1]; rfl, below_fr B3.out B3.out.size HF4.out (fun k hk => by rw [hk]; omega)⟩
set_option maxHeartbeats 4000000 in
set_option maxRecDepth 100000 in
theorem RCount_calls (w : World) (base g : Nat) (M : List S46) (h : RF w base g M) (hM : M.length ≤ 100000) (sub : Int) :
    Calls Try.prog 67 #[.pointer (some ⟨g, 0, none⟩), .int .u32 sub] w fun e w' => e = .returned (.int .i64 (M.filter (fun f => f.f1.f0 == sub)).length) ∧ Below w.heap.size w w' := by
  obtain ⟨A, c, hcell, hC, _⟩ := h.look
  have HCELL := Aside0.mk hcell
  have HC := Aside0.mk hC
  have HML := Aside0.mk hM
  clear hcell hC hM h
  obtain ⟨q, hq⟩ : ∃ q : S46 → Bool, q = fun f => f.f1.f0 == sub := ⟨_, rfl⟩
  have HQ := Aside0.mk hq
  rw [← hq]
  clear hq
  go_enter Try.func67, Try.ntmps67
  go_wp2_with fail
  go_loopg [5, 6] M.length (fun r v5 v6 wr => ∃ (i : Nat), v6 = .int .i64 i ∧ v5 = .int .i64 (((M.take i).filter q).length : Nat) ∧ Aside0 (r + i = M.length) ∧ Aside0 (Below w.heap.size w wr))
  case atStart => exact ⟨0, rfl, rfl, ⟨by omega⟩, ⟨Below.refl _ _⟩⟩
  case round =>
    obtain ⟨i, rfl, rfl, hr, hbr⟩ := hrel
    have kg : wr.cell? ⟨g, 0, none⟩ = some (.slice A M.length c) := pw_cell_below hbr.out HCELL.out
    by_cases hi : i < M.length
    · have hi1 : decide ((i : Int) < (M.length : Int)) = true := decide_eq_true (by omega)
      have hi2 : (i : Int) < (M.length : Int) := by omega
      have hi3 : (0 : Int) ≤ (i : Int) := by omega
      obtain ⟨ad0, hA0, p0, p1, p2, p3, p4, p5, p6, p7⟩ := at_T46 (Kd.C_below HC.out hbr.out) (i : Int) hi3 hi2
      subst hA0
      rw [Int.toNat_natCast] at p0 p1 p2 p3 p4 p5 p6 p7
      have HG := Aside0.mk (rd_get hi)
      generalize rd_T46 M (i : Int) = x at *
      have HN1 := Aside0.mk (filter_next q M i x HG.out)
      have HK1 := Aside0.mk (List.length_filter_le q (M.take i))
      have HT := Aside0.mk (List.length_take_le' i M)
      obtain ⟨b, hb⟩ : ∃ b, b = (x.f1.f0 == sub) := ⟨_, rfl⟩
      have HE : Aside0 (q x = b) := ⟨by rw [HQ.out, hb]⟩
      cases b with
      | true =>
        have c1 : (x.f1.f0 == sub) = true := hb.symm
        clear hb
        go_wp2_with fail
        go_roundg (M.length - (i + 1))
        case measure => have := hr.out; omega
        case rel => exact ⟨i + 1, by first | rfl | (have := HML.out; rw [show wrap64 ((i : Int) + 1) = ((i + 1 : Nat) : Int) from by unfold wrap64; omega]), by rw [HN1.out, HE.out]; first | rfl | (have := HML.out; have := HK1.out; have := HT.out; rw [show wrap64 ((((M.take i).filter q).length : Int) + 1) = ((((M.take i).filter q).length + 1 : Nat) : Int) from by unfold wrap64; omega]; rfl), ⟨by omega⟩, hbr⟩
      | false =>
        have c1 : (x.f1.f0 == sub) = false := hb.symm
        clear hb
        go_wp2_with fail
        go_roundg (M.length - (i + 1))
        case measure => have := hr.out; omega
        case rel => exact ⟨i + 1, by first | rfl | (have := HML.out; rw [show wrap64 ((i : Int) + 1) = ((i + 1 : Nat) : Int) from by unfold wrap64; omega]), by rw [HN1.out, HE.out]; rfl, ⟨by omega⟩, hbr⟩
    · have hi1 : decide ((i : Int) < (M.length : Int)) = false := decide_eq_false (by omega)
      have hil : i = M.length := by have := hr.out; omega
      rw [filter_all q M i hil]
      clear hil
      go_wp2_with fail
      go_ret
      exact ⟨rfl, hbr.out⟩
end Go.Proofs.Ytkpaibkkigfahaa.Fl
namespace Go.Proofs.Ytkpaibkkigfahaa.Fl
open Go.RowKit Go.Proofs.YtkpaibkkigfahaaW.PrintWords Go.Proofs.YtkpaibkkigfahaaW.PrintLast Go.Proofs.YtkpaibkkigfahaaW.PrintMore Go.Proofs.Ytkpaibkkigfahaa.Bs Go.Proofs.Ytkpaibkkigfahaa.Fr Go.Proofs.Ytkpaibkkigfahaa.Mp Go.Proofs.Ytkpaibkkigfahaa.Srt
open Go.Proofs.Ytkpaibkkigfahaa.PFlowPlays Go.Proofs.Ytkpaibkkigfahaa.FlP
set_option linter.unusedVariables false
set_option linter.unusedSimpArgs false
theorem filter_snoc {α : Type} (q : α → Bool) (M : List α) (i : Nat) (x : α) (h : M[i]? = some x) (hq : q x = true) : (M.take (i + 1)).filter q = (M.take i).filter q ++ [x] := by
  rw [List.take_add_one, h, List.filter_append]
  simp [hq]
theorem filter_same {α : Type} (q : α → Bool) (M : List α) (i : Nat) (x : α) (h : M[i]? = some x) (hq : q x = false) : (M.take (i + 1)).filter q = (M.take i).filter q := by
  rw [List.take_add_one, h, List.filter_append]
  simp [hq]
set_option maxHeartbeats 4000000 in
set_option maxRecDepth 100000 in
theorem RDue_calls (w : World) (base g : Nat) (M : List S46) (h : RF w base g M) (hM : M.length ≤ 100000) (now : Int) :
    Calls Try.prog 66 #[.pointer (some ⟨g, 0, none⟩), .int .i64 now] w fun e w' => ∃ v, e = .returned v ∧ k46.R 46 w' w.heap.size (fun _ => True) v (M.filter (fun f => decide (f.f3 ≤ now))) ∧ Below w.heap.size w w' := by
  obtain ⟨A, c, hcell, hC, _⟩ := h.look
  have HCELL := Aside0.mk hcell
  have HC := Aside0.mk hC
  have HML := Aside0.mk hM
  clear hcell hC hM h
  obtain ⟨q, hq⟩ : ∃ q : S46 → Bool, q = fun f => decide (f.f3 ≤ now) := ⟨_, rfl⟩
  have HQ := Aside0.mk hq
  rw [← hq]
  clear hq
  go_enter Try.func66, Try.ntmps66
  go_wp2_with fail
  go_loopg [5, 6] M.length (fun r v5 v6 wr => ∃ (i : Nat), v6 = .int .i64 i ∧ Aside0 (k46.R 46 wr w.heap.size (fun _ => True) v5 ((M.take i).filter q)) ∧ Aside0 (r + i = M.length) ∧ Aside0 (Below w.heap.size w wr))
  case atStart => exact ⟨0, rfl, ⟨by simpa using Kd.R_nil _ _ _ _ _⟩, ⟨by omega⟩, ⟨Below.refl _ _⟩⟩
  case round =>
    obtain ⟨i, rfl, RR, hr, hbr⟩ := hrel
    have kg : wr.cell? ⟨g, 0, none⟩ = some (.slice A M.length c) := pw_cell_below hbr.out HCELL.out
    by_cases hi : i < M.length
    · have hi1 : decide ((i : Int) < (M.length : Int)) = true := decide_eq_true (by omega)
      have hi2 : (i : Int) < (M.length : Int) := by omega
      have hi3 : (0 : Int) ≤ (i : Int) := by omega
      obtain ⟨ad0, hA0, p0, p1, p2, p3, p4, p5, p6, p7⟩ := at_T46 (Kd.C_below HC.out hbr.out) (i : Int) hi3 hi2
      subst hA0
      rw [Int.toNat_natCast] at p0 p1 p2 p3 p4 p5 p6 p7
      have HG := Aside0.mk (rd_get hi)
      generalize rd_T46 M (i : Int) = x at *
      have HK1 := Aside0.mk (List.length_filter_le q (M.take i))
      have HT := Aside0.mk (List.length_take_le' i M)
      by_cases hx : x.f3 ≤ now
      · have c1 : decide (x.f3 ≤ now) = true := decide_eq_true hx
        have HN1 := Aside0.mk (filter_snoc q M i x HG.out (by rw [HQ.out]; exact c1))
        clear hx
        go_wp2_with ((with_reducible refine gate_builtin (b := .append) (xs := #[.tmp 26, .tmp 34]) rfl ?_); at_builtin; refine Kd.R_append k46 (w0 := w) w.heap.size rfl (.tmp 26) (.tmp 34) 41 46 (.agg #[.int .i64 0, .int .u32 0, .int .i64 0, .int .u32 0, .int .i64 0, .int .i64 0, .int .i64 0, .int .i64 0]) 64 rfl Try.underlying41 info46 rfl (by decide) (by decide) _ ((M.take i).filter q) x (encF x) (fun _ => True) (fun _ => False) rfl rfl (k46_mkM _ _ _ _) (fun _ hk => hk.elim) (fun _ _ => trivial) RR.out hbr.out hbr.out.size (by have := HML.out; have := HK1.out; have := HT.out; omega) ?_; intro v9 w9 hr9 hb9 hg9 hat9; rw [← HN1.out] at hr9; have R9 := Aside0.mk hr9; have B9 := Aside0.mk hb9; clear hr9 hb9 hg9 hat9)
        go_roundg (M.length - (i + 1))
        case measure => have := hr.out; omega
        case rel => exact ⟨i + 1, by first | rfl | (have := HML.out; rw [show wrap64 ((i : Int) + 1) = ((i + 1 : Nat) : Int) from by unfold wrap64; omega]), R9, ⟨by omega⟩, B9⟩
      · have c1 : decide (x.f3 ≤ now) = false := decide_eq_false hx
        have HN1 := Aside0.mk (filter_same q M i x HG.out (by rw [HQ.out]; exact c1))
        clear hx
        go_wp2_with fail
        go_roundg (M.length - (i + 1))
        case measure => have := hr.out; omega
        case rel => exact ⟨i + 1, by first | rfl | (have := HML.out; rw [show wrap64 ((i : Int) + 1) = ((i + 1 : Nat) : Int) from by unfold wrap64; omega]), ⟨by rw [HN1.out]; exact RR.out⟩, ⟨by omega⟩, hbr⟩
    · have hi1 : decide ((i : Int) < (M.length : Int)) = false := decide_eq_false (by omega)
      have hil : i = M.length := by have := hr.out; omega
      have hR := RR.out
      rw [filter_all q M i hil] at hR
      have HR := Aside0.mk hR
      clear hil hR RR
      go_wp2_with fail
      go_ret
      exact ⟨_, rfl, HR.out, hbr.out⟩
end Go.Proofs.Ytkpaibkkigfahaa.Fl
