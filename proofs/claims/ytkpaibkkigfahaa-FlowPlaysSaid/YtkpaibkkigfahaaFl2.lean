/- Sessions in order: the order is total; slices.SortFunc over them. -/
import Derived.Test.YtkpaibkkigfahaaFl1
import Derived.Test.YtkpaibkkigfahaaSrt
namespace Go.Proofs.Ytkpaibkkigfahaa.Fl
open Go.RowKit Go.Proofs.YtkpaibkkigfahaaW.PrintWords Go.Proofs.YtkpaibkkigfahaaW.PrintLast Go.Proofs.YtkpaibkkigfahaaW.PrintMore Go.Proofs.Ytkpaibkkigfahaa.Bs Go.Proofs.Ytkpaibkkigfahaa.Fr Go.Proofs.Ytkpaibkkigfahaa.Mp Go.Proofs.Ytkpaibkkigfahaa.Srt
open Go.Proofs.Ytkpaibkkigfahaa.PFlowPlays Go.Proofs.Ytkpaibkkigfahaa.FlP
set_option linter.unusedVariables false
set_option linter.unusedSimpArgs false

/-- A comparison that orders. -/
structure Good {α : Type} (c : α → α → Int) : Prop where
  r : ∀ x, c x x = 0
  a : ∀ x y, c x y = - c y x
  t : ∀ x y z, c x y ≤ 0 → c y z ≤ 0 → c x z ≤ 0
theorem Good.e {α : Type} {c : α → α → Int} (h : Good c) (x y z : α) (h1 : c x y ≤ 0) (h2 : c y z ≤ 0) (h3 : c x z = 0) : c x y = 0 ∧ c y z = 0 := by
  have a1 := h.a x z
  have a2 := h.a y z
  have a3 := h.a x y
  have t1 := h.t z x y (by omega) h1
  have t2 := h.t y z x h2 (by omega)
  omega
theorem cmpI_le (a b : Int) : cmpI a b ≤ 0 ↔ a ≤ b := by unfold cmpI; split <;> (try split) <;> omega
theorem good_cmp {α : Type} (f : α → Int) : Good (fun x y => cmpI (f x) (f y)) where
  r x := by unfold cmpI; simp
  a x y := by unfold cmpI; split <;> split <;> omega
  t x y z p q := by rw [cmpI_le] at *; omega
theorem good_lex {α : Type} {c1 c2 : α → α → Int} (h1 : Good c1) (h2 : Good c2) : Good (fun x y => orI (c1 x y) (c2 x y)) where
  r x := by simp only [orI, h1.r, h2.r]; rfl
  a x y := by
    have := h1.a x y
    have := h2.a x y
    unfold orI; split <;> split <;> omega
  t x y z p q := by
    have a1 := h1.a x y
    have a2 := h1.a y z
    have a3 := h1.a x z
    have t1 := h1.t x y z
    have e1 := h1.e x y z
    have t2 := h2.t x y z
    unfold orI at *
    split at p <;> split at q <;> split <;> omega
theorem good_ag : Good agK := by
  have h := good_lex (good_cmp (fun x : Key => x.1)) (good_lex (good_cmp (fun x : Key => x.2.1)) (good_lex (good_cmp (fun x : Key => x.2.2.1)) (good_lex (good_cmp (fun x : Key => x.2.2.2.1)) (good_cmp (fun x : Key => x.2.2.2.2)))))
  exact h
theorem cmpI_zero {a b : Int} (h : cmpI a b = 0) : a = b := by unfold cmpI at h; split at h <;> (try split at h) <;> omega
theorem ag_zero {x y : Key} (h : agK x y = 0) : x = y := by
  unfold agK orI at h
  split at h <;> rename_i h0
  · split at h <;> rename_i h1
    · split at h <;> rename_i h2
      · split at h <;> rename_i h3
        · exact Prod.ext (cmpI_zero h0) (Prod.ext (cmpI_zero h1) (Prod.ext (cmpI_zero h2) (Prod.ext (cmpI_zero h3) (cmpI_zero h))))
        · exact absurd h h3
      · exact absurd h h2
    · exact absurd h h1
  · exact absurd h h0
theorem Good.on {α β : Type} {c : β → β → Int} (h : Good c) (f : α → β) : Good (fun x y => c (f x) (f y)) := ⟨fun x => h.r _, fun x y => h.a _ _, fun x y z => h.t _ _ _⟩
def agF (x y : S46) : Int := agK (keyF x) (keyF y)
theorem good_agF : Good agF := good_ag.on keyF
theorem swo_ag : Sort.SWO (ltOf agF) where
  irrefl x := by unfold ltOf; rw [good_agF.r]; rfl
  trans x y z h1 h2 := by
    unfold ltOf at *
    simp only [decide_eq_true_eq] at *
    have := good_agF.t x y z (by omega) (by omega)
    have := good_agF.e x y z (by omega) (by omega)
    omega
  ntrans x y z h1 h2 := by
    unfold ltOf at *
    simp only [decide_eq_false_iff_not] at *
    have := good_agF.a x y
    have := good_agF.a y z
    have := good_agF.a x z
    have := good_agF.t z y x (by omega) (by omega)
    omega
/-- Two lists in order that have the same sessions are one. -/
theorem srt_unique : ∀ {l m : List S46}, l.Perm m → Srt l → Srt m → l = m := by
  intro l
  induction l with
  | nil => intro m h _ _; exact (List.Perm.nil_eq h)
  | cons x r ih =>
    intro m h hl hm
    cases m with
    | nil => exact absurd h.length_eq (by simp)
    | cons y s =>
      have hl' := List.pairwise_cons.1 hl
      have hm' := List.pairwise_cons.1 hm
      have hxy : x = y := by
        have h1 : x ∈ y :: s := h.subset List.mem_cons_self
        have h2 : y ∈ x :: r := h.symm.subset List.mem_cons_self
        rcases List.mem_cons.1 h1 with h1 | h1
        · exact h1
        · rcases List.mem_cons.1 h2 with h2 | h2
          · exact h2.symm
          · have a1 := hm'.1 x h1
            have a2 := hl'.1 y h2
            have := good_ag.a (keyF x) (keyF y)
            omega
      subst hxy
      rw [ih (List.Perm.cons_inv h) hl'.2 hm'.2]
theorem srt_filter {l : List S46} (h : Srt l) (p : S46 → Bool) : Srt (l.filter p) := List.Pairwise.filter p h
theorem pod46 : IsPod k46 encF where
  len x := rfl
  one x v hv := by
    unfold encF at hv
    simp only [List.mem_cons, List.not_mem_nil, or_false] at hv
    rcases hv with rfl | rfl | rfl | rfl | rfl | rfl | rfl | rfl <;> rfl
  pos := by decide
  K h := k46_open h
  M := k46_mkM _ _ _ _
instance : Inhabited S46 := ⟨z46⟩
theorem isAgg113 : ∀ w, (isAgg 113).run Try.prog w = .ok true w := fun w => by kernel_rfl
theorem sizeOf113 : ∀ w, (Go.sizeOf 113).run Try.prog w = .ok 8 w := fun w => by kernel_rfl
theorem cmpLays (blk off size : Nat) (w : World) : CmpLays Try.prog 84 #[] encF 8 agF blk off size w := fun _ _ _ _ x y => against_calls x y _
set_option maxHeartbeats 1000000 in
set_option maxRecDepth 100000 in
/-- A row of sessions with keys of their own is sorted. -/
theorem sort_calls (w : World) (base : Nat) (v : Value) (xs : List S46) (h : k46.R 113 w base (fun _ => True) v xs) (hn : 0 < xs.length) (hb : xs.length ≤ 1000000) (hk : (xs.map keyF).Nodup) :
    Calls Try.prog 83 #[v, .func (.func 84) #[] #[]] w fun e w' => e = .returned (.tuple #[]) ∧ ∃ ys, ys.Perm xs ∧ Srt ys ∧ k46.R 113 w' base (fun _ => True) v ys ∧ Fr w w' (own v) := by
  obtain ⟨g, cap, cur, rfl, h2, h3, h4, h5, h6, h7⟩ := pod_cells pod46 h hn
  have hH := pod_holds pod46 h3 h4 h6 h7
  have hcon := AnyQ.slices_SortFunc Try.sortRow 8 isAgg113 sizeOf113 encF (fun _ => rfl) pod46.one agF swo_ag 84 #[] g 0 cap xs.toArray w (enters_of Try.func84 (by kernel_rfl) rfl) (cmpLays g 0 _ w) hH (blk_lt h3) (by simp; omega)
  rw [List.size_toArray] at hcon
  change Calls Try.prog 83 _ _ _ at hcon
  refine hcon.mono ?_
  rintro e w' ⟨rfl, d', n, os, hp, hs, hw⟩
  have hsz : d'.size = xs.length := by rw [hp.1]; simp
  have hperm : d'.toList.Perm xs := by
    have := hp.2.2
    rw [Array.extract_eq_self_of_le (by omega)] at this
    simpa using this
  have hkd : (d'.toList.map keyF).Nodup := (hperm.map keyF).nodup_iff.2 hk
  refine ⟨rfl, d'.toList, hperm, ?_, ?_⟩
  · refine List.pairwise_iff_getElem.2 fun i j hi hj hij => ?_
    have h1 := hs i j (Nat.zero_le _) hij (by simpa [hsz] using hj)
    rw [getElem!_pos d' j (by simpa using hj), getElem!_pos d' i (by simpa using hi)] at h1
    simp only [ltOf, decide_eq_false_iff_not] at h1
    have h2 := good_ag.a (keyF d'.toList[i]) (keyF d'.toList[j])
    have h3 : agK (keyF d'.toList[i]) (keyF d'.toList[j]) ≠ 0 := fun h0 => by
      have h4 := ag_zero h0
      have h5 := (List.getElem?_inj (l := d'.toList.map keyF) (i := i) (j := j) (by simpa using hi) hkd).1 (by rw [List.getElem?_map, List.getElem?_map, List.getElem?_eq_getElem hi, List.getElem?_eq_getElem hj, Option.map_some, Option.map_some, h4])
      omega
    simp only [agF, Array.getElem_toList] at h1 h2 h3 ⊢
    omega
  · have h8 := pod_sorted pod46 h2 h3 h4 h5 h6 hsz hw
    have h9 : d'.toList.length = xs.length := by simpa using hsz
    rw [h9] at h8
    exact ⟨h8.1, h8.2.mono (fun k hk => by rw [hk]; rfl)⟩
end Go.Proofs.Ytkpaibkkigfahaa.Fl
