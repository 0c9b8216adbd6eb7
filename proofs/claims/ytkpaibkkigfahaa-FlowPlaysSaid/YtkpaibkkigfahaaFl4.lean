/- Sessions in order: one put in, taken out, looked for; what may be. -/
import Derived.Test.YtkpaibkkigfahaaFl3
namespace Go.Proofs.Ytkpaibkkigfahaa.Fl
open Go.RowKit Go.Proofs.YtkpaibkkigfahaaW.PrintWords Go.Proofs.YtkpaibkkigfahaaW.PrintLast Go.Proofs.YtkpaibkkigfahaaW.PrintMore Go.Proofs.Ytkpaibkkigfahaa.Bs Go.Proofs.Ytkpaibkkigfahaa.Fr Go.Proofs.Ytkpaibkkigfahaa.Mp Go.Proofs.Ytkpaibkkigfahaa.Srt
open Go.Proofs.Ytkpaibkkigfahaa.PFlowPlays Go.Proofs.Ytkpaibkkigfahaa.FlP
set_option linter.unusedVariables false
set_option linter.unusedSimpArgs false

abbrev okf (f : S46) : Prop := (f.f0 = 1 ∨ f.f0 = 6 ∨ f.f0 = 17) ∧ (0 ≤ f.f1.f1 ∧ f.f1.f1 ≤ 65535) ∧ (0 ≤ f.f2.f1 ∧ f.f2.f1 ≤ 65535) ∧ (0 ≤ f.f3 ∧ f.f3 ≤ 1099511627776) ∧ (0 ≤ f.f4 ∧ f.f4 ≤ 8)
def chk (f : S46) : Int := if okf f then 0 else 1
theorem port_f (x : Int) : flow_port.f x = some (decide (0 ≤ x ∧ x ≤ 65535)) := by
  unfold flow_port.f
  by_cases h : 0 ≤ x
  · rw [if_pos h]; simp [h]
  · rw [if_neg h]; simp [h]
theorem port_f' (x : Int) : bailiwickref18_Port.f x = some (decide (0 ≤ x ∧ x ≤ 65535)) := by
  unfold bailiwickref18_Port.f
  by_cases h : 0 ≤ x
  · rw [if_pos h]; simp [h]
  · rw [if_neg h]; simp [h]
theorem good_f (x : Int) : bailiwickref12_Good.f x = some (decide (0 ≤ x ∧ x ≤ 1099511627776)) := by
  unfold bailiwickref12_Good.f
  by_cases h : 0 ≤ x
  · rw [if_pos h]; simp [h]
  · rw [if_neg h]; simp [h]
theorem proto_f (x : Int) : bailiwickref18_Proto.f x = some (decide (x = 1 ∨ x = 6 ∨ x = 17)) := by
  unfold bailiwickref18_Proto.f
  by_cases h : x = 1
  · rw [if_pos h]; simp [h]
  · rw [if_neg h]
    by_cases h2 : x = 6
    · rw [if_pos h2]; simp [h2]
    · rw [if_neg h2]
      by_cases h3 : x = 17
      · subst h3; rfl
      · have : (x == 17) = false := beq_eq_false_iff_ne.mpr h3
        rw [this]; simp [h, h2, h3]
theorem j0_f (k : Nat) (b : Bool) (f : S46) : flow_Check.j0 (k + 1) b f.f0 f.f1.f0 f.f1.f1 f.f2.f0 f.f2.f1 f.f3 f.f4 f.f5 = some (if b = true ∧ (0 ≤ f.f1.f1 ∧ f.f1.f1 ≤ 65535) ∧ (0 ≤ f.f2.f1 ∧ f.f2.f1 ≤ 65535) ∧ (0 ≤ f.f3 ∧ f.f3 ≤ 1099511627776) ∧ (0 ≤ f.f4 ∧ f.f4 ≤ 8) then 0 else 1) := by
  simp only [flow_Check.j0]
  rw [port_f, port_f]
  simp only [Option.bind_some, decide_eq_true_eq]
  by_cases hb : b = true
  · rw [if_pos hb]
    by_cases h1 : 0 ≤ f.f1.f1 ∧ f.f1.f1 ≤ 65535
    · rw [if_pos h1]
      by_cases h2 : 0 ≤ f.f2.f1 ∧ f.f2.f1 ≤ 65535
      · rw [if_pos h2]
        by_cases h3 : 0 ≤ f.f3
        · rw [if_pos h3]
          by_cases h4 : f.f3 ≤ 1099511627776
          · rw [if_pos h4]
            by_cases h5 : f.f4 < 0
            · rw [if_pos h5, if_neg (by omega)]
            · rw [if_neg h5]
              by_cases h6 : f.f4 > 8
              · rw [if_pos h6, if_neg (by omega)]
              · rw [if_neg h6, if_pos ⟨hb, h1, h2, ⟨h3, h4⟩, by omega⟩]
          · rw [if_neg h4, if_neg (by omega)]
        · rw [if_neg h3, if_neg (by omega)]
      · rw [if_neg h2, if_neg (by rintro ⟨_, _, h, _⟩; exact h2 h)]
    · rw [if_neg h1, if_neg (by rintro ⟨_, h, _⟩; exact h1 h)]
  · rw [if_neg hb, if_neg (by rintro ⟨h, _⟩; exact hb h)]
theorem check_f (k : Nat) (f : S46) : flow_Check.f (k + 1) f.f0 f.f1.f0 f.f1.f1 f.f2.f0 f.f2.f1 f.f3 f.f4 f.f5 = some (chk f) := by
  unfold flow_Check.f chk okf
  by_cases h1 : f.f0 = 1
  · rw [if_pos h1, j0_f]; simp [h1]
  · rw [if_neg h1]
    by_cases h2 : f.f0 = 6
    · rw [if_pos h2, j0_f]; simp [h2]
    · rw [if_neg h2, j0_f]
      by_cases h3 : f.f0 = 17
      · rw [h3]; simp
      · have : (f.f0 == 17) = false := beq_eq_false_iff_ne.mpr h3
        rw [this]; simp [h1, h2, h3]
theorem checkF_f (f : S46) : bailiwickref18_CheckFlow.f f.f0 f.f1.f0 f.f1.f1 f.f2.f0 f.f2.f1 f.f3 f.f4 f.f5 = some (chk f) := by
  unfold bailiwickref18_CheckFlow.f chk okf
  rw [proto_f, port_f', port_f', good_f]
  simp only [Option.bind_some, decide_eq_true_eq]
  by_cases h0 : f.f0 = 1 ∨ f.f0 = 6 ∨ f.f0 = 17
  · rw [if_pos h0]
    by_cases h1 : 0 ≤ f.f1.f1 ∧ f.f1.f1 ≤ 65535
    · rw [if_pos h1]
      by_cases h2 : 0 ≤ f.f2.f1 ∧ f.f2.f1 ≤ 65535
      · rw [if_pos h2]
        by_cases h3 : 0 ≤ f.f3 ∧ f.f3 ≤ 1099511627776
        · rw [if_pos h3]
          by_cases h5 : f.f4 < 0
          · rw [if_pos h5, if_neg (by omega)]
          · rw [if_neg h5]
            by_cases h6 : f.f4 > 8
            · rw [if_pos h6, if_neg (by omega)]
            · rw [if_neg h6, if_pos ⟨h0, h1, h2, h3, by omega⟩]
        · rw [if_neg h3, if_neg (by rintro ⟨_, _, _, h, _⟩; exact h3 h)]
      · rw [if_neg h2, if_neg (by rintro ⟨_, _, h, _⟩; exact h2 h)]
    · rw [if_neg h1, if_neg (by rintro ⟨_, h, _⟩; exact h1 h)]
  · rw [if_neg h0, if_neg (by rintro ⟨h, _⟩; exact h0 h)]
/-- The session of a key. -/
def getM (M : List S46) (k : Key) : Option S46 := M.find? (fun x => decide (keyF x = k))
def hasM (M : List S46) (k : Key) : Bool := (getM M k).isSome
def delM (M : List S46) (k : Key) : List S46 := M.filter (fun x => decide (keyF x ≠ k))
/-- A session put into its place. -/
def ins (f : S46) : List S46 → List S46
  | [] => [f]
  | x :: r => if agF x f < 0 then x :: ins f r else f :: x :: r
def upM (M : List S46) (f : S46) : List S46 := ins f (delM M (keyF f))
theorem ins_perm (f : S46) : ∀ l, (ins f l).Perm (f :: l)
  | [] => List.Perm.refl _
  | x :: r => by
    unfold ins
    split
    · exact (List.Perm.cons x (ins_perm f r)).trans (List.Perm.swap f x r)
    · exact List.Perm.refl _
theorem ins_srt (f : S46) : ∀ l, Srt l → (∀ x ∈ l, keyF x ≠ keyF f) → Srt (ins f l)
  | [], _, _ => List.pairwise_singleton _ _
  | x :: r, h, hn => by
    have h' := List.pairwise_cons.1 h
    have ha := good_agF.a x f
    have hz : agF x f ≠ 0 := fun h0 => hn x List.mem_cons_self (ag_zero h0)
    unfold ins
    split
    · rename_i hlt
      refine List.pairwise_cons.2 ⟨fun y hy => ?_, ins_srt f r h'.2 (fun y hy => hn y (List.mem_cons_of_mem _ hy))⟩
      rcases List.mem_cons.1 ((ins_perm f r).subset hy) with rfl | hy
      · exact hlt
      · exact h'.1 y hy
    · rename_i hge
      refine List.pairwise_cons.2 ⟨fun y hy => ?_, h⟩
      have h1 : agF f x < 0 := by omega
      rcases List.mem_cons.1 hy with rfl | hy
      · exact h1
      · have h2 : agF x y < 0 := h'.1 y hy
        have h3 := good_agF.t f x y (by omega) (by omega)
        have h4 := good_agF.e f x y (by omega) (by omega)
        show agF f y < 0
        omega
theorem delM_srt {M : List S46} (h : Srt M) (k : Key) : Srt (delM M k) := srt_filter h _
theorem upM_srt {M : List S46} (h : Srt M) (f : S46) : Srt (upM M f) := ins_srt f _ (delM_srt h _) (fun x hx => by have := (List.mem_filter.1 hx).2; simpa using this)
theorem upM_perm (M : List S46) (f : S46) : (upM M f).Perm (f :: delM M (keyF f)) := ins_perm f _
theorem srt_keys {M : List S46} (h : Srt M) : (M.map keyF).Nodup := by
  rw [List.Nodup, List.pairwise_map]
  refine h.imp (fun {x y} hxy he => ?_)
  rw [he, good_ag.r] at hxy
  omega
theorem find_perm {l M : List S46} (h : l.Perm M) (hn : (l.map keyF).Nodup) (k : Key) : l.find? (fun x => decide (keyF x = k)) = M.find? (fun x => decide (keyF x = k)) := by
  have key : ∀ {l : List S46} (hn : (l.map keyF).Nodup) (x : S46), l.find? (fun x => decide (keyF x = k)) = some x ↔ x ∈ l ∧ keyF x = k := by
    intro l hn x
    constructor
    · intro hx
      exact ⟨List.mem_of_find?_eq_some hx, by simpa using List.find?_some hx⟩
    · rintro ⟨hx, hk⟩
      induction l with
      | nil => cases hx
      | cons y r ih =>
        simp only [List.map_cons, List.nodup_cons] at hn
        by_cases hy : keyF y = k
        · rcases List.mem_cons.1 hx with rfl | hx
          · rw [List.find?_cons_of_pos (by simpa using hy)]
          · exact absurd (List.mem_map.2 ⟨x, hx, hk.trans hy.symm⟩) hn.1
        · rw [List.find?_cons_of_neg (by simpa using hy)]
          rcases List.mem_cons.1 hx with rfl | hx
          · exact absurd hk hy
          · exact ih hn.2 hx
  have hm : (M.map keyF).Nodup := (h.map keyF).nodup_iff.1 hn
  cases h1 : l.find? (fun x => decide (keyF x = k)) with
  | none =>
    cases h2 : M.find? (fun x => decide (keyF x = k)) with
    | none => rfl
    | some x =>
      have h3 := (key hm x).1 h2
      have h4 := (key hn x).2 ⟨h.symm.subset h3.1, h3.2⟩
      rw [h1] at h4; cases h4
  | some x =>
    have h3 := (key hn x).1 h1
    exact ((key hm x).2 ⟨h.subset h3.1, h3.2⟩).symm
theorem aget_ents (l : List S46) (k : Key) : aget (ents l) k = (l.find? (fun x => decide (keyF x = k))).map valF := by
  induction l with
  | nil => rfl
  | cons x r ih =>
    unfold aget ents at *
    rw [List.map_cons]
    by_cases h : keyF x = k
    · rw [List.find?_cons_of_pos (by simpa using h), List.find?_cons_of_pos (by simpa using h)]; rfl
    · rw [List.find?_cons_of_neg (by simpa using h), List.find?_cons_of_neg (by simpa using h)]; exact ih
theorem del_none {l : List S46} {k : Key} (h : ∀ x ∈ l, keyF x ≠ k) : delM l k = l := List.filter_eq_self.2 (fun x hx => by simpa using h x hx)
theorem aset_ents (f : S46) : ∀ l : List S46, (l.map keyF).Nodup → ∃ l', aset (ents l) (keyF f) (valF f) = ents l' ∧ l'.Perm (f :: delM l (keyF f))
  | [], _ => ⟨[f], rfl, List.Perm.refl _⟩
  | x :: r, hn => by
    simp only [List.map_cons, List.nodup_cons] at hn
    by_cases h : keyF x = keyF f
    · refine ⟨f :: r, ?_, ?_⟩
      · unfold ents
        rw [List.map_cons, aset, if_pos h]; rfl
      · have h1 : delM (x :: r) (keyF f) = r := by
          unfold delM
          rw [List.filter_cons_of_neg (by simpa using h)]
          exact del_none (fun y hy he => hn.1 (List.mem_map.2 ⟨y, hy, he.trans h.symm⟩))
        rw [h1]
    · obtain ⟨l', h1, h2⟩ := aset_ents f r hn.2
      refine ⟨x :: l', ?_, ?_⟩
      · unfold ents at *
        rw [List.map_cons, aset, if_neg h, h1]; rfl
      · have h3 : delM (x :: r) (keyF f) = x :: delM r (keyF f) := by unfold delM; rw [List.filter_cons_of_pos (by simpa using h)]
        rw [h3]
        exact (List.Perm.cons x h2).trans (List.Perm.swap f x _)
theorem adel_ents (k : Key) : ∀ l : List S46, (l.map keyF).Nodup → adel (ents l) k = ents (delM l k)
  | [], _ => rfl
  | x :: r, hn => by
    simp only [List.map_cons, List.nodup_cons] at hn
    unfold ents
    rw [List.map_cons]
    by_cases h : keyF x = k
    · rw [adel, if_pos h]
      have h1 : delM (x :: r) k = r := by
        unfold delM
        rw [List.filter_cons_of_neg (by simpa using h)]
        exact del_none (fun y hy he => hn.1 (List.mem_map.2 ⟨y, hy, he.trans h.symm⟩))
      rw [h1]
    · rw [adel, if_neg h]
      have h3 : delM (x :: r) k = x :: delM r k := by unfold delM; rw [List.filter_cons_of_pos (by simpa using h)]
      rw [h3, List.map_cons]
      have := adel_ents k r hn.2
      unfold ents at this
      rw [this]
theorem map_keys {w : World} {b : Nat} {l : List S46} (h : MapIs KF w b (ents l)) : (l.map keyF).Nodup := by
  have h2 := h.nodup
  have h3 : (ents l).map (·.1) = l.map keyF := by unfold ents; rw [List.map_map]; rfl
  rwa [h3] at h2
/-- What a look into the map finds. -/
theorem FT.look {w : World} {base g b : Nat} {M : List S46} (h : FT w base g b M) : ∃ L, MapIs KF w b L ∧ (∀ k, aget L k = (getM M k).map valF) ∧
    (∀ (f : S46) (w' : World), MapIs KF w' b (aset L (keyF f) (valF f)) → w'.heap[g]? = w.heap[g]? → FT w' base g b (upM M f)) ∧
    (∀ (k : Key) (w' : World), MapIs KF w' b (adel L k) → w'.heap[g]? = w.heap[g]? → FT w' base g b (delM M k)) := by
  obtain ⟨l, hp, hm⟩ := h.map
  have hn := map_keys hm
  refine ⟨ents l, hm, fun k => ?_, fun f w' h' hg => ?_, fun k w' h' hg => ?_⟩
  · rw [aget_ents, find_perm hp hn k]; rfl
  · obtain ⟨l', e1, e2⟩ := aset_ents f l hn
    rw [e1] at h'
    exact ⟨hg.trans h.blk, ⟨l', e2.trans ((List.Perm.cons f (hp.filter _)).trans (upM_perm M f).symm), h'⟩, upM_srt h.srt f, h.ge, h.geb⟩
  · rw [adel_ents k l hn] at h'
    exact ⟨hg.trans h.blk, ⟨delM l k, hp.filter _, h'⟩, delM_srt h.srt k, h.ge, h.geb⟩
end Go.Proofs.Ytkpaibkkigfahaa.Fl
