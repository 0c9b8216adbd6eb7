/- The statement TraceApartly: its walk. -/
import Derived.Test.YtinjbfgjfmfibaaTr6
namespace Go.Proofs.Ytinjbfgjfmfibaa.Tr
open Go.RowKit Go.Proofs.YtinjbfgjfmfibaaW.PrintWords Go.Proofs.YtinjbfgjfmfibaaW.PrintLast Go.Proofs.YtinjbfgjfmfibaaW.PrintMore Go.Proofs.Ytinjbfgjfmfibaa.Bs Go.Proofs.Ytinjbfgjfmfibaa.Mp
open Go.Proofs.Ytinjbfgjfmfibaa.PTraceSpans
set_option linter.unusedVariables false
set_option linter.unusedSimpArgs false

section
variable (st who : List Int)
def stA (i : Nat) : Int := st.getD i 0
def subA (i : Nat) : Int := if i < who.length then who.getD i 0 else (i : Int)
def timeA : Nat → Int
  | 0 => 0
  | i + 1 => timeA i + 1 + stA st i + stA st i % 8
def begA (i : Nat) : Int := timeA st i + 1 + stA st i
def entA : Nat → List S32
  | 0 => []
  | i + 1 => entA i ++ [⟨2, begA st i, subA who i, 1, 2⟩] ++ [⟨3, timeA st (i + 1), 0, 1, 2⟩]
def spnA : Nat → List S61
  | 0 => []
  | i + 1 => spnA i ++ [⟨subA who i, 1, 2, begA st i, timeA st (i + 1), false⟩]
end
variable {st who : List Int}
theorem spnA_succ (i : Nat) : spnA st who (i + 1) = spnA st who i ++ [⟨subA who i, 1, 2, begA st i, timeA st (i + 1), false⟩] := rfl
theorem spnA_len (i : Nat) : (spnA st who i).length = i := by
  induction i with
  | zero => rfl
  | succ i ih => simp [spnA, ih]
theorem entA_len (i : Nat) : (entA st who i).length = 2 * i := by
  induction i with
  | zero => rfl
  | succ i ih => simp [entA, ih]; omega
theorem stA_range (hw : ∀ x ∈ st, 0 ≤ x ∧ x ≤ 255) (i : Nat) : 0 ≤ stA st i ∧ stA st i ≤ 255 := by
  unfold stA
  rw [List.getD_eq_getElem?_getD]
  cases h : st[i]? with
  | none => simp
  | some x => exact hw x (List.mem_of_getElem? h)
theorem timeA_range (hw : ∀ x ∈ st, 0 ≤ x ∧ x ≤ 255) (i : Nat) : 0 ≤ timeA st i ∧ timeA st i ≤ 263 * i := by
  induction i with
  | zero => simp [timeA]
  | succ i ih =>
    have := stA_range hw i
    unfold timeA
    omega
theorem spnA_open (hw : ∀ x ∈ st, 0 ≤ x ∧ x ≤ 255) (i : Nat) : ∀ s ∈ spnA st who i, s.f5 = false ∧ s.f4 ≤ timeA st i ∧ s.f1 = 1 ∧ s.f2 = 2 := by
  induction i with
  | zero => intro s hs; simp [spnA] at hs
  | succ i ih =>
    intro s hs
    rcases List.mem_append.1 hs with hs | hs
    · have h1 := ih s hs
      have := stA_range hw i
      have h2 : timeA st (i + 1) = timeA st i + 1 + stA st i + stA st i % 8 := rfl
      exact ⟨h1.1, by omega, h1.2.2⟩
    · simp at hs; subst hs; exact ⟨rfl, Int.le_refl _, rfl, rfl⟩
theorem spans_snoc (l : List S32) (e : S32) : spans (l ++ [e]) = stepE (spans l) e := by simp [spans, List.foldl_append]
theorem spans_entA (hw : ∀ x ∈ st, 0 ≤ x ∧ x ≤ 255) (i : Nat) : spans (entA st who i) = spnA st who i := by
  induction i with
  | zero => rfl
  | succ i ih =>
    unfold entA
    rw [spans_snoc, spans_snoc, ih]
    have hno : ∀ k (j : Nat) s, (spnA st who i)[j]? = some s → hits k s = false := fun k j s hs => by
      have := (spnA_open hw i s (List.mem_of_getElem? hs)).1
      simp [hits, this]
    have h1 : stepE (spnA st who i) ⟨2, begA st i, subA who i, 1, 2⟩ = spnA st who i ++ [⟨subA who i, 1, 2, begA st i, 0, true⟩] := by
      unfold stepE shutK
      rw [if_pos rfl, openIx_none (hno _)]
      rfl
    rw [h1]
    unfold stepE shutK
    rw [if_neg (show ¬ (3 : Int) = 2 by decide), if_pos rfl]
    have hx : openIx (spnA st who i ++ [⟨subA who i, 1, 2, begA st i, 0, true⟩]) (keyE ⟨3, timeA st (i + 1), 0, 1, 2⟩) = some i := by
      refine openIx_some (by simp [spnA_len]) fun j s hs => ?_
      rw [List.getElem?_append] at hs
      split at hs
      · rename_i hlt
        rw [spnA_len] at hlt
        rw [hno _ j s hs]; simp; omega
      · rename_i hge
        rw [spnA_len] at hge hs
        have hj : j = i := by
          have := (List.getElem?_eq_some_iff.1 hs).1
          simp at this; omega
        subst hj
        simp at hs
        subst hs
        simp [hits, keyE]
    rw [hx]
    simp only [shutAt]
    have hr : rd_T61 (spnA st who i ++ [⟨subA who i, 1, 2, begA st i, 0, true⟩]) (i : Int) = ⟨subA who i, 1, 2, begA st i, 0, true⟩ := by
      unfold rd_T61
      rw [Int.toNat_natCast, List.getD_eq_getElem?_getD, List.getElem?_append_right (by rw [spnA_len]; omega), spnA_len]; simp
    rw [hr, Int.toNat_natCast, List.set_append_right _ _ (by rw [spnA_len]; omega), spnA_len]
    simp only [Nat.sub_self, List.set_cons_zero]
    rw [spnA_succ]
    have := stA_range hw i
    have h2 : timeA st (i + 1) = timeA st i + 1 + stA st i + stA st i % 8 := rfl
    have h3 : begA st i = timeA st i + 1 + stA st i := rfl
    have h4 : mx (timeA st (i + 1)) (begA st i) = timeA st (i + 1) := by unfold mx; rw [if_neg (by omega)]
    rw [h4]
theorem spnA_take (n i : Nat) (hi : i ≤ n) : (spnA st who n).take i = spnA st who i := by
  induction n with
  | zero => have : i = 0 := by omega
            subst this; rfl
  | succ n ih =>
    by_cases h : i ≤ n
    · rw [spnA_succ, List.take_append_of_le_length (by rw [spnA_len]; exact h), ih h]
    · have : i = n + 1 := by omega
      subst this
      exact List.take_of_length_le (by rw [spnA_len]; omega)
theorem spnA_rd (n i : Nat) (hi : i < n) : rd_T61 (spnA st who n) (i : Int) = ⟨subA who i, 1, 2, begA st i, timeA st (i + 1), false⟩ := by
  have h1 : (spnA st who n)[i]? = (spnA st who (i + 1))[i]? := by
    rw [← spnA_take (st := st) (who := who) n (i + 1) (by omega), List.getElem?_take_of_lt (by omega)]
  unfold rd_T61
  rw [Int.toNat_natCast, List.getD_eq_getElem?_getD, h1]
  rw [spnA_succ, List.getElem?_append_right (by rw [spnA_len]; omega), spnA_len]; simp
theorem apart_spnA (hw : ∀ x ∈ st, 0 ≤ x ∧ x ≤ 255) (n : Nat) : apartB (spnA st who n) = true := by
  refine apart_true fun i hi o ho => ?_
  rw [spnA_len] at hi
  rw [spnA_rd n i hi]
  have ho2 : o ∈ spnA st who i := by
    have := (List.mem_filter.1 ho).1
    rwa [spnA_take n i (by omega)] at this
  have h1 := spnA_open hw i o ho2
  have := stA_range hw i
  have h3 : begA st i = timeA st i + 1 + stA st i := rfl
  unfold clash mt
  rw [h1.1]
  simp only [Bool.false_or]
  rw [decide_eq_false (p := begA st i ≤ o.f4) (by omega)]
  simp
end Go.Proofs.Ytinjbfgjfmfibaa.Tr
