/- trace.Spans and the document's: the same list. -/
import Derived.Test.YtinjbfgjfmfibaaTr3
import Derived.Test.YtinjbfgjfmfibaaPTraceSpansx3
namespace Go.Proofs.Ytinjbfgjfmfibaa.Tr
open Go.RowKit Go.Proofs.YtinjbfgjfmfibaaW.PrintWords Go.Proofs.YtinjbfgjfmfibaaW.PrintLast Go.Proofs.YtinjbfgjfmfibaaW.PrintMore Go.Proofs.Ytinjbfgjfmfibaa.Bs Go.Proofs.Ytinjbfgjfmfibaa.Mp
open Go.Proofs.Ytinjbfgjfmfibaa.PTraceSpans
set_option linter.unusedVariables false
set_option linter.unusedSimpArgs false

def ixOf (o : Option Nat) : Int := match o with | some i => (i : Int) | none => -1
theorem wrap_succ (i : Nat) (h : i ≤ 2000000) : wrap64 ((i : Int) + 1) = ((i + 1 : Nat) : Int) := by unfold wrap64; omega
theorem open_l0 (out : List S61) (a n : Int) (hl : out.length ≤ 1000000) : ∀ (m j k : Nat), j + m = out.length → m + 1 ≤ k →
    bailiwickref10_open.l0 k out a n (j : Int) = some (match (out.drop j).findIdx? (hits (a, n)) with | some d => ((j + d : Nat) : Int) | none => -1) := by
  intro m
  induction m with
  | zero =>
    intro j k hj hk
    obtain ⟨k, rfl⟩ : ∃ k', k = k' + 1 := ⟨k - 1, by omega⟩
    unfold bailiwickref10_open.l0
    rw [if_neg (by omega), List.drop_of_length_le (by omega)]
    rfl
  | succ m ih =>
    intro j k hj hk
    obtain ⟨k, rfl⟩ : ∃ k', k = k' + 1 := ⟨k - 1, by omega⟩
    unfold bailiwickref10_open.l0
    have hjl : j < out.length := by omega
    rw [if_pos (by omega), if_pos (by omega), List.drop_eq_getElem_cons hjl, List.findIdx?_cons]
    have hr : rd_T61 out (j : Int) = out[j] := by have := rd_some hjl; rw [List.getElem?_eq_getElem hjl] at this; exact (Option.some.inj this).symm
    rw [hr, wrap_succ j (by omega)]
    have hih := ih (j + 1) k (by omega) (by omega)
    rw [hih]
    have hh : hits (a, n) out[j] = (out[j].f5 && (out[j].f1 == a && out[j].f2 == n)) := rfl
    rw [hh]
    have hfin : (match Option.map (fun i => i + 1) ((out.drop (j + 1)).findIdx? (hits (a, n))) with | some d => ((j + d : Nat) : Int) | none => -1) = (match (out.drop (j + 1)).findIdx? (hits (a, n)) with | some d => ((j + 1 + d : Nat) : Int) | none => -1) := by
      cases (out.drop (j + 1)).findIdx? (hits (a, n)) with
      | none => rfl
      | some d => simp only [Option.map_some]; congr 1; omega
    by_cases h1 : out[j].f5 = true
    · rw [if_pos h1]
      by_cases h2 : out[j].f1 = a
      · rw [if_pos h2]
        by_cases h3 : out[j].f2 = n
        · rw [if_pos h3]; simp [h1, h2, h3]
        · rw [if_neg h3, h1, h2, beq_eq_false_iff_ne.mpr h3]; simp only [Bool.and_false, Bool.false_eq_true, if_false]; rw [hfin]
      · rw [if_neg h2, h1, beq_eq_false_iff_ne.mpr h2]; simp only [Bool.false_and, Bool.and_false, Bool.false_eq_true, if_false]; rw [hfin]
    · rw [if_neg h1, eq_false_of_ne_true h1]; simp only [Bool.false_and, Bool.false_eq_true, if_false]; rw [hfin]
theorem open_f (out : List S61) (a n : Int) (hl : out.length ≤ 1000000) (k : Nat) (hk : out.length + 1 ≤ k) : bailiwickref10_open.f k out a n = some (ixOf (openIx out (a, n))) := by
  unfold bailiwickref10_open.f
  have := open_l0 out a n hl out.length 0 k (by omega) hk
  simp only [List.drop_zero, Nat.zero_add] at this
  exact this
theorem openIx_lt {out : List S61} {k : Int × Int} {x : Nat} (h : openIx out k = some x) : x < out.length := by
  unfold openIx at h
  rw [List.findIdx?_eq_some_iff_getElem] at h
  exact h.1
theorem set_shut {out : List S61} {x : Nat} (hx : x < out.length) (t : Int) (y : List S61) (hy : y = out.set (x : Int).toNat (⟨(rd_T61 out x).f0, (rd_T61 out x).f1, (rd_T61 out x).f2, (rd_T61 out x).f3, mx t (rd_T61 out x).f3, (rd_T61 out x).f5⟩ : S61)) :
    y.set (x : Int).toNat (⟨(rd_T61 y x).f0, (rd_T61 y x).f1, (rd_T61 y x).f2, (rd_T61 y x).f3, (rd_T61 y x).f4, false⟩ : S61) = shutAt out x t := by
  have hr : rd_T61 y (x : Int) = (⟨(rd_T61 out x).f0, (rd_T61 out x).f1, (rd_T61 out x).f2, (rd_T61 out x).f3, mx t (rd_T61 out x).f3, (rd_T61 out x).f5⟩ : S61) := by
    rw [hy]
    unfold rd_T61
    rw [Int.toNat_natCast, List.getD_eq_getElem?_getD, List.getElem?_set_self hx]; rfl
  rw [hr, hy, List.set_set]
  rfl
theorem shutAt_len (out : List S61) (x : Int) (t : Int) : (shutAt out x t).length = out.length := by simp [shutAt]
theorem spans_l0 (l : List S32) (hl : l.length ≤ 1000000) (ht : ∀ e ∈ l, -9223372036854775808 < e.f1) : ∀ (m i k : Nat) (out : List S61), i + m = l.length → out.length ≤ i → 3 * m + l.length + 2 ≤ k →
    bailiwickref10_Spans.l0 k l out (i : Int) = some ((l.drop i).foldl stepE out) := by
  intro m
  induction m with
  | zero =>
    intro i k out hi ho hk
    obtain ⟨k, rfl⟩ : ∃ k', k = k' + 1 := ⟨k - 1, by omega⟩
    unfold bailiwickref10_Spans.l0
    rw [if_neg (by omega), List.drop_of_length_le (by omega)]
    rfl
  | succ m ih =>
    intro i k out hi ho hk
    obtain ⟨k, rfl⟩ : ∃ k', k = k' + 3 := ⟨k - 3, by omega⟩
    have hil : i < l.length := by omega
    have hmem : rd_T32 l (i : Int) ∈ l := by unfold rd_T32; rw [Int.toNat_natCast, List.getD_eq_getElem?_getD, List.getElem?_eq_getElem hil]; exact List.getElem_mem hil
    have hdrop : l.drop i = rd_T32 l (i : Int) :: l.drop (i + 1) := by
      rw [List.drop_eq_getElem_cons hil]
      congr 1
      unfold rd_T32
      rw [Int.toNat_natCast, List.getD_eq_getElem?_getD, List.getElem?_eq_getElem hil]; rfl
    rw [hdrop, List.foldl_cons]
    have hte := ht _ hmem
    unfold bailiwickref10_Spans.l0
    rw [if_pos (by omega), if_pos (by omega)]
    generalize rd_T32 l (i : Int) = e at *
    have hgo : ∀ (out2 : List S61) (k2 : Nat), k ≤ k2 → out2 = stepE out e → bailiwickref10_Spans.l0 k2 l out2 (wrap64 ((i : Int) + 1)) = some ((l.drop (i + 1)).foldl stepE (stepE out e)) := by
      intro out2 k2 hk2 ho2
      rw [wrap_succ i (by omega), ho2]
      exact ih (i + 1) k2 _ (by omega) (by have := stepE_len out e; omega) (by omega)
    have hj1 : ∀ x25, bailiwickref10_Spans.j1 (k + 2) l out i x25 e.f0 e.f1 e.f2 e.f3 e.f4 = some ((l.drop (i + 1)).foldl stepE (stepE out e)) ∨ ((x25 = true) ≠ (e.f0 ≠ 2 ∧ e.f0 ≠ 3)) := by
      intro x25
      unfold bailiwickref10_Spans.j1
      by_cases hx : x25 = true
      · rw [if_pos hx]
        by_cases hk : e.f0 ≠ 2 ∧ e.f0 ≠ 3
        · left
          exact hgo out (k + 1) (by omega) (by unfold stepE; rw [if_neg hk.1, if_neg hk.2])
        · right
          simp [hx, hk]
      · rw [if_neg hx, open_f out e.f3 e.f4 (by omega) (k + 1) (by omega)]
        simp only [Option.bind_some]
        by_cases hk : e.f0 ≠ 2 ∧ e.f0 ≠ 3
        · right; simp [hx, hk.1, hk.2]
        · left
          have h23 : e.f0 = 2 ∨ e.f0 = 3 := by omega
          cases hix : openIx out (e.f3, e.f4) with
          | none =>
            have hs : ∀ t, shutK out (keyE e) t = out := by intro t; unfold shutK keyE; rw [hix]
            rw [if_neg (by unfold ixOf; simp)]
            by_cases h2 : e.f0 = 2
            · rw [if_pos h2, if_pos (by omega)]
              exact hgo _ (k + 1) (by omega) (by unfold stepE; rw [if_pos h2, hs]; rfl)
            · rw [if_neg h2]
              exact hgo _ (k + 1) (by omega) (by unfold stepE; rw [if_neg h2, if_pos (by omega), hs])
          | some x =>
            have hxl := openIx_lt hix
            have hs : ∀ t, shutK out (keyE e) t = shutAt out x t := by intro t; unfold shutK keyE; rw [hix]
            rw [show ixOf (some x) = (x : Int) from rfl]
            rw [if_pos (by omega)]
            by_cases h2 : e.f0 = 2
            · rw [if_pos h2, decide_eq_true (by omega)]
              unfold bailiwickref10_Spans.j2
              rw [if_pos rfl, if_pos (by omega), if_pos (by omega)]
              simp only [Option.bind_some]
              rw [if_pos h2]
              have hy := set_shut hxl (wrap64 (e.f1 - 1)) _ rfl
              rw [hy, if_pos (by rw [shutAt_len]; omega)]
              exact hgo _ k (by omega) (by unfold stepE; rw [if_pos h2, hs]; rfl)
            · rw [if_neg h2]
              unfold bailiwickref10_Spans.j2
              rw [if_neg (by simp), if_pos (by omega), if_pos (by omega)]
              simp only [Option.bind_some]
              rw [if_neg h2]
              have hy := set_shut hxl e.f1 _ rfl
              rw [hy]
              exact hgo _ k (by omega) (by unfold stepE; rw [if_neg h2, if_pos (by omega), hs])
    by_cases h2 : e.f0 = 2
    · rw [if_pos h2]
      rcases hj1 false with h | h
      · exact h
      · exact absurd (by simp [h2]) h
    · rw [if_neg h2]
      rcases hj1 (e.f0 != 3) with h | h
      · exact h
      · exact absurd (by simp [h2]) h
theorem spans_f (l : List S32) (hl : l.length ≤ 1000000) (ht : ∀ e ∈ l, -9223372036854775808 < e.f1) : bailiwickref10_Spans.f (4 * l.length + 2) l = some (spans l) := by
  unfold bailiwickref10_Spans.f
  have := spans_l0 l hl ht l.length 0 (4 * l.length + 2) [] (by omega) (by simp) (by omega)
  simpa [spans] using this
end Go.Proofs.Ytinjbfgjfmfibaa.Tr
