/- trace.Spans: the plain list of spans, and what the map holds. -/
import Derived.Test.YtinjbfgjfmfibaaTr1
namespace Go.Proofs.Ytinjbfgjfmfibaa.Tr
open Go.RowKit Go.Proofs.YtinjbfgjfmfibaaW.PrintWords Go.Proofs.YtinjbfgjfmfibaaW.PrintLast Go.Proofs.YtinjbfgjfmfibaaW.PrintMore Go.Proofs.Ytinjbfgjfmfibaa.Bs Go.Proofs.Ytinjbfgjfmfibaa.Mp
open Go.Proofs.Ytinjbfgjfmfibaa.PTraceSpans
set_option linter.unusedVariables false
set_option linter.unusedSimpArgs false

def hits (k : Int × Int) (s : S61) : Bool := s.f5 && (s.f1 == k.1 && s.f2 == k.2)
def openIx (out : List S61) (k : Int × Int) : Option Nat := out.findIdx? (hits k)
def shutK (out : List S61) (k : Int × Int) (t : Int) : List S61 := match openIx out k with
  | some i => shutAt out i t
  | none => out
def keyE (e : S32) : Int × Int := (e.f3, e.f4)
def newS (e : S32) : S61 := ⟨e.f2, e.f3, e.f4, e.f1, 0, true⟩
def stepE (out : List S61) (e : S32) : List S61 :=
  if e.f0 = 2 then shutK out (keyE e) (wrap64 (e.f1 - 1)) ++ [newS e] else if e.f0 = 3 then shutK out (keyE e) e.f1 else out
def spans (l : List S32) : List S61 := l.foldl stepE []
theorem shutK_len (out : List S61) (k : Int × Int) (t : Int) : (shutK out k t).length = out.length := by
  unfold shutK; split <;> simp [shutAt]
theorem stepE_len (out : List S61) (e : S32) : (stepE out e).length ≤ out.length + 1 := by
  unfold stepE
  split
  · simp [shutK_len]
  · split
    · rw [shutK_len]; omega
    · omega
theorem fold_len (l : List S32) : ∀ out : List S61, (l.foldl stepE out).length ≤ out.length + l.length := by
  induction l with
  | nil => intro out; simp
  | cons e r ih => intro out; have := ih (stepE out e); have := stepE_len out e; simp; omega
theorem spans_len (l : List S32) : (spans l).length ≤ l.length := by have := fold_len l []; simpa [spans] using this
theorem spans_take (l : List S32) (i : Nat) (hi : i < l.length) : spans (l.take (i + 1)) = stepE (spans (l.take i)) (rd_T32 l i) := by
  unfold spans
  rw [List.take_add_one, List.foldl_append]
  have h : l[i]? = some l[i] := List.getElem?_eq_getElem hi
  have h2 : rd_T32 l i = l[i] := by unfold rd_T32; rw [Int.toNat_natCast, List.getD_eq_getElem?_getD, h]; rfl
  rw [h, h2]; rfl

/-- What the map says of a block: where its open span is, and one more. -/
def Inv (out : List S61) (L : List ((Int × Int) × Value)) : Prop :=
  ∀ k, ((aget L k).getD (.int .i64 0) = .int .i64 0 ∧ ∀ (j : Nat) s, out[j]? = some s → hits k s = false) ∨
    ∃ x : Nat, (aget L k).getD (.int .i64 0) = .int .i64 ((x : Int) + 1) ∧ x < out.length ∧ ∀ (j : Nat) s, out[j]? = some s → (hits k s = true ↔ j = x)
theorem inv_nil : Inv [] [] := fun k => .inl ⟨rfl, fun j s h => by simp at h⟩
theorem openIx_none {out : List S61} {k : Int × Int} (h : ∀ (j : Nat) s, out[j]? = some s → hits k s = false) : openIx out k = none := by
  unfold openIx
  rw [List.findIdx?_eq_none_iff]
  intro s hs
  obtain ⟨j, hj⟩ := List.mem_iff_getElem?.1 hs
  simp [h j s hj]
theorem openIx_some {out : List S61} {k : Int × Int} {x : Nat} (hx : x < out.length) (h : ∀ (j : Nat) s, out[j]? = some s → (hits k s = true ↔ j = x)) : openIx out k = some x := by
  unfold openIx
  rw [List.findIdx?_eq_some_iff_getElem]
  refine ⟨hx, (h x _ (List.getElem?_eq_getElem hx)).2 rfl, fun j hj => ?_⟩
  have := h j _ (List.getElem?_eq_getElem (by omega))
  intro h2
  have := this.1 h2
  omega
theorem aget_aset {β : Type} (l : List ((Int × Int) × β)) (k k' : Int × Int) (v : β) : aget (aset l k v) k' = if k = k' then some v else aget l k' := by
  induction l with
  | nil => by_cases h : k = k' <;> simp [aset, aget, h]
  | cons p r ih =>
    unfold aset
    by_cases h : p.1 = k
    · rw [if_pos h]
      by_cases h2 : k = k'
      · simp [aget, h2]
      · have h3 : p.1 ≠ k' := fun he => h2 (h ▸ he)
        simp [aget, h2, h3]
    · rw [if_neg h]
      by_cases h3 : p.1 = k'
      · have h2 : k ≠ k' := fun he => h (he ▸ h3)
        simp [aget, h3, h2]
      · unfold aget at ih ⊢
        rw [List.find?_cons_of_neg (by simpa using h3), List.find?_cons_of_neg (by simpa using h3)]
        exact ih
/-- The three ways that a step has. -/
theorem shut_none {out : List S61} {L : List ((Int × Int) × Value)} (h : Inv out L) {k : Int × Int} (h0 : (aget L k).getD (.int .i64 0) = .int .i64 0) (t : Int) : shutK out k t = out ∧ ∀ (j : Nat) s, out[j]? = some s → hits k s = false := by
  rcases h k with ⟨_, h1⟩ | ⟨x, h1, _⟩
  · refine ⟨?_, h1⟩
    unfold shutK
    rw [openIx_none h1]
  · rw [h0] at h1
    injection h1 with _ h1
    omega
theorem rd_some {out : List S61} {x : Nat} (hx : x < out.length) : out[x]? = some (rd_T61 out x) := by
  unfold rd_T61
  rw [Int.toNat_natCast, List.getD_eq_getElem?_getD, List.getElem?_eq_getElem hx]; rfl
theorem shut_some {out : List S61} {L : List ((Int × Int) × Value)} (h : Inv out L) {k : Int × Int} (h0 : (aget L k).getD (.int .i64 0) ≠ .int .i64 0) (t : Int) :
    ∃ x : Nat, (aget L k).getD (.int .i64 0) = .int .i64 ((x : Int) + 1) ∧ x < out.length ∧ shutK out k t = shutAt out x t ∧ (∀ (j : Nat) s, (shutAt out x t)[j]? = some s → hits k s = false) ∧ Inv (shutAt out x t) (aset L k (.int .i64 0)) := by
  rcases h k with ⟨h1, _⟩ | ⟨x, h1, h2⟩
  · exact absurd h1 h0
  · obtain ⟨hl, h2⟩ := h2
    have hsz : ∀ (j : Nat) s, (shutAt out x t)[j]? = some s → (j = x ∧ s.f5 = false) ∨ (j ≠ x ∧ out[j]? = some s) := by
      intro j s hs
      unfold shutAt at hs
      rw [Int.toNat_natCast] at hs
      by_cases hj : j = x
      · subst hj
        rw [List.getElem?_set_self hl] at hs
        left
        exact ⟨rfl, by rw [← Option.some.inj hs]⟩
      · rw [List.getElem?_set_ne (Ne.symm hj)] at hs
        exact .inr ⟨hj, hs⟩
    refine ⟨x, h1, hl, ?_, ?_, ?_⟩
    · unfold shutK
      rw [openIx_some hl h2]
    · intro j s hs
      rcases hsz j s hs with ⟨_, h5⟩ | ⟨hj, hs⟩
      · simp [hits, h5]
      · have := h2 j s hs
        cases hh : hits k s with
        | false => rfl
        | true => exact absurd (this.1 hh) hj
    · intro k'
      rw [aget_aset]
      by_cases hk : k = k'
      · subst hk
        left
        refine ⟨by simp, ?_⟩
        intro j s hs
        rcases hsz j s hs with ⟨_, h5⟩ | ⟨hj, hs⟩
        · simp [hits, h5]
        · have := h2 j s hs
          cases hh : hits k s with
          | false => rfl
          | true => exact absurd (this.1 hh) hj
      · rw [if_neg hk]
        have hx2 : hits k' (rd_T61 out x) = false := by
          have h3 := (h2 x _ (rd_some hl)).2 rfl
          cases hh : hits k' (rd_T61 out x) with
          | false => rfl
          | true =>
            simp only [hits, Bool.and_eq_true, beq_iff_eq] at h3 hh
            exact absurd (Prod.ext (h3.2.1.symm.trans hh.2.1) (h3.2.2.symm.trans hh.2.2)) hk
        rcases h k' with ⟨h3, h4⟩ | ⟨y, h3, hy, h4⟩
        · left
          refine ⟨h3, fun j s hs => ?_⟩
          rcases hsz j s hs with ⟨_, h5⟩ | ⟨hj, hs⟩
          · simp [hits, h5]
          · exact h4 j s hs
        · right
          have hyx : y ≠ x := fun he => by
            subst he
            have := (h4 y _ (rd_some hl)).2 rfl
            rw [hx2] at this; cases this
          refine ⟨y, h3, by simpa [shutAt] using hy, fun j s hs => ?_⟩
          rcases hsz j s hs with ⟨rfl, h5⟩ | ⟨hj, hs⟩
          · simp [hits, h5]; exact hyx.symm
          · exact h4 j s hs
theorem inv_push {out : List S61} {L : List ((Int × Int) × Value)} (h : Inv out L) (e : S32) (h0 : ∀ (j : Nat) s, out[j]? = some s → hits (keyE e) s = false) : Inv (out ++ [newS e]) (aset L (keyE e) (.int .i64 ((out.length : Int) + 1))) := by
  have hsz : ∀ (j : Nat) s, (out ++ [newS e])[j]? = some s → (j = out.length ∧ s = newS e) ∨ (j ≠ out.length ∧ out[j]? = some s) := by
    intro j s hs
    rw [List.getElem?_append] at hs
    split at hs
    · exact .inr ⟨by omega, hs⟩
    · left
      have : j = out.length := by
        have := (List.getElem?_eq_some_iff.1 hs).1
        simp at this; omega
      subst this
      simp at hs
      exact ⟨rfl, hs.symm⟩
  intro k
  rw [aget_aset]
  by_cases hk : keyE e = k
  · subst hk
    right
    refine ⟨out.length, by simp, by simp, fun j s hs => ?_⟩
    rcases hsz j s hs with ⟨rfl, rfl⟩ | ⟨hj, hs⟩
    · simp [hits, newS, keyE]
    · rw [h0 j s hs]; simp [hj]
  · rw [if_neg hk]
    have hn : hits k (newS e) = false := by
      cases hh : hits k (newS e) with
      | false => rfl
      | true =>
        simp only [hits, Bool.and_eq_true, beq_iff_eq] at hh
        exact absurd (Prod.ext hh.2.1 hh.2.2) hk
    rcases h k with ⟨h3, h4⟩ | ⟨y, h3, hy, h4⟩
    · left
      refine ⟨h3, fun j s hs => ?_⟩
      rcases hsz j s hs with ⟨rfl, rfl⟩ | ⟨hj, hs⟩
      · exact hn
      · exact h4 j s hs
    · right
      refine ⟨y, h3, by simp; omega, fun j s hs => ?_⟩
      rcases hsz j s hs with ⟨rfl, rfl⟩ | ⟨hj, hs⟩
      · rw [hn]; simp; omega
      · exact h4 j s hs

theorem shut_calls (w : World) (t : Int) (g1 g2 g3 b : Nat) (key : Int × Int) (L : List ((Int × Int) × Value)) (base : Nat) (v : Value) (xs : List S61) (h : Mem w g1 g2 g3 b key L base v xs) (hk : okK key) (hi : Inv xs L) (hl : xs.length ≤ 1000000) :
    Calls Try.prog 37 #[.int .i64 t, .pointer (some ⟨g1, 0, none⟩), .pointer (some ⟨g2, 0, none⟩), .pointer (some ⟨g3, 0, none⟩)] w fun e w' => e = .returned (.tuple #[]) ∧
      ∃ L', Left w w' g1 g2 g3 b key L' base v (shutK xs key t) ∧ Inv (shutK xs key t) L' ∧ ∀ (j : Nat) s, (shutK xs key t)[j]? = some s → hits key s = false := by
  by_cases h0 : (aget L key).getD (.int .i64 0) = .int .i64 0
  · refine (shut_no w t g1 g2 g3 b key L base v xs h hk h0).mono ?_
    rintro e w' ⟨rfl, rfl⟩
    obtain ⟨h1, h2⟩ := shut_none hi h0 t
    rw [h1]
    exact ⟨rfl, L, ⟨h, Kept.refl _ _, fun B _ _ => Below.refl _ _⟩, hi, h2⟩
  · obtain ⟨x, hx, hxl, h1, h2, h3⟩ := shut_some hi h0 t
    refine (shut_yes w t g1 g2 g3 b key L base v xs h hk ((x : Int) + 1) (x : Int) hx (by rw [show (x : Int) + 1 - 1 = x from by omega]; unfold wrap64; omega) (by omega) (by omega)).mono ?_
    rintro e w' ⟨rfl, hL⟩
    rw [h1]
    exact ⟨rfl, _, hL, h3, h2⟩
end Go.Proofs.Ytinjbfgjfmfibaa.Tr
