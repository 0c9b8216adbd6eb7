/- chapter 7's laws over deeds: room, body. -/
import Derived.Test.YtdnjjhdhldgcmaaSec11
import Derived.Test.YtdnjjhdhldgcmaaPSectorSyncedx1
namespace Go.Proofs.Ytdnjjhdhldgcmaa.Sec
open Go.RowKit Go.Proofs.YtdnjjhdhldgcmaaW.PrintWords Go.Proofs.YtdnjjhdhldgcmaaW.PrintLast Go.Proofs.YtdnjjhdhldgcmaaW.PrintMore Go.Proofs.Ytdnjjhdhldgcmaa.Bs Go.Proofs.Ytdnjjhdhldgcmaa.Fr
open Go.Proofs.Ytdnjjhdhldgcmaa.PSectorSynced
set_option linter.unusedVariables false
set_option linter.unusedSimpArgs false

theorem room_l0 (l : List S32) (hl : l.length ≤ 300) : ∀ (m i k : Nat) (x : Int), i + m = l.length → m + 1 ≤ k → ∃ r, bailiwicklaw7_room.l0 k l x (i : Int) = some r ∧ (r = true → ∀ j : Nat, i ≤ j → j < l.length → (rd_T32 l j).f4.length ≤ 1000) := by
  intro m
  induction m with
  | zero =>
    intro i k x hi hk
    obtain ⟨k, rfl⟩ : ∃ k', k = k' + 1 := ⟨k - 1, by omega⟩
    unfold bailiwicklaw7_room.l0
    rw [if_neg (by omega)]
    exact ⟨_, rfl, fun _ j h1 h2 => by omega⟩
  | succ m ih =>
    intro i k x hi hk
    obtain ⟨k, rfl⟩ : ∃ k', k = k' + 1 := ⟨k - 1, by omega⟩
    unfold bailiwicklaw7_room.l0
    rw [if_pos (by omega), if_pos (by omega)]
    by_cases hb : ((rd_T32 l (i : Int)).f4.length : Int) > 1000
    · rw [if_pos hb]
      exact ⟨_, rfl, fun h => by cases h⟩
    · rw [if_neg hb, wrap_1 i (by omega)]
      obtain ⟨r, h1, h2⟩ := ih (i + 1) k (wrap64 (x + ((rd_T32 l (i : Int)).f4.length : Int))) (by omega) (by omega)
      refine ⟨r, h1, fun hr j hj1 hj2 => ?_⟩
      by_cases he : j = i
      · subst he; omega
      · exact h2 hr j (by omega) hj2
theorem room_f (l : List S32) : ∃ r, bailiwicklaw7_room.f (l.length + 1) l = some r ∧ (r = true → l.length ≤ 300 ∧ ∀ j : Nat, j < l.length → (rd_T32 l j).f4.length ≤ 1000) := by
  unfold bailiwicklaw7_room.f
  by_cases h : l.length ≤ 300
  · rw [if_neg (by omega)]
    obtain ⟨r, h1, h2⟩ := room_l0 l h l.length 0 (l.length + 1) 0 (by omega) (by omega)
    exact ⟨r, h1, fun hr => ⟨h, fun j hj => h2 hr j (by omega) hj⟩⟩
  · rw [if_pos (by omega)]
    exact ⟨_, rfl, fun h => by cases h⟩
theorem ones_l0' (c : Int) : ∀ (m i k : Nat), i + m = 64 → m + 1 ≤ k → bailiwicklaw7_ones.l0 k c (List.replicate i c) (i : Int) = some (rep c) := by
  intro m
  induction m with
  | zero =>
    intro i k hi hk
    obtain ⟨k, rfl⟩ : ∃ k', k = k' + 1 := ⟨k - 1, by omega⟩
    have : i = 64 := by omega
    subst this
    unfold bailiwicklaw7_ones.l0
    rw [if_neg (by omega)]; rfl
  | succ m ih =>
    intro i k hi hk
    obtain ⟨k, rfl⟩ : ∃ k', k = k' + 1 := ⟨k - 1, by omega⟩
    unfold bailiwicklaw7_ones.l0
    rw [if_pos (by omega), if_pos (by simp; omega), wrap_1 i (by omega), ← List.replicate_succ', ih (i + 1) k (by omega) (by omega)]
theorem copy_l0 (l : List Int) (hl : l.length ≤ 1000) : ∀ (m i k : Nat) (x : List Int), i + m = l.length → m + 1 ≤ k → x.length = i → ∃ r, bailiwickref1_Copy.l0 k l x (i : Int) = some r ∧ r.length = l.length := by
  intro m
  induction m with
  | zero =>
    intro i k x hi hk hx
    obtain ⟨k, rfl⟩ : ∃ k', k = k' + 1 := ⟨k - 1, by omega⟩
    unfold bailiwickref1_Copy.l0
    rw [if_neg (by omega)]
    exact ⟨_, rfl, by omega⟩
  | succ m ih =>
    intro i k x hi hk hx
    obtain ⟨k, rfl⟩ : ∃ k', k = k' + 1 := ⟨k - 1, by omega⟩
    unfold bailiwickref1_Copy.l0
    rw [if_pos (by omega), if_pos (by omega), if_pos (by omega), wrap_1 i (by omega)]
    exact ih (i + 1) k _ (by omega) (by omega) (by simp [hx])
theorem body_l0 (a0 a1 a2 a3 : Int) (l : List Int) (hl : l.length ≤ 1000) : ∀ (m i k : Nat) (x : List Int), i + m = 64 → m + 1002 ≤ k → x.length = 64 → ∃ r, bailiwicklaw7_body.l0 k x (i : Int) a0 a1 a2 a3 l = some r ∧ (a0 ≠ 3 → r.length = 64) := by
  intro m
  induction m with
  | zero =>
    intro i k x hi hk hx
    obtain ⟨k, rfl⟩ : ∃ k', k = k' + 1 := ⟨k - 1, by omega⟩
    unfold bailiwicklaw7_body.l0
    rw [if_neg (by omega)]
    by_cases h3 : a0 = 3
    · rw [if_pos h3]
      obtain ⟨r, h1, _⟩ := copy_l0 l hl l.length 0 k [] (by omega) (by omega) rfl
      have h1 : bailiwickref1_Copy.f k l = some r := h1
      rw [h1]
      exact ⟨r, rfl, fun h => absurd h3 h⟩
    · rw [if_neg h3]
      exact ⟨_, rfl, fun _ => hx⟩
  | succ m ih =>
    intro i k x hi hk hx
    obtain ⟨k, rfl⟩ : ∃ k', k = k' + 1 := ⟨k - 1, by omega⟩
    unfold bailiwicklaw7_body.l0
    rw [if_pos (by omega), wrap_1 i (by omega)]
    split
    · rw [if_pos (by omega)]
      exact ih (i + 1) k _ (by omega) (by omega) (by simp [hx])
    · exact ih (i + 1) k _ (by omega) (by omega) hx
theorem body_f (a0 a1 a2 a3 : Int) (l : List Int) (hl : l.length ≤ 1000) (k : Nat) (hk : 1100 ≤ k) : ∃ r, bailiwicklaw7_body.f k a0 a1 a2 a3 l = some r ∧ (a0 ≠ 3 → r.length = 64) := by
  have h1 : bailiwicklaw7_ones.f k 0 = some (rep 0) := by
    have h := ones_l0' 0 64 0 k (by omega) (by omega)
    exact h
  have h2 := body_l0 a0 a1 a2 a3 l hl 64 0 k (rep 0) (by omega) (by omega) (rep_len 0)
  unfold bailiwicklaw7_body.f
  rw [h1, Option.bind_some]
  exact h2
end Go.Proofs.Ytdnjjhdhldgcmaa.Sec
