/- The statements' own awake: a boot is written. -/
import Derived.Test.YtinjbfgjfmfibaaEnc1
namespace Go.Proofs.Ytinjbfgjfmfibaa.Enc
open Go.RowKit Go.Proofs.YtinjbfgjfmfibaaW.PrintWords Go.Proofs.YtinjbfgjfmfibaaW.PrintLast Go.Proofs.YtinjbfgjfmfibaaW.PrintMore
open Go.Proofs.Ytinjbfgjfmfibaa.PEntryEncodes
set_option linter.unusedVariables false
set_option linter.unusedSimpArgs false

theorem drop_ext {l m : List Int} {i : Nat} (h : l.length = m.length) (hi : i < l.length) : (l.drop i = m.drop i) ↔ (rd l i = rd m i ∧ l.drop (i + 1) = m.drop (i + 1)) := by
  have hm : i < m.length := by omega
  rw [List.drop_eq_getElem_cons hi, List.drop_eq_getElem_cons hm]
  simp only [List.cons.injEq, rd, List.getD_eq_getElem?_getD, List.getElem?_eq_getElem hi, List.getElem?_eq_getElem hm, Int.toNat_natCast, Option.getD_some]
theorem same_l (l m : List Int) (h : l.length = m.length) (hs : l.length ≤ 140737488351232) : ∀ (d : Nat) (i : Nat), i + d = l.length → ∀ k, d < k → bailiwickref1_Same.l0 k l m i = some (decide (l.drop i = m.drop i)) := by
  intro d
  induction d with
  | zero =>
    intro i hi k hk
    obtain ⟨k, rfl⟩ : ∃ m, k = m + 1 := ⟨k - 1, by omega⟩
    simp only [bailiwickref1_Same.l0]
    rw [if_neg (by omega), List.drop_eq_nil_of_le (by omega), List.drop_eq_nil_of_le (by omega)]
    simp
  | succ d ih =>
    intro i hi k hk
    obtain ⟨k, rfl⟩ : ∃ m, k = m + 1 := ⟨k - 1, by omega⟩
    simp only [bailiwickref1_Same.l0]
    rw [if_pos (by omega), if_pos (by omega), if_pos (by omega)]
    have hx := drop_ext h (show i < l.length by omega)
    by_cases hr : rd l (i : Int) = rd m (i : Int)
    · rw [if_pos hr]
      have hw : wrap64 ((i : Int) + 1) = ((i + 1 : Nat) : Int) := by unfold wrap64; omega
      rw [hw, ih (i + 1) (by omega) k (by omega)]
      congr 1
      simp only [hr, true_and] at hx
      exact decide_eq_decide.mpr hx.symm
    · rw [if_neg hr]
      simp [hx, hr]
theorem same_f (l m : List Int) (hs : l.length ≤ 140737488351232) : bailiwickref1_Same.f (l.length + 1) l m = some (decide (l = m)) := by
  unfold bailiwickref1_Same.f
  by_cases h : (l.length : Int) = (m.length : Int)
  · rw [if_pos h]
    have := same_l l m (by omega) hs l.length 0 (by omega) (l.length + 1) (by omega)
    simpa using this
  · rw [if_neg h]
    have : l ≠ m := fun e => h (by rw [e])
    simp [this]

theorem u8_lit (W : World) (xs : List Int) (h : xs.length ≤ 9223372036854775807) : Kd.C (Kd.int .u8) (W.alloc (.cells (encs (Value.int .u8) xs).toArray 5)) (some ⟨W.heap.size, 0, none⟩) xs.length xs := by
  have h1 := own_lit_of (enc := Value.int .u8) W 0 5 xs (Nat.zero_le _) h
  have h2 : Kd.R (Kd.int .u8) 5 (W.alloc (.cells (encs (Value.int .u8) xs).toArray 5)) 0 (fun _ => True) (.slice (some ⟨W.heap.size, 0, none⟩) xs.length xs.length) xs := Kd.R_of_own h1 (fun _ _ => trivial)
  obtain ⟨A, c, e, _, hC⟩ := Kd.R_reads h2
  injection e with e1 _ _
  rw [e1]; exact hC

set_option maxHeartbeats 1000000 in
set_option maxRecDepth 100000 in
theorem awake_calls (w : World) : Calls Try.prog 21 #[] w fun e w' => e = .returned (.bool true) ∧ Below w.heap.size w w' := by
  have he : Aside0 (encR 1 5 0 0 0 = [1, 0, 0, 0, 0, 0, 0, 0, 5]) := ⟨by decide +kernel⟩
  have hc : Aside0 (chk 1 5 0 0 0 = 0) := ⟨by decide +kernel⟩
  go_enter Try.func21, Try.ntmps21
  go_wp2_with (first | (go_at_call 22; refine (Encode_calls 1 5 0 0 0 _).mono ?_; rintro e w1 ⟨v, rfl, hr, hb⟩; rw [he.out] at hr; rw [hc.out]; obtain ⟨A, c, rfl, hl, hC⟩ := Kd.R_reads hr; have HB := Aside0.mk hb; have HC := Aside0.mk hC; have HL := Aside0.mk hl; clear hr hb hl hC))
  refine (bailiwickref1_Same.calls 10 A c [1, 0, 0, 0, 0, 0, 0, 0, 5] (some ⟨w1.heap.size, 0, none⟩) 9 [1, 0, 0, 0, 0, 0, 0, 0, 5] true _ (Kd.C_below HC.out (below_alloc (Below.refl _ _) _)) HL.out (u8_lit w1 [1, 0, 0, 0, 0, 0, 0, 0, 5] (by decide)) (Nat.le_refl _) (by have h := same_f [1, 0, 0, 0, 0, 0, 0, 0, 5] [1, 0, 0, 0, 0, 0, 0, 0, 5] (by decide); rw [decide_eq_true rfl] at h; exact h)).mono ?_
  rintro e w2 ⟨rfl, hd⟩
  have HD := Aside0.mk (below_step (below_alloc HB.out _) hd.below)
  clear hd
  go_wp2
  go_ret
  exact ⟨rfl, HD.out⟩
end Go.Proofs.Ytinjbfgjfmfibaa.Enc
