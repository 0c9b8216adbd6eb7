/- chapter 7's laws: fresh, ones, awake. -/
import Derived.Test.YtdnjjhdhldgcmaaSec7
import Derived.Test.YtdnjjhdhldgcmaaPSectorTornx1
namespace Go.Proofs.Ytdnjjhdhldgcmaa.Sec
open Go.RowKit Go.Proofs.YtdnjjhdhldgcmaaW.PrintWords Go.Proofs.YtdnjjhdhldgcmaaW.PrintLast Go.Proofs.YtdnjjhdhldgcmaaW.PrintMore Go.Proofs.Ytdnjjhdhldgcmaa.Bs Go.Proofs.Ytdnjjhdhldgcmaa.Fr
open Go.Proofs.Ytdnjjhdhldgcmaa.PSectorTorn
set_option linter.unusedVariables false
set_option linter.unusedSimpArgs false

def rep (c : Int) : List Int := List.replicate 64 c
theorem wrap_1 (i : Nat) (h : i ≤ 2000000) : wrap64 ((i : Int) + 1) = ((i + 1 : Nat) : Int) := by unfold wrap64; omega
theorem ones_l0 (c : Int) : ∀ (m i k : Nat), i + m = 64 → m + 1 ≤ k → bailiwicklaw7_ones.l0 k c (List.replicate i c) (i : Int) = some (rep c) := by
  intro m
  induction m with
  | zero =>
    intro i k hi hk
    obtain ⟨k, rfl⟩ : ∃ k', k = k' + 1 := ⟨k - 1, by omega⟩
    have : i = 64 := by omega
    subst this
    unfold bailiwicklaw7_ones.l0
    rw [if_neg (by omega)]; rfl
  | succ m ih =>
    intro i k hi hk
    obtain ⟨k, rfl⟩ : ∃ k', k = k' + 1 := ⟨k - 1, by omega⟩
    unfold bailiwicklaw7_ones.l0
    rw [if_pos (by omega), if_pos (by simp; omega), wrap_1 i (by omega), ← List.replicate_succ', ih (i + 1) k (by omega) (by omega)]
theorem ones_f (c : Int) : bailiwicklaw7_ones.f 65 c = some (rep c) := ones_l0 c 64 0 65 (by omega) (by omega)
theorem rep_len (c : Int) : (rep c).length = 64 := by simp [rep]
theorem range_of_C {w : World} {g n : Nat} {xs : List Int} (hC : Kd.C (Kd.int .u8) w (some ⟨g, 0, none⟩) n xs) : w.rangeAt g 0 (encs (Value.int .u8) xs) := fun j v hv => by
  have hj : j < xs.length := by have := (List.getElem?_eq_some_iff.1 hv).1; rwa [encs_length] at this
  have hn : n = xs.length := hC.1.symm
  obtain ⟨ad, hA, hc⟩ := hC.2.2 (by omega)
  cases hA
  obtain ⟨c, h1, h2, h3⟩ := hc j _ (List.getElem?_eq_getElem hj)
  have h2 : c = [Value.int .u8 xs[j]] := h2
  subst h2
  have h4 := h3 0 _ rfl
  have hv2 : v = Value.int .u8 xs[j] := by
    unfold encs at hv
    rw [List.getElem?_map, List.getElem?_eq_getElem hj] at hv
    exact (Option.some.inj hv).symm
  subst hv2
  rw [Addr.add_mid] at h4
  have e1 : 0 + (j * (Kd.int .u8).sz + 0) = 0 + j := by show 0 + (j * 1 + 0) = 0 + j; omega
  rw [e1] at h4
  exact h4
/-- A sector full of c, in a block of one's own. -/
theorem ones_calls (c : Int) (w : World) : Calls Try.prog 23 #[.int .u8 c] w fun e w' => ∃ g cap, e = .returned (.slice (some ⟨g, 0, none⟩) 64 cap) ∧ w.heap.size ≤ g ∧ Kd.R (Kd.int .u8) 5 w' w.heap.size (fun _ => True) (.slice (some ⟨g, 0, none⟩) 64 cap) (rep c) ∧ w'.rangeAt g 0 (encs (Value.int .u8) (rep c)) ∧ Below w.heap.size w w' := by
  refine (bailiwicklaw7_ones.calls 65 c (rep c) w (ones_f c)).mono ?_
  rintro e w' ⟨v, rfl, hr, hb⟩
  obtain ⟨g, cap, hv, gb, gl, cl, HG⟩ := Kd.R_form hr (by rw [rep_len]; omega)
  rw [rep_len] at hv
  subst hv
  exact ⟨g, cap, rfl, gb, hr, range_of_C (Kd.R_reads' hr).2.2, hb⟩
theorem same_l0 (l : List Int) (hl : l.length ≤ 1000000) : ∀ (m i k : Nat), i + m = l.length → m + 1 ≤ k → bailiwickref1_Same.l0 k l l (i : Int) = some true := by
  intro m
  induction m with
  | zero =>
    intro i k hi hk
    obtain ⟨k, rfl⟩ : ∃ k', k = k' + 1 := ⟨k - 1, by omega⟩
    unfold bailiwickref1_Same.l0
    rw [if_neg (by omega)]
  | succ m ih =>
    intro i k hi hk
    obtain ⟨k, rfl⟩ : ∃ k', k = k' + 1 := ⟨k - 1, by omega⟩
    unfold bailiwickref1_Same.l0
    rw [if_pos (by omega), if_pos (by omega), if_pos (by omega), if_pos rfl, wrap_1 i (by omega), ih (i + 1) k (by omega) (by omega)]
theorem same_f (l : List Int) (hl : l.length ≤ 1000000) : bailiwickref1_Same.f (l.length + 1) l l = some true := by
  unfold bailiwickref1_Same.f
  rw [if_pos rfl]
  exact same_l0 l hl l.length 0 (l.length + 1) (by omega) (by omega)

set_option maxHeartbeats 1000000 in
set_option maxRecDepth 100000 in
theorem fresh_calls (w : World) (n : Nat) (hn : 1 ≤ n) (hn2 : n ≤ 4096) :
    Calls Try.prog 17 #[.int .i64 n] w fun e w' => ∃ g v0 v1, e = .returned (.pointer (some ⟨g, 0, none⟩)) ∧ DV w' w.heap.size g v0 v1 (.slice none 0 0) (.slice none 0 0) ⟨List.replicate n (rep 0), List.replicate n (rep 0), [], [], 0⟩ ∧ Below w.heap.size w w' := by
  go_enter Try.func17, Try.ntmps17
  go_wp2_with (go_at_call 28; refine (New_calls w n hn hn2).mono ?_; rintro e w1 ⟨g, v0, v1, rfl, hd, hb⟩; have HD := Aside0.mk hd; have HB := Aside0.mk hb; clear hd hb)
  go_ret
  exact ⟨g, v0, v1, rfl, HD.out, HB.out⟩
theorem C_blk {w : World} {g : Nat} {t : TypeId} {xs : List Int} (hb : w.heap[g]? = some (.cells (encs (Value.int .u8) xs).toArray t (0, 0))) (hl : xs.length = 64) : Kd.C (Kd.int .u8) w (some ⟨g, 0, none⟩) 64 xs := by
  have h := (Kd.R_reads' (R_blk (enc := Value.int .u8) (h1 := fun _ => rfl) (base := 0) hb (Nat.zero_le _) (by omega))).2.2
  rw [hl] at h
  exact h
theorem same_calls (w : World) (A0 A1 : Option Addr) (c0 c1 : Nat) (l : List Int) (hl : l.length = 64) (h0 : Kd.C (Kd.int .u8) w A0 64 l) (hc0 : 64 ≤ c0) (h1 : Kd.C (Kd.int .u8) w A1 64 l) (hc1 : 64 ≤ c1) :
    Calls Try.prog 29 #[.slice A0 64 c0, .slice A1 64 c1] w fun e w' => e = .returned (.bool true) ∧ Below w.heap.size w w' := by
  have h := bailiwickref1_Same.calls (l.length + 1) A0 c0 l A1 c1 l true w (by rw [hl]; exact h0) (by rw [hl]; exact hc0) (by rw [hl]; exact h1) (by rw [hl]; exact hc1) (same_f l (by omega))
  rw [hl] at h
  exact h.mono (fun e w' hh => ⟨hh.1, hh.2.below⟩)

def m2 : DM := ⟨List.replicate 2 (rep 0), List.replicate 2 (rep 0), [], [], 0⟩
set_option maxHeartbeats 1000000 in
set_option maxRecDepth 100000 in
theorem awake_calls (w : World) : Calls Try.prog 15 #[] w fun e w' => e = .returned (.bool true) ∧ Below w.heap.size w w' := by
  go_enter Try.func15, Try.ntmps15
  go_wp2_with fail
  refine (fresh_calls w 2 (by decide) (by decide)).mono ?_
  rintro e w1 ⟨g, v0, v1, rfl, hd1, hb1⟩
  have D1 : Aside0 (DV w1 w.heap.size g v0 v1 (.slice none 0 0) (.slice none 0 0) m2) := ⟨hd1⟩
  have B1 := Aside0.mk hb1
  clear hd1 hb1
  go_wp2_with fail
  refine (ones_calls 5 w1).mono ?_
  rintro e w2 ⟨gb, cb, rfl, hgb, hr2, hrange, hb2⟩
  have D2 := Aside0.mk (D1.out.below hb2)
  have B2 := Aside0.mk (below_step B1.out hb2)
  have hne : gb ≠ g := by have := D1.out.foot_lt g (.inl rfl); omega
  have R2 := Aside0.mk hrange
  clear hgb hr2 hrange hb2 D1 B1
  go_wp2_with fail
  refine (Write_done w2 w.heap.size g v0 v1 (.slice none 0 0) (.slice none 0 0) m2 D2.out (by decide) (by decide) 1 (by decide) gb cb (rep 5) (rep_len 5) R2.out (by decide) B2.out.size hne).mono ?_
  rintro e w3 ⟨rfl, v2, v3, hd3, hf3, _⟩
  have D3 := Aside0.mk hd3
  have B3 := Aside0.mk (below_fr B2.out B2.out.size hf3 D2.out.foot_ge)
  rw [show tell (outc m2) = 0 from rfl]
  clear hd3 hf3 D2 B2 R2 hne
  go_wp2_with fail
  refine (Read_calls w3 w.heap.size g v0 v1 v2 v3 _ D3.out 1 (by decide)).mono ?_
  rintro e w4 ⟨g4, rfl, hg4, hx4, hl4, hb4⟩
  have D4 := Aside0.mk (D3.out.below hb4)
  have B4 := Aside0.mk (below_step B3.out hb4)
  have X4 : Aside0 (w4.heap[g4]? = some (.cells (encs (Value.int .u8) (rep 5)).toArray 89 (0, 0))) := ⟨hx4⟩
  clear hg4 hx4 hl4 hb4 D3 B3
  go_wp2_with fail
  refine (ones_calls 5 w4).mono ?_
  rintro e w5 ⟨g5, c5, rfl, hg5, hr5, _, hb5⟩
  have D5 := Aside0.mk (D4.out.below hb5)
  have B5 := Aside0.mk (below_step B4.out hb5)
  have X5 := Aside0.mk (blk_below X4.out hb5)
  have C5 := Aside0.mk (Kd.R_reads' hr5)
  clear hg5 hr5 hb5 D4 B4 X4
  go_wp2_with fail
  refine (same_calls w5 _ _ 64 c5 (rep 5) (rep_len 5) (C_blk X5.out (rep_len 5)) (Nat.le_refl _) (by have h_ := C5.out.2.2; rw [rep_len] at h_; exact h_) C5.out.2.1).mono ?_
  rintro e w6 ⟨rfl, hb6⟩
  have D6 := Aside0.mk (D5.out.below hb6)
  have B6 := Aside0.mk (below_step B5.out hb6)
  clear hb6 D5 B5 X5 C5
  go_wp2_with fail
  refine (Dirty_calls w6 w.heap.size g v0 v1 v2 v3 _ D6.out).mono ?_
  rintro e w7 ⟨rfl, rfl⟩
  have B7 := Aside0.mk B6.out
  clear D6 B6
  go_wp2
  go_ret
  exact ⟨rfl, B7.out⟩
end Go.Proofs.Ytdnjjhdhldgcmaa.Sec
