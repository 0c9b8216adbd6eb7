/- Entries come back: the plain laws. -/
import Derived.Test.YtinjbfgjfmfibaaDec5
import Derived.Test.YtinjbfgjfmfibaaEnc3
namespace Go.Proofs.Ytinjbfgjfmfibaa.Ent
open Go.RowKit Go.Proofs.YtinjbfgjfmfibaaW.PrintWords Go.Proofs.Ytinjbfgjfmfibaa.Oct Go.Proofs.Ytinjbfgjfmfibaa.Dec
open Go.Proofs.Ytinjbfgjfmfibaa.Enc
set_option linter.unusedVariables false
set_option linter.unusedSimpArgs false

theorem beN_append (l m : List Int) : beN (l ++ m) = beN l * 256 ^ m.length + beN m := by
  obtain ⟨n, hn⟩ : ∃ n, n = m.length := ⟨_, rfl⟩
  induction n generalizing m with
  | zero =>
    have : m = [] := List.length_eq_zero_iff.mp hn.symm
    subst this; simp [beN]
  | succ n ih =>
    obtain ⟨m', c, rfl⟩ : ∃ m' c, m = m' ++ [c] := ⟨m.dropLast, m.getLast (by intro e; simp [e] at hn), (List.dropLast_concat_getLast _).symm⟩
    rw [← List.append_assoc, beN_snoc, beN_snoc, ih m' (by simpa using hn), List.length_append, List.length_singleton, Int.pow_succ]
    rw [Int.add_mul, Int.mul_assoc]
    omega
theorem pow256 (n : Nat) : (2 : Int) ^ (8 * n) = 256 ^ n := by
  rw [Int.pow_mul]; rfl
theorem beN_lays (x : Int) (n : Nat) : beN (lays x n) = x % 256 ^ n := by
  induction n with
  | zero => simp [lays, beN]
  | succ n ih =>
    have h1 : lays x (n + 1) = [(x / 2 ^ (8 * n)) % 256] ++ lays x n := rfl
    rw [h1, beN_append, ih, lays_length, pow256]
    have h2 : beN [x / 256 ^ n % 256] = x / 256 ^ n % 256 := by simp [beN]
    rw [h2, Int.pow_succ]
    have hp : (0 : Int) < 256 ^ n := Int.pow_pos (by omega)
    generalize (256 : Int) ^ n = p at *
    have e1 := Int.emod_emod_of_dvd x (Int.dvd_mul_right p 256)
    have e2 : x % (p * 256) / p = x / p % 256 := by
      rw [Int.emod_def x (p * 256), ← Int.ediv_ediv_of_nonneg (by omega)]
      have : x - p * 256 * (x / p / 256) = x + p * (-(256 * (x / p / 256))) := by
        rw [Int.mul_neg, ← Int.mul_assoc]; omega
      rw [this, Int.add_mul_ediv_left _ _ (by omega)]
      omega
    have e3 := Int.mul_ediv_add_emod (x % (p * 256)) p
    rw [e1, e2] at e3
    rw [← e3, Int.mul_comm]
theorem byt_lays (x : Int) (n : Nat) : Byt (lays x n) := by
  induction n with
  | zero => intro y hy; cases hy
  | succ n ih =>
    intro y hy
    rcases List.mem_cons.1 hy with rfl | hy
    · omega
    · exact ih y hy
theorem lays_beN {l : List Int} (h : Byt l) : ∀ p : Int, lays (p * 256 ^ l.length + beN l) l.length = l := by
  induction l with
  | nil => intro p; rfl
  | cons c r ih =>
    intro p
    have hc := h c (by simp)
    have hr : Byt r := fun x hx => h x (by simp [hx])
    have h1 : beN (c :: r) = c * 256 ^ r.length + beN r := by
      have := beN_append [c] r
      simpa [beN] using this
    have hb := beN_range hr
    rw [List.length_cons, lays, pow256, h1, Int.pow_succ]
    have hp : (0 : Int) < 256 ^ r.length := Int.pow_pos (by omega)
    have e : p * (256 ^ r.length * 256) + (c * 256 ^ r.length + beN r) = (p * 256 + c) * 256 ^ r.length + beN r := by
      rw [Int.add_mul, Int.mul_assoc, Int.mul_comm (256 ^ r.length) 256]; omega
    rw [e, ih hr (p * 256 + c)]
    congr 1
    generalize (256 : Int) ^ r.length = q at *
    rw [Int.add_comm, Int.add_mul_ediv_right _ _ (by omega), Int.ediv_eq_zero_of_lt hb.1 hb.2]
    omega
theorem getV_mid (p m s : List Int) (at_ n : Int) (h1 : at_ = p.length) (h2 : n = m.length) (hn : 1 ≤ n ∧ n ≤ 8) : getV (p ++ (m ++ s)) at_ n = beN m := by
  unfold getV
  have : mayB (p ++ (m ++ s)).length at_ n = true := by unfold mayB; apply decide_eq_true; simp; omega
  rw [if_pos this, h1, h2]
  simp
theorem wrap_u64 {x : Int} (h : 0 ≤ x ∧ x < 18446744073709551616) : IntKind.u64.wrap x = x := by rw [IntKind.wrap_u64]; omega
theorem chk_cases {k t s a b : Int} (h : chk k t s a b = 0) : 0 ≤ t ∧ t ≤ 1099511627776 ∧ ((k = 1 ∧ s = 0 ∧ a = 0 ∧ b = 0) ∨ (k = 2 ∧ 0 ≤ b ∧ b ≤ 65535) ∨ (k = 3 ∧ s = 0 ∧ 0 ≤ b ∧ b ≤ 65535)) := by
  unfold chk at h
  split at h
  · assumption
  · cases h
theorem one_byte (k : Int) (h : 0 ≤ k ∧ k ≤ 255) : lays k 1 = [k] := by
  simp [lays]; omega
theorem dec_enc {k t s a b : Int} (h : chk k t s a b = 0) (hs : 0 ≤ s ∧ s ≤ 4294967295) (ha : 0 ≤ a ∧ a ≤ 4294967295) : dec (encR k t s a b) = ⟨k, t, s, a, b, 0⟩ := by
  have he : encR k t s a b = bytesOfEntry k t s a b := if_pos h
  obtain ⟨h0, h1, h2⟩ := chk_cases h
  rw [he]
  have wt := wrap_u64 (x := t) (by omega)
  have ws := wrap_u64 (x := s) (by omega)
  have wa := wrap_u64 (x := a) (by omega)
  have mt : beN (lays t 8) = t := by rw [beN_lays]; exact Int.emod_eq_of_lt h0 (by omega)
  have ms : beN (lays s 4) = s := by rw [beN_lays]; exact Int.emod_eq_of_lt hs.1 (by omega)
  have ma : beN (lays a 4) = a := by rw [beN_lays]; exact Int.emod_eq_of_lt ha.1 (by omega)
  rcases h2 with ⟨rfl, rfl, rfl, rfl⟩ | ⟨rfl, hb0, hb1⟩ | ⟨rfl, rfl, hb0, hb1⟩
  · have hl : bytesOfEntry 1 t 0 0 0 = [1] ++ (lays t 8 ++ []) := by
      simp [bytesOfEntry, partsOf, piece, wt, wrap_u64 (x := 1) (by omega), one_byte]
    have g1 := getV_mid [1] (lays t 8) [] 1 8 rfl (by rw [lays_length]; rfl) (by omega)
    rw [hl]
    unfold dec
    rw [if_neg (by simp)]
    have hr : rd ([1] ++ (lays t 8 ++ [])) 0 = 1 := rfl
    rw [hr, g1, mt]
    simp [Dec.sizeOf, lays_length]
    omega
  · have wb := wrap_u64 (x := b) (by omega)
    have mb : beN (lays b 2) = b := by rw [beN_lays]; exact Int.emod_eq_of_lt hb0 (by omega)
    have hl : bytesOfEntry 2 t s a b = [2] ++ (lays t 8 ++ (lays s 4 ++ (lays a 4 ++ (lays b 2 ++ [])))) := by
      simp [bytesOfEntry, partsOf, piece, wt, ws, wa, wb, wrap_u64 (x := 2) (by omega), one_byte]
    have g1 := getV_mid [2] (lays t 8) (lays s 4 ++ (lays a 4 ++ (lays b 2 ++ []))) 1 8 rfl (by rw [lays_length]; rfl) (by omega)
    have g2 := getV_mid ([2] ++ lays t 8) (lays s 4) (lays a 4 ++ (lays b 2 ++ [])) 9 4 (by simp [lays_length]) (by rw [lays_length]; rfl) (by omega)
    have g3 := getV_mid ([2] ++ lays t 8 ++ lays s 4) (lays a 4) (lays b 2 ++ []) 13 4 (by simp [lays_length]) (by rw [lays_length]; rfl) (by omega)
    have g4 := getV_mid ([2] ++ lays t 8 ++ lays s 4 ++ lays a 4) (lays b 2) [] 17 2 (by simp [lays_length]) (by rw [lays_length]; rfl) (by omega)
    simp only [List.append_assoc] at g2 g3 g4
    rw [hl]
    unfold dec
    rw [if_neg (by simp)]
    have hr : rd ([2] ++ (lays t 8 ++ (lays s 4 ++ (lays a 4 ++ (lays b 2 ++ []))))) 0 = 2 := rfl
    rw [hr, g1, g2, g3, g4, mt, ms, ma, mb]
    simp [Dec.sizeOf, lays_length]
    omega
  · have wb := wrap_u64 (x := b) (by omega)
    have mb : beN (lays b 2) = b := by rw [beN_lays]; exact Int.emod_eq_of_lt hb0 (by omega)
    have hl : bytesOfEntry 3 t 0 a b = [3] ++ (lays t 8 ++ (lays a 4 ++ (lays b 2 ++ []))) := by
      simp [bytesOfEntry, partsOf, piece, wt, wa, wb, wrap_u64 (x := 3) (by omega), one_byte]
    have g1 := getV_mid [3] (lays t 8) (lays a 4 ++ (lays b 2 ++ [])) 1 8 rfl (by rw [lays_length]; rfl) (by omega)
    have g3 := getV_mid ([3] ++ lays t 8) (lays a 4) (lays b 2 ++ []) 9 4 (by simp [lays_length]) (by rw [lays_length]; rfl) (by omega)
    have g4 := getV_mid ([3] ++ lays t 8 ++ lays a 4) (lays b 2) [] 13 2 (by simp [lays_length]) (by rw [lays_length]; rfl) (by omega)
    simp only [List.append_assoc] at g3 g4
    rw [hl]
    unfold dec
    rw [if_neg (by simp)]
    have hr : rd ([3] ++ (lays t 8 ++ (lays a 4 ++ (lays b 2 ++ [])))) 0 = 3 := rfl
    rw [hr, g1, g3, g4, mt, ma, mb]
    simp [Dec.sizeOf, lays_length]
    omega
theorem getV_at (l : List Int) (at_ n : Nat) (h : 1 ≤ n ∧ n ≤ 8 ∧ at_ + n ≤ l.length) : getV l at_ n = beN ((l.drop at_).take n) := by
  unfold getV
  have : mayB l.length at_ n = true := by unfold mayB; apply decide_eq_true; omega
  rw [if_pos this]; simp
theorem lays_mid {l : List Int} (hl : Byt l) (at_ n : Nat) (h : 1 ≤ n ∧ n ≤ 8 ∧ at_ + n ≤ l.length) : lays (getV l at_ n) n = (l.drop at_).take n := by
  rw [getV_at l at_ n h]
  have hb : Byt ((l.drop at_).take n) := (hl.drop at_).take n
  have hn : ((l.drop at_).take n).length = n := by rw [List.length_take, List.length_drop]; omega
  have h1 := lays_beN hb 0
  rw [hn] at h1
  simpa using h1
theorem dec_cases {l : List Int} (hx : (dec l).x = 0) : ∃ r, l ≠ [] ∧ ((rd l 0 = 1 ∧ l.length = 9 ∧ r = (⟨1, getV l 1 8, 0, 0, 0, 0⟩ : Ent)) ∨ (rd l 0 = 2 ∧ l.length = 19 ∧ r = ⟨2, getV l 1 8, getV l 9 4, getV l 13 4, getV l 17 2, 0⟩) ∨ (rd l 0 = 3 ∧ l.length = 15 ∧ r = ⟨3, getV l 1 8, 0, getV l 9 4, getV l 13 2, 0⟩)) ∧ getV l 1 8 ≤ 1099511627776 ∧ dec l = r := by
  refine ⟨dec l, ?_⟩
  revert hx
  unfold dec
  by_cases h0 : l = []
  · rw [if_pos h0]; intro h; cases h
  rw [if_neg h0]
  by_cases h1 : Dec.sizeOf (rd l 0) = 0
  · rw [if_pos h1]; intro h; cases h
  rw [if_neg h1]
  by_cases h2 : (l.length : Int) < Dec.sizeOf (rd l 0)
  · rw [if_pos h2]; intro h; cases h
  rw [if_neg h2]
  by_cases h3 : (l.length : Int) > Dec.sizeOf (rd l 0)
  · rw [if_pos h3]; intro h; cases h
  rw [if_neg h3]
  by_cases h4 : getV l 1 8 > 1099511627776
  · rw [if_pos h4]; intro h; cases h
  rw [if_neg h4]
  intro _
  refine ⟨h0, ?_, by omega, rfl⟩
  rcases sizeOf_cases _ h1 with ⟨e, z⟩ | ⟨e, z⟩ | ⟨e, z⟩
  · exact .inl ⟨e, by omega, by rw [if_pos e]⟩
  · exact .inr (.inl ⟨e, by omega, by rw [if_neg (by omega), if_pos e]⟩)
  · exact .inr (.inr ⟨e, by omega, by rw [if_neg (by omega), if_neg (by omega)]⟩)
theorem enc_dec {l : List Int} (hl : Byt l) (hx : (dec l).x = 0) : chk (dec l).k (dec l).t (dec l).s (dec l).a (dec l).b = 0 ∧ encR (dec l).k (dec l).t (dec l).s (dec l).a (dec l).b = l ∧ 9 ≤ l.length := by
  obtain ⟨r, h0, hc, ht, hd⟩ := dec_cases hx
  rw [hd]
  have t0 := (getV_range hl 1 8).1
  have wt := wrap_u64 (x := getV l 1 8) (by omega)
  have tk1 : l.tail = l.tail.take 8 ++ l.drop 9 := by
    have := List.take_append_drop 8 l.tail
    rw [List.drop_tail] at this; exact this.symm
  have hhead : l = rd l 0 :: l.tail := by
    obtain ⟨x, m, rfl⟩ : ∃ x m, l = x :: m := by cases l with | nil => exact absurd rfl h0 | cons x m => exact ⟨x, m, rfl⟩
    rfl
  have tk : ∀ a n : Nat, l.drop a = (l.drop a).take n ++ l.drop (a + n) := fun a n => by rw [← List.drop_drop, List.take_append_drop]
  rcases hc with ⟨e, z, rfl⟩ | ⟨e, z, rfl⟩ | ⟨e, z, rfl⟩
  · have hc : chk 1 (getV l 1 8) 0 0 0 = 0 := by unfold chk; rw [if_pos ⟨t0, ht, .inl ⟨rfl, rfl, rfl, rfl⟩⟩]
    refine ⟨hc, ?_, by omega⟩
    show encR 1 (getV l 1 8) 0 0 0 = l
    unfold encR
    rw [if_pos hc]
    simp [bytesOfEntry, partsOf, piece, wt, wrap_u64 (x := 1) (by omega), one_byte]
    have l1 := lays_mid hl 1 8 (by omega)
    simp only [Int.natCast_one] at l1
    rw [show ((8 : Nat) : Int) = 8 from rfl] at l1
    simp [l1]
    have t5 : l.drop 9 = [] := List.drop_eq_nil_of_le (by omega)
    rw [t5, List.append_nil] at tk1
    rw [← tk1, ← e]
    exact hhead.symm
  · have g1 := getV_range hl 9 4
    have g2 := getV_range hl 13 4
    have g3 := getV_range hl 17 2
    have g1 : 0 ≤ getV l 9 4 ∧ getV l 9 4 < 4294967296 := g1
    have g2 : 0 ≤ getV l 13 4 ∧ getV l 13 4 < 4294967296 := g2
    have g3 : 0 ≤ getV l 17 2 ∧ getV l 17 2 < 65536 := g3
    have hc : chk 2 (getV l 1 8) (getV l 9 4) (getV l 13 4) (getV l 17 2) = 0 := by unfold chk; rw [if_pos ⟨t0, ht, .inr (.inl ⟨rfl, by omega, by omega⟩)⟩]
    refine ⟨hc, ?_, by omega⟩
    show encR 2 (getV l 1 8) (getV l 9 4) (getV l 13 4) (getV l 17 2) = l
    unfold encR
    rw [if_pos hc]
    have l1 := lays_mid hl 1 8 (by omega)
    have l2 := lays_mid hl 9 4 (by omega)
    have l3 := lays_mid hl 13 4 (by omega)
    have l4 := lays_mid hl 17 2 (by omega)
    simp [bytesOfEntry, partsOf, piece, wt, wrap_u64 (x := 2) (by omega), wrap_u64 (x := getV l 9 4) (by omega), wrap_u64 (x := getV l 13 4) (by omega), wrap_u64 (x := getV l 17 2) (by omega), one_byte]
    have l1 : lays (getV l 1 8) 8 = (l.drop 1).take 8 := l1
    have l2 : lays (getV l 9 4) 4 = (l.drop 9).take 4 := l2
    have l3 : lays (getV l 13 4) 4 = (l.drop 13).take 4 := l3
    have l4 : lays (getV l 17 2) 2 = (l.drop 17).take 2 := l4
    simp [l1, l2, l3, l4]
    have t4 : l.drop 17 = (l.drop 17).take 2 := (List.take_of_length_le (by simp; omega)).symm
    rw [← t4, ← tk 13 4, ← tk 9 4, ← tk1, ← e]
    exact hhead.symm
  · have g2 := getV_range hl 9 4
    have g3 := getV_range hl 13 2
    have g2 : 0 ≤ getV l 9 4 ∧ getV l 9 4 < 4294967296 := g2
    have g3 : 0 ≤ getV l 13 2 ∧ getV l 13 2 < 65536 := g3
    have hc : chk 3 (getV l 1 8) 0 (getV l 9 4) (getV l 13 2) = 0 := by unfold chk; rw [if_pos ⟨t0, ht, .inr (.inr ⟨rfl, rfl, by omega, by omega⟩)⟩]
    refine ⟨hc, ?_, by omega⟩
    show encR 3 (getV l 1 8) 0 (getV l 9 4) (getV l 13 2) = l
    unfold encR
    rw [if_pos hc]
    have l1 := lays_mid hl 1 8 (by omega)
    have l3 := lays_mid hl 9 4 (by omega)
    have l4 := lays_mid hl 13 2 (by omega)
    simp [bytesOfEntry, partsOf, piece, wt, wrap_u64 (x := 3) (by omega), wrap_u64 (x := getV l 9 4) (by omega), wrap_u64 (x := getV l 13 2) (by omega), one_byte]
    have l1 : lays (getV l 1 8) 8 = (l.drop 1).take 8 := l1
    have l3 : lays (getV l 9 4) 4 = (l.drop 9).take 4 := l3
    have l4 : lays (getV l 13 2) 2 = (l.drop 13).take 2 := l4
    simp [l1, l3, l4]
    have t4 : l.drop 13 = (l.drop 13).take 2 := (List.take_of_length_le (by simp; omega)).symm
    rw [← t4, ← tk 9 4, ← tk1, ← e]
    exact hhead.symm
end Go.Proofs.Ytinjbfgjfmfibaa.Ent
