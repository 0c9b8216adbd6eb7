/- chapter 18: the document's Top is the highest bits. -/
import Derived.Test.YtkpaibkkigfahaaBd7
namespace Go.Proofs.Ytkpaibkkigfahaa.Bd
open Go.RowKit Go.Proofs.YtkpaibkkigfahaaW.PrintWords Go.Proofs.YtkpaibkkigfahaaW.PrintLast Go.Proofs.YtkpaibkkigfahaaW.PrintMore Go.Proofs.Ytkpaibkkigfahaa.Bs Go.Proofs.Ytkpaibkkigfahaa.Fr Go.Proofs.Ytkpaibkkigfahaa.Mp
open Go.Proofs.Ytkpaibkkigfahaa.PBindLets
set_option linter.unusedVariables false
set_option linter.unusedSimpArgs false
def topR (f1 fa f2 : Int) : Bool := (bailiwickref14_Top.f f1 fa f2).getD true
theorem wrap_nonneg (x : Int) : 0 ≤ IntKind.u64.wrap x := by rw [IntKind.wrap_u64]; omega
theorem top_some (f1 fa f2 : Int) : bailiwickref14_Top.f f1 fa f2 = some (topR f1 fa f2) := by
  unfold topR bailiwickref14_Top.f
  rw [if_pos (wrap_nonneg _)]
  split
  · rfl
  · split <;> rfl
theorem xor_zero' {a b : Nat} : a ^^^ b = 0 ↔ a = b := by
  constructor
  · intro h
    have h2 : (a ^^^ b) ^^^ b = 0 ^^^ b := by rw [h]
    rw [Nat.xor_assoc, Nat.xor_self, Nat.xor_zero, Nat.zero_xor] at h2
    exact h2
  · rintro rfl
    exact Nat.xor_self _
theorem xor_div (a b k : Nat) : (a / 2 ^ k = b / 2 ^ k) ↔ a ^^^ b < 2 ^ k := by
  rw [← Nat.shiftRight_eq_div_pow, ← Nat.shiftRight_eq_div_pow]
  have h1 : (a ^^^ b) >>> k = (a >>> k) ^^^ (b >>> k) := Nat.shiftRight_xor_distrib ..
  have h2 : (a ^^^ b) >>> k = 0 ↔ a ^^^ b < 2 ^ k := by
    rw [Nat.shiftRight_eq_div_pow, Nat.div_eq_zero_iff]
    have : 0 < 2 ^ k := Nat.two_pow_pos k
    omega
  rw [← h2, h1]
  constructor
  · intro h; rw [h, Nat.xor_self]
  · intro h; exact xor_zero'.1 h
theorem top_eq (a b : Nat) (ha : a < 4294967296) (hb : b < 4294967296) (f2 : Int) : topR a b f2 = topF a b f2 := by
  have hx : a ^^^ b < 2 ^ 32 := Nat.xor_lt_two_pow (by omega) (by omega)
  rw [topF_iff a b ha hb]
  unfold topR bailiwickref14_Top.f clampF
  rw [if_pos (wrap_nonneg _)]
  by_cases h1 : f2 ≤ 0
  · rw [if_pos h1, if_neg (by omega), if_neg (by omega)]
    symm
    simp only [Option.getD_some, decide_eq_true_eq]
    rw [show ((32 : Int) - 0).toNat = 32 from rfl]
    exact hx
  · rw [if_neg h1]
    by_cases h2 : f2 ≥ 32
    · rw [if_pos h2]
      have hc : (if 32 < f2 then (32 : Int) else if 0 < f2 then f2 else 0) = 32 := by
        split
        · rfl
        · rw [if_pos (by omega)]; omega
      rw [hc, show ((32 : Int) - 32).toNat = 0 from rfl, Nat.pow_zero, Bool.eq_iff_iff]
      simp only [Option.getD_some, beq_iff_eq, decide_eq_true_eq]
      rw [Int.ofNat_inj, Nat.lt_one_iff, xor_zero']
    · rw [if_neg h2, if_neg (by omega), if_pos (by omega), Bool.eq_iff_iff]
      simp only [Option.getD_some, beq_iff_eq, decide_eq_true_eq]
      have hs : (IntKind.u64.wrap (wrap64 (32 - f2))).toNat = (32 - f2).toNat := by rw [IntKind.wrap_u64]; unfold wrap64; omega
      have hm : min (IntKind.u64.wrap (wrap64 (32 - f2))).toNat 32 = (32 - f2).toNat := by rw [hs]; omega
      show ((a : Int) / 2 ^ min (IntKind.u64.wrap (wrap64 (32 - f2))).toNat 32 = (b : Int) / 2 ^ min (IntKind.u64.wrap (wrap64 (32 - f2))).toNat 32) ↔ _
      rw [hm, ← xor_div, show ((2 : Int) ^ (32 - f2).toNat) = ((2 ^ (32 - f2).toNat : Nat) : Int) by simp, ← Int.natCast_ediv, ← Int.natCast_ediv, Int.ofNat_inj]
end Go.Proofs.Ytkpaibkkigfahaa.Bd
