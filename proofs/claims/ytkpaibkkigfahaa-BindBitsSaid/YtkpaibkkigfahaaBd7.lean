/- chapter 18: BindBits: the plain law. -/
import Derived.Test.YtkpaibkkigfahaaBd4
import Derived.Laws.BitsAllLaws
namespace Go.Proofs.Ytkpaibkkigfahaa.Bd
open Go.RowKit Go.Proofs.YtkpaibkkigfahaaW.PrintWords Go.Proofs.YtkpaibkkigfahaaW.PrintLast Go.Proofs.YtkpaibkkigfahaaW.PrintMore Go.Proofs.Ytkpaibkkigfahaa.Bs Go.Proofs.Ytkpaibkkigfahaa.Fr Go.Proofs.Ytkpaibkkigfahaa.Mp
set_option linter.unusedVariables false
set_option linter.unusedSimpArgs false
theorem wf_u32 {x : Int} (h : (Lit.int .u32 x).wf = true) : 0 ≤ x ∧ x < 4294967296 := by
  simp only [Lit.wf, Bool.and_eq_true, decide_eq_true_eq] at h
  have h1 : IntKind.u32.min = 0 := rfl
  have h2 : IntKind.u32.max = 4294967295 := rfl
  omega
theorem xo_nat (a b : Nat) (ha : a < 4294967296) (hb : b < 4294967296) : xo (a : Int) (b : Int) = ((a ^^^ b : Nat) : Int) := by
  unfold xo
  rw [IntKind.wrap_u64, IntKind.wrap_u64, show (a : Int) % 18446744073709551616 = a by omega, show (b : Int) % 18446744073709551616 = b by omega]
  exact u64_xor_nat a b (by omega) (by omega)
theorem top_self (a : Nat) (ha : a < 4294967296) (f2 : Int) : topF a a f2 = true := by
  unfold topF
  rw [xo_nat a a ha ha, Nat.xor_self]
  split
  · rfl
  · split
    · simp
    · rfl
def clampF (f2 : Int) : Int := if 32 < f2 then 32 else if 0 < f2 then f2 else 0
theorem div_zero_iff (x k : Nat) : (((x : Nat) : Int) / (2 : Int) ^ k = 0) ↔ x < 2 ^ k := by
  rw [show ((2 : Int) ^ k) = ((2 ^ k : Nat) : Int) by simp, ← Int.natCast_ediv]
  rw [show ((0 : Int)) = ((0 : Nat) : Int) from rfl, Int.ofNat_inj, Nat.div_eq_zero_iff]
  have : 0 < 2 ^ k := Nat.two_pow_pos k
  omega
/-- How many bits: the number of places shifted. -/
theorem topF_iff (a b : Nat) (ha : a < 4294967296) (hb : b < 4294967296) (f2 : Int) : topF a b f2 = decide (a ^^^ b < 2 ^ (32 - clampF f2).toNat) := by
  have hx : a ^^^ b < 2 ^ 32 := Nat.xor_lt_two_pow (by omega) (by omega)
  unfold topF clampF
  rw [xo_nat a b ha hb]
  by_cases h1 : 32 < f2
  · rw [if_pos h1, if_pos h1, Bool.eq_iff_iff]
    simp only [beq_iff_eq, decide_eq_true_eq]
    rw [show ((32 : Int) - 32).toNat = 0 from rfl, Nat.pow_zero]
    omega
  · rw [if_neg h1, if_neg h1]
    by_cases h2 : 0 < f2
    · rw [if_pos h2, if_pos h2, Bool.eq_iff_iff]
      simp only [beq_iff_eq, decide_eq_true_eq]
      exact div_zero_iff _ _
    · rw [if_neg h2, if_neg h2, Bool.eq_iff_iff]
      simp only [beq_iff_eq, decide_eq_true_eq]
      rw [show ((32 : Int) - 0).toNat = 32 from rfl]
      omega
theorem clamp_le (f2 : Int) : 0 ≤ clampF f2 ∧ clampF f2 ≤ 32 := by unfold clampF; split; omega; split <;> omega
theorem lets_self (a : Nat) (ha : a < 4294967296) (f2 f3 : Int) : letsF [((a : Int), f2, f3)] a f3 = true := by
  unfold letsF okF
  simp [top_self a ha]
theorem lets_nil (fa fp : Int) : letsF [] fa fp = true := by simp [letsF]
theorem lets_port (f1 f2 f3 fa fp : Int) (h1 : f3 ≠ 0) (h2 : fp ≠ f3) : letsF [(f1, f2, f3)] fa fp = false := by
  unfold letsF okF
  simp only [List.any_cons, List.any_nil, Bool.or_false, beq_eq_false_iff_ne.mpr h1, beq_eq_false_iff_ne.mpr (Ne.symm h2), Bool.false_and]
  rfl
theorem lets_flip (a k : Nat) (ha : a < 4294967296) (hk : k ≤ 31) (f2 f3 : Int) : letsF [((a : Int), f2, f3)] ((a ^^^ 2 ^ (31 - k) : Nat) : Int) f3 = decide ((k : Int) ≥ clampF f2) := by
  have hp : 2 ^ (31 - k) < 2 ^ 32 := Nat.pow_lt_pow_right (by omega) (by omega)
  have hb : a ^^^ 2 ^ (31 - k) < 2 ^ 32 := Nat.xor_lt_two_pow (by omega) (by omega)
  have hc := clamp_le f2
  unfold letsF okF
  simp only [List.any_cons, List.any_nil, Bool.or_false, beq_self_eq_true, Bool.or_true, Bool.true_and, List.length_singleton]
  rw [topF_iff _ _ ha (by omega), ← Nat.xor_assoc, Nat.xor_self, Nat.zero_xor, Bool.eq_iff_iff]
  simp only [Bool.or_eq_true, decide_eq_true_eq]
  rw [Nat.pow_lt_pow_iff_right (by omega)]
  omega
theorem lets_more (a b : Nat) (ha : a < 4294967296) (hb : b < 4294967296) (f2 f3 fp : Int) (h : letsF [((a : Int), clampF f2 + 1, f3)] b fp = true) : letsF [((a : Int), f2, f3)] b fp = true := by
  have hc := clamp_le f2
  unfold letsF okF at h ⊢
  simp only [List.any_cons, List.any_nil, Bool.or_false, List.length_singleton] at h ⊢
  rw [topF_iff _ _ ha hb] at h ⊢
  simp only [Bool.or_eq_true, Bool.and_eq_true, decide_eq_true_eq] at h ⊢
  rcases h with ⟨h1, h2⟩ | h
  · refine .inl ⟨h1, Nat.lt_of_lt_of_le h2 (Nat.pow_le_pow_right (by omega) ?_)⟩
    have hcc : clampF (clampF f2 + 1) ≥ clampF f2 := by
      unfold clampF
      split
      · rw [if_pos (by omega)]; omega
      · split
        · split
          · omega
          · rw [if_pos (by omega)]; omega
        · split
          · omega
          · split <;> omega
    omega
  · exact .inr h
theorem and31 (at_ : Int) : ∃ k : Nat, bits .and .i64 at_ 31 = (k : Int) ∧ k ≤ 31 := by
  refine ⟨(BitVec.ofInt 64 at_ &&& BitVec.ofInt 64 31).toNat, ?_, ?_⟩
  · show IntKind.i64.wrap ((BitVec.ofInt 64 at_ &&& BitVec.ofInt 64 31).toNat : Int) = _
    have h : (BitVec.ofInt 64 at_ &&& BitVec.ofInt 64 31).toNat ≤ 31 := by
      rw [BitVec.toNat_and]
      exact Nat.le_trans Nat.and_le_right (by decide)
    rw [i64_w]
    unfold wrap64
    omega
  · rw [BitVec.toNat_and]
    exact Nat.le_trans Nat.and_le_right (by decide)
theorem shift_eq (k : Nat) (hk : k ≤ 31) : (2 : Int) ^ min (IntKind.u64.wrap (wrap64 (31 - (k : Int)))).toNat 32 % 4294967296 = ((2 ^ (31 - k) : Nat) : Int) := by
  have h1 : wrap64 (31 - (k : Int)) = ((31 - k : Nat) : Int) := by unfold wrap64; omega
  have h2 : 2 ^ (31 - k) < 2 ^ 32 := Nat.pow_lt_pow_right (by omega) (by omega)
  rw [h1, IntKind.wrap_u64, show (((31 - k : Nat) : Int) % 18446744073709551616).toNat = 31 - k by omega, Nat.min_eq_left (by omega)]
  rw [show ((2 : Int) ^ (31 - k)) = ((2 ^ (31 - k) : Nat) : Int) by simp]
  generalize 2 ^ (31 - k) = z at *
  omega
theorem flip_eq (n k : Nat) (hn : n < 4294967296) (hk : k ≤ 31) : bits .xor .u32 (n : Int) ((2 : Int) ^ min (IntKind.u64.wrap (wrap64 (31 - (k : Int)))).toNat 32 % 4294967296) = ((n ^^^ 2 ^ (31 - k) : Nat) : Int) := by
  have h2 : 2 ^ (31 - k) < 2 ^ 32 := Nat.pow_lt_pow_right (by omega) (by omega)
  rw [shift_eq k hk]
  exact u32_xor_nat n _ hn (by omega)
end Go.Proofs.Ytkpaibkkigfahaa.Bd
