/- Bytes as numbers (the plain part of Oct0). -/
import Derived.Test.YtldddinebhopcaaBase
namespace Go.Proofs.Ytldddinebhopcaa.Oct
open Go.RowKit Go.Proofs.YtldddinebhopcaaW.PrintWords Go.Proofs.YtldddinebhopcaaW.PrintLast Go.Proofs.YtldddinebhopcaaW.PrintMore
set_option linter.unusedVariables false
set_option linter.unusedSimpArgs false

theorem info_u8 : (Try.prog.info? 5).map (fun i => (i.zero, i.size, i.bytes)) = some (some (.int .u8 0), 1, 1) := by kernel_rfl

/-- Bytes as a number, the highest first. -/
def beN (l : List Int) : Int := l.foldl (fun x c => x * 256 + c) 0
def Byt (l : List Int) : Prop := ∀ x ∈ l, 0 ≤ x ∧ x ≤ 255
theorem beN_snoc (l : List Int) (c : Int) : beN (l ++ [c]) = beN l * 256 + c := by simp [beN]
theorem Byt.take {l : List Int} (h : Byt l) (n : Nat) : Byt (l.take n) := fun x hx => h x (List.mem_of_mem_take hx)
theorem Byt.drop {l : List Int} (h : Byt l) (n : Nat) : Byt (l.drop n) := fun x hx => h x (List.mem_of_mem_drop hx)
theorem Byt.rd {l : List Int} (h : Byt l) (i : Nat) : 0 ≤ rd l i ∧ rd l i ≤ 255 := by
  unfold Go.Proofs.YtldddinebhopcaaW.PrintWords.rd
  rw [List.getD_eq_getElem?_getD]
  by_cases hi : i < l.length
  · simp only [Int.toNat_natCast, List.getElem?_eq_getElem hi, Option.getD_some]
    exact h _ (List.getElem_mem hi)
  · simp only [Int.toNat_natCast, List.getElem?_eq_none (by omega : l.length ≤ i), Option.getD_none]
    omega
theorem rd_drop (l : List Int) (a i : Nat) : rd (l.drop a) i = rd l (a + i : Nat) := by
  have h1 : ((a : Int) + (i : Int)).toNat = a + i := by omega
  unfold rd; simp [List.getD_eq_getElem?_getD, h1]
theorem rd_take (l : List Int) (a i : Nat) (h : i < a) : rd (l.take a) i = rd l i := by
  unfold rd; simp [List.getD_eq_getElem?_getD, List.getElem?_take, h]
theorem beN_range {l : List Int} (h : Byt l) : 0 ≤ beN l ∧ beN l < 256 ^ l.length := by
  obtain ⟨n, hn⟩ : ∃ n, n = l.length := ⟨_, rfl⟩
  induction n generalizing l with
  | zero =>
    have : l = [] := List.length_eq_zero_iff.mp hn.symm
    subst this; simp [beN]
  | succ n ih =>
    obtain ⟨l', c, rfl⟩ : ∃ l' c, l = l' ++ [c] := ⟨l.dropLast, l.getLast (by intro e; simp [e] at hn), (List.dropLast_concat_getLast _).symm⟩
    have h1 := ih (fun x hx => h x (List.mem_append_left _ hx)) (by simpa using hn)
    have h2 := h c (by simp)
    rw [beN_snoc, List.length_append, List.length_singleton, Int.pow_succ]
    omega
theorem take_snoc_rd (l : List Int) (i : Nat) (h : i < l.length) : l.take (i + 1) = l.take i ++ [rd l i] := by
  rw [List.take_succ_eq_append_getElem h]
  congr 2
  unfold rd; simp [List.getD_eq_getElem?_getD, List.getElem?_eq_getElem h]
theorem pow_le (n : Nat) (h : n ≤ 7) : (256 : Int) ^ n ≤ 72057594037927936 := by
  have : n = 0 ∨ n = 1 ∨ n = 2 ∨ n = 3 ∨ n = 4 ∨ n = 5 ∨ n = 6 ∨ n = 7 := by omega
  rcases this with rfl | rfl | rfl | rfl | rfl | rfl | rfl | rfl <;> decide
theorem or_byte (x c : Int) (hx : 0 ≤ x ∧ x < 72057594037927936) (hc : 0 ≤ c ∧ c ≤ 255) : Go.bits .or .u64 (x * 256) c = x * 256 + c := by
  rw [u64_or _ _ (by omega) (by omega) (by omega) (by omega)]
  obtain ⟨m, rfl⟩ := Int.eq_ofNat_of_zero_le hx.1
  obtain ⟨n, rfl⟩ := Int.eq_ofNat_of_zero_le hc.1
  have h3 : ((m : Int) * 256).toNat = 2 ^ 8 * m := by omega
  rw [h3, Int.toNat_natCast, ← Nat.two_pow_add_eq_or_of_lt (by omega : n < 2 ^ 8)]
  omega
end Go.Proofs.Ytldddinebhopcaa.Oct
