/- sector.Disk: Write, whatever is handed in, where no outcome waits; a disk that is followed over writes. -/
import Derived.Test.YtdnjjhdhldgcmaaSec12
namespace Go.Proofs.Ytdnjjhdhldgcmaa.Sec
open Go.RowKit Go.Proofs.YtdnjjhdhldgcmaaW.PrintWords Go.Proofs.YtdnjjhdhldgcmaaW.PrintLast Go.Proofs.YtdnjjhdhldgcmaaW.PrintMore Go.Proofs.Ytdnjjhdhldgcmaa.Bs Go.Proofs.Ytdnjjhdhldgcmaa.Fr
set_option linter.unusedVariables false
set_option linter.unusedSimpArgs false

def wr1 (m : DM) (i : Int) (b : List Int) : DM := if 0 ≤ i ∧ i < (m.now.length : Int) ∧ b.length = 64 then wrote m i.toNat b else m
theorem Write_any (w : World) (base g : Nat) (v0 v1 v2 v3 : Value) (m : DM) (h : DV w base g v0 v1 v2 v3 m) (ho : 0 ≤ m.ops ∧ m.ops ≤ 1000000000) (hs : m.since.length ≤ 1000000) (hw : m.wait = []) (i : Int)
    (A : Option Addr) (c : Nat) (b : List Int) (hb : b.length = 64 → ∃ gb, A = some ⟨gb, 0, none⟩ ∧ w.rangeAt gb 0 (encs (Value.int .u8) b) ∧ gb ≠ g) (hg : base ≤ w.heap.size) :
    Calls Try.prog 20 #[.pointer (some ⟨g, 0, none⟩), .int .i64 i, .slice A b.length c] w fun e w' => (∃ x, e = .returned (.int .i64 x)) ∧ ∃ v2' v3', DV w' base g v0 v1 v2' v3' (wr1 m i b) ∧ Fr w w' (foot g v0 v1 v2 v3) ∧ ∀ k, foot g v0 v1 v2' v3' k → foot g v0 v1 v2 v3 k ∨ w.heap.size ≤ k := by
  have hx : outc m = 0 := by unfold outc; rw [hw]
  by_cases hc : 0 ≤ i ∧ i < (m.now.length : Int) ∧ b.length = 64
  · obtain ⟨n, rfl⟩ := Int.eq_ofNat_of_zero_le hc.1
    obtain ⟨gb, rfl, h1, h2⟩ := hb hc.2.2
    rw [hc.2.2]
    refine (Write_done w base g v0 v1 v2 v3 m h ho hs n (by omega) gb c b hc.2.2 h1 (by rw [hx]; decide) hg h2).mono ?_
    rintro e w' ⟨rfl, v2', v3', hd, hf, hft, _⟩
    refine ⟨⟨_, rfl⟩, v2', v3', ?_, hf, hft⟩
    unfold wr1
    rw [if_pos hc, Int.toNat_natCast]
    exact hd
  · refine (Write_bad w base g v0 v1 v2 v3 m h i A b.length c (by omega)).mono ?_
    rintro e w' ⟨rfl, rfl⟩
    refine ⟨⟨_, rfl⟩, v2, v3, ?_, Fr.refl _ _, fun k hk => .inl hk⟩
    unfold wr1
    rw [if_neg hc]
    exact h
/-- What a disk of n sectors is while nothing waits: what is written lies over what is certain. -/
structure Plain (m : DM) (n k : Nat) : Prop where
  wait : m.wait = []
  now : m.now = laid m.sure m.since
  len : m.now.length = n
  ops : 0 ≤ m.ops ∧ m.ops ≤ k
  since : m.since.length ≤ k
theorem Plain.write {m : DM} {n k : Nat} (h : Plain m n k) (i : Int) (b : List Int) : Plain (wr1 m i b) n (k + 1) := by
  unfold wr1
  split
  · rename_i hc
    obtain ⟨q, rfl⟩ := Int.eq_ofNat_of_zero_le hc.1
    refine ⟨?_, ?_, ?_, ?_, ?_⟩
    · show m.wait.tail = []; rw [h.wait]; rfl
    · show m.now.set (q : Int).toNat b = laid m.sure (m.since ++ [(((q : Int).toNat : Int), b)])
      rw [laid_snoc, ← h.now, Int.toNat_natCast, Int.toNat_natCast]
    · show (m.now.set _ b).length = n; rw [List.length_set]; exact h.len
    · show 0 ≤ m.ops + 1 ∧ m.ops + 1 ≤ ((k + 1 : Nat) : Int); have := h.ops; omega
    · show (m.since ++ [_]).length ≤ k + 1; have := h.since; simp; omega
  · exact ⟨h.wait, h.now, h.len, by have := h.ops; omega, by have := h.since; omega⟩
end Go.Proofs.Ytdnjjhdhldgcmaa.Sec
