/- What entry.Decode and the reference's answer: the entry of bytes. -/
import Derived.Test.YtinjbfgjfmfibaaDec0
namespace Go.Proofs.Ytinjbfgjfmfibaa.Dec
open Go.RowKit Go.Proofs.YtinjbfgjfmfibaaW.PrintWords Go.Proofs.YtinjbfgjfmfibaaW.PrintLast Go.Proofs.YtinjbfgjfmfibaaW.PrintMore Go.Proofs.Ytinjbfgjfmfibaa.Oct Go.Proofs.Ytinjbfgjfmfibaa.Bs
set_option linter.unusedVariables false
set_option linter.unusedSimpArgs false

theorem getV_range {l : List Int} (h : Byt l) (at_ n : Int) : 0 ≤ getV l at_ n ∧ getV l at_ n < 256 ^ n.toNat := by
  unfold getV
  split
  · have h1 := beN_range ((h.drop at_.toNat).take n.toNat)
    refine ⟨h1.1, Int.lt_of_lt_of_le h1.2 ?_⟩
    have : ((l.drop at_.toNat).take n.toNat).length ≤ n.toNat := List.length_take_le _ _
    rw [show (256 : Int) = ((256 : Nat) : Int) from rfl, ← Int.natCast_pow, ← Int.natCast_pow]
    exact Int.ofNat_le.mpr (Nat.pow_le_pow_right (by omega) this)
  · refine ⟨by omega, ?_⟩
    rw [show (256 : Int) = ((256 : Nat) : Int) from rfl, ← Int.natCast_pow]
    exact Int.ofNat_lt.mpr (Nat.pow_pos (by omega))

/-- An entry's five numbers and an error's. -/
structure Ent where
  k : Int
  t : Int
  s : Int
  a : Int
  b : Int
  x : Int
def bad (x : Int) : Ent := ⟨0, 0, 0, 0, 0, x⟩
def dec (l : List Int) : Ent :=
  if l = [] then bad 2 else if sizeOf (rd l 0) = 0 then bad 4 else if (l.length : Int) < sizeOf (rd l 0) then bad 2 else if (l.length : Int) > sizeOf (rd l 0) then bad 3
  else if getV l 1 8 > 1099511627776 then bad 1
  else if rd l 0 = 1 then ⟨1, getV l 1 8, 0, 0, 0, 0⟩
  else if rd l 0 = 2 then ⟨2, getV l 1 8, getV l 9 4, getV l 13 4, getV l 17 2, 0⟩
  else ⟨3, getV l 1 8, 0, getV l 9 4, getV l 13 2, 0⟩
def Ent.agg (e : Ent) : Value := .agg #[.int .i64 e.k, .int .i64 e.t, .int .u32 e.s, .int .u32 e.a, .int .i64 e.b]

/-- A reader at block g: its bytes, and its place. -/
def rdCells (A : Option Addr) (n c : Nat) (at_ : Int) : Obj := .cells #[.slice A n c, .int .i64 at_] 80 (0, 0)
set_option maxHeartbeats 1000000 in
set_option maxRecDepth 100000 in
theorem take_calls (g : Nat) (A : Option Addr) (c : Nat) (l : List Int) (at_ n : Int) (w0 w : World) (hB : Below w0.heap.size w0 w) (hg : w0.heap.size ≤ g) (hblk : w.heap[g]? = some (rdCells A l.length c at_)) (hC : Kd.C (Kd.int .u8) w A l.length l) (hc : l.length ≤ c) (hm : l.length ≤ 100000) (hl : Byt l)
    (h0 : 0 ≤ at_ ∧ at_ ≤ 100000 ∧ 1 ≤ n ∧ n ≤ 8) :
    Calls Try.prog 44 #[.pointer (some ⟨g, 0, none⟩), .int .i64 n] w fun e w' => e = .returned (.int .u64 (getV l at_ n)) ∧ w'.heap[g]? = some (rdCells A l.length c (at_ + n)) ∧ KeepBut w w' g none ∧ Below w0.heap.size w0 w' := by
  have hcA : w.cell? ⟨g, 0, none⟩ = some (.slice A l.length c) := blk_cell hblk 0
  have hcB : w.cell? ⟨g, 1, none⟩ = some (.int .i64 at_) := blk_cell hblk 1
  have hfB : w.frozen? ⟨g, 1, none⟩ = false := blk_frozen hblk 1
  have HG := Aside0.mk (Get_calls A c l at_ n)
  have HH := Aside0.mk (And.intro hC (And.intro hc (And.intro (show l.length ≤ 140737488351232 by omega) hl)))
  have HBK := Aside0.mk hblk
  have HB := Aside0.mk hB
  obtain ⟨h01, h02, h03, h04⟩ := h0
  clear hblk hB hC hc hm hl
  go_enter Try.func44, Try.ntmps44
  go_wp2
  go_quiet ((go_at_call 60; exact Calls.quiet_of_same ((HG.out _ (Kd.C_drewN HH.out.1 _) HH.out.2.1 HH.out.2.2.1 HH.out.2.2.2).mono (fun _ _ h => ⟨h.1, h.2.symm⟩))))
  go_wp2
  go_ret
  refine ⟨rfl, ?_, ?_, ?_⟩
  · exact blk_set (show (w.drewN nq).heap[g]? = _ from HBK.out) 1 _
  · exact KeepBut.set_ (KeepBut.refl w g none) 1 _
  · exact (show Below w0.heap.size w0 (w.drewN nq) from pw_below_drewN HB.out nq).setCell hg _
end Go.Proofs.Ytinjbfgjfmfibaa.Dec
