/- strand: empty; sectors, whose iterator hands each sector to a round. -/
import Derived.Test.YtldddinebhopcaaSt4
import Derived.Test.YtldddinebhopcaaDkB
import Derived.Test.YtldddinebhopcaaRg
namespace Go.Proofs.Ytldddinebhopcaa.St
open Go.RowKit Go.Shelf Go.Proofs.YtldddinebhopcaaW.PrintWords Go.Proofs.YtldddinebhopcaaW.PrintLast Go.Proofs.YtldddinebhopcaaW.PrintMore Go.Proofs.Ytldddinebhopcaa.Bs Go.Proofs.Ytldddinebhopcaa.Fr Go.Proofs.Ytldddinebhopcaa.Oct Go.Proofs.Ytldddinebhopcaa.Sec Go.Proofs.Ytldddinebhopcaa.Rg
set_option linter.unusedVariables false
set_option linter.unusedSimpArgs false
attribute [local go_sem] Oper.semAt_some

def blankB (l : List Int) : Bool := l.all (fun x => x == 0)
theorem blank_take {l : List Int} {i : Nat} (h : i < l.length) (hb : blankB (l.take i) = true) : blankB (l.take (i + 1)) = (rd l i == 0) := by
  rw [take_snoc_rd l i h]
  unfold blankB at *
  rw [List.all_append, hb]
  simp
theorem blank_false {l : List Int} {i : Nat} (hb : blankB (l.take i) = false) : blankB l = false := by
  unfold blankB at *
  rw [List.all_eq_false] at hb ⊢
  obtain ⟨x, hx, h⟩ := hb
  exact ⟨x, List.mem_of_mem_take hx, h⟩
set_option maxHeartbeats 1000000 in
set_option maxRecDepth 100000 in
theorem empty_calls (A : Option Addr) (c : Nat) (l : List Int) (w : World) (hC : Kd.C (Kd.int .u8) w A l.length l) (hm : l.length ≤ 1000000) :
    Calls Try.prog 43 #[.slice A l.length c] w fun e w' => e = .returned (.bool (blankB l)) ∧ w = w' := by
  have HC := Aside0.mk hC
  clear hC
  go_enter Try.func43, Try.ntmps43
  go_upto_region 2 with fail
  go_loopg [7] l.length (fun q v7 wr => ∃ i : Nat, v7 = .int .i64 (i : Int) ∧ Aside0 (i + q = l.length) ∧ Aside0 (blankB (l.take i) = true) ∧ wr = w)
  case atStart => exact ⟨0, rfl, ⟨by omega⟩, ⟨rfl⟩, rfl⟩
  case round =>
    obtain ⟨i, rfl, Hi, HBL, rfl⟩ := hrel
    cases gk with
    | zero =>
      have hlt : ¬ ((i : Int) < (l.length : Int)) := by have := Hi.out; omega
      have hlb := decide_eq_false hlt
      have HF : Aside0 (blankB l = true) := ⟨by have h := HBL.out; rw [List.take_of_length_le (by have := Hi.out; omega)] at h; exact h⟩
      go_wp2
      go_ret
      exact ⟨by rw [HF.out]; rfl, rfl⟩
    | succ q =>
      have hlt : (i : Int) < (l.length : Int) := by have := Hi.out; omega
      have hlb := decide_eq_true hlt
      have hi0 : (0 : Int) ≤ i ∧ (i : Int) < (l.length : Int) := ⟨by omega, hlt⟩
      have hil : (i : Int) ≤ 1000000 := by omega
      obtain ⟨ad, e1, cb⟩ := at_one HC.out (i : Int) (by omega) hlt
      subst e1
      rw [Int.toNat_natCast] at cb
      have HT := Aside0.mk (blank_take (l := l) (i := i) (by omega) HBL.out)
      by_cases hz : rd l i = 0
      · have hzb : (rd l i != 0) = false := by simpa using hz
        have HT2 : Aside0 (blankB (l.take (i + 1)) = true) := ⟨by rw [HT.out]; simpa using hz⟩
        clear hz
        go_wp2
        go_roundg q
        case measure => omega
        case rel => exact ⟨i + 1, by go_num, ⟨by have := Hi.out; omega⟩, HT2, rfl⟩
      · have hzb : (rd l i != 0) = true := by simpa using hz
        have HT2 : Aside0 (blankB l = false) := ⟨blank_false (i := i + 1) (by rw [HT.out]; simpa using hz)⟩
        clear hz
        go_wp2
        go_ret
        exact ⟨by rw [HT2.out]; rfl, rfl⟩
set_option maxHeartbeats 1000000 in
theorem sectors_calls (p : Option Addr) (w : World) : Calls Try.prog 42 #[.pointer p] w fun e w' => e = .returned (.func (.func 60) #[] #[.pointer (some ⟨w.heap.size, 0, none⟩)]) ∧ w' = w.alloc (.cells #[.pointer p] 27) := by
  go_enter Try.func42, Try.ntmps42
  go_wp2
  go_ret
  exact ⟨rfl, rfl⟩
/-- What a round is told of the slice that it is handed. -/
def Gd (m : DM) (B i : Nat) (v : Value) (W : World) : Prop := ∃ g2, v = .slice (some ⟨g2, 0, none⟩) 64 64 ∧ B ≤ g2 ∧ W.heap[g2]? = some (.cells (encs (Value.int .u8) (m.now.getD i zB)).toArray 94 (0, 0))
def Dd (base gd : Nat) (v0 v1 v2 v3 : Value) (m : DM) (bx B : Nat) (W : World) : Prop := DV W base gd v0 v1 v2 v3 m ∧ W.cell? ⟨bx, 0, none⟩ = some (.pointer (some ⟨gd, 0, none⟩)) ∧ B ≤ W.heap.size
set_option maxRecDepth 100000 in
set_option maxHeartbeats 2000000 in
theorem sectors_seq (n : Nat) (hn : 1 ≤ n) (base gd : Nat) (v0 v1 v2 v3 : Value) (m : DM) (bx B : Nat) (hN : m.now.length ≤ 4096) :
    SeqD Fence.wide n Try.prog 60 #[.pointer (some ⟨bx, 0, none⟩)] m.now.length (Gd m B) (Dd base gd v0 v1 v2 v3 m bx B) := by
  intro l J W hD hJ hY h0
  have hD0 := hD 0 W h0
  refine callsIn_of_wp Try.func60 rfl trivial ?_ rfl
  simp only [Try.ntmps60, List.size_toArray, List.length_cons, List.length_nil, Nat.reduceAdd, Nat.reduceSub, Array.replicate_succ, Array.replicate_zero, List.push_toArray, List.append_toArray, List.nil_append, List.cons_append]
  have kb := hD0.2.1
  have HD0 := Aside0.mk hD0
  have HD := Aside0.mk hD
  have HJ := Aside0.mk hJ
  have HY := Aside0.mk hY
  clear hD0 hD hJ hY
  gi_wp2_with (refine ⟨trivial, ?_⟩; gi_at_call 37; refine (callsIn_wide.2 (Size_calls _ _ _ _ _ _ _ m HD0.out.1)).mono ?_; rintro e w1 ⟨rfl, rfl⟩)
  gi_loopw [8] (fun i wr => ∃ k : Nat, k ≤ m.now.length ∧ i = .int .i64 k ∧ Aside0 (J k wr)) (fun i _ => m.now.length - (intOf i).toNat)
  case atStart => exact ⟨0, Nat.zero_le _, rfl, ⟨h0⟩⟩
  case round =>
    obtain ⟨k, hk, rfl, hJs⟩ := hrel
    have HDk := Aside0.mk (HD.out k wr hJs.out)
    have kb1 := HDk.out.2.1
    by_cases hlt : k < m.now.length
    · have hlb : decide ((k : Int) < (m.now.length : Int)) = true := decide_eq_true (by omega)
      have HLT := Aside0.mk hlt
      gi_wp2_with (refine ⟨trivial, ?_⟩; gi_at_call 38; refine (callsIn_wide.2 (Read_calls _ _ _ _ _ _ _ m HDk.out.1 k HLT.out)).mono ?_; rintro e w2 ⟨g2, rfl, hg2, hx2, _, hb2⟩; have HG2 := Aside0.mk hg2; have HX2 := Aside0.mk hx2; have HB2 := Aside0.mk hb2; clear hg2 hx2 hb2)
      obtain ⟨fn, tmps, assign, body, hy, hR⟩ := HY.out k (.slice (some ⟨g2, 0, none⟩) 64 64) w2 HLT.out (HJ.out k wr w2 hJs.out HB2.out) ⟨g2, rfl, Nat.le_trans HDk.out.2.2 HG2.out, HX2.out⟩
      gi_wp2
      rw [hy]
      refine ⟨fun _ => hn, ?_⟩
      refine hR.mono ?_
      rintro e W3 ⟨rfl, hJ3⟩
      have HJ3 := Aside0.mk hJ3
      clear hJ3
      gi_wp2
      go_roundw
      case rel => exact ⟨k + 1, by omega, by go_num, HJ3⟩
      case measure => simp [intOf]; omega
    · obtain rfl : k = m.now.length := by omega
      have hlb : decide (((m.now.length : Nat) : Int) < (m.now.length : Int)) = false := decide_eq_false (by omega)
      gi_wp2
      go_end0
      exact ⟨⟨_, rfl⟩, hJs.out⟩
end Go.Proofs.Ytldddinebhopcaa.St
