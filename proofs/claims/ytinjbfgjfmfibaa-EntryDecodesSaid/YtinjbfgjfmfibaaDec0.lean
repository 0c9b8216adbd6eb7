/- What entry.Decode and the reference's answer: the entry of bytes. -/
import Derived.Test.YtinjbfgjfmfibaaOct0
namespace Go.Proofs.Ytinjbfgjfmfibaa.Dec
open Go.RowKit Go.Proofs.YtinjbfgjfmfibaaW.PrintWords Go.Proofs.YtinjbfgjfmfibaaW.PrintLast Go.Proofs.YtinjbfgjfmfibaaW.PrintMore Go.Proofs.Ytinjbfgjfmfibaa.Oct Go.Proofs.Ytinjbfgjfmfibaa.Bs
set_option linter.unusedVariables false
set_option linter.unusedSimpArgs false

def sizeOf (k : Int) : Int := if k = 1 then 9 else if k = 2 then 19 else if k = 3 then 15 else 0
set_option maxRecDepth 100000 in
theorem size_calls (k : Int) (w : World) : Calls Try.prog 43 #[.int .u8 k] w fun e w' => e = .returned (.int .i64 (sizeOf k)) ∧ w = w' := by
  by_cases h1 : k = 1
  · subst h1
    go_enter Try.func43, Try.ntmps43
    go_wp2
    go_ret
    exact ⟨rfl, rfl⟩
  · by_cases h2 : k = 2
    · subst h2
      go_enter Try.func43, Try.ntmps43
      go_wp2
      go_ret
      exact ⟨rfl, rfl⟩
    · by_cases h3 : k = 3
      · subst h3
        go_enter Try.func43, Try.ntmps43
        go_wp2
        go_ret
        exact ⟨rfl, rfl⟩
      · have hf : Aside0 (sizeOf k = 0) := ⟨by simp [sizeOf, h1, h2, h3]⟩
        have h1b : (k == 1) = false := beq_eq_false_iff_ne.mpr h1
        have h2b : (k == 2) = false := beq_eq_false_iff_ne.mpr h2
        have h3b : (k == 3) = false := beq_eq_false_iff_ne.mpr h3
        clear h1 h2 h3
        go_enter Try.func43, Try.ntmps43
        go_wp2
        go_ret
        exact ⟨by rw [hf.out]; rfl, rfl⟩
set_option maxRecDepth 100000 in
theorem refsize_calls (k : Int) (w : World) : Calls Try.prog 45 #[.int .i64 k] w fun e w' => e = .returned (.int .i64 (sizeOf k)) ∧ w = w' := by
  by_cases h1 : k = 1
  · subst h1
    go_enter Try.func45, Try.ntmps45
    go_wp2
    go_ret
    exact ⟨rfl, rfl⟩
  · by_cases h2 : k = 2
    · subst h2
      go_enter Try.func45, Try.ntmps45
      go_wp2
      go_ret
      exact ⟨rfl, rfl⟩
    · by_cases h3 : k = 3
      · subst h3
        go_enter Try.func45, Try.ntmps45
        go_wp2
        go_ret
        exact ⟨rfl, rfl⟩
      · have hf : Aside0 (sizeOf k = 0) := ⟨by simp [sizeOf, h1, h2, h3]⟩
        have h1b : (k == 1) = false := beq_eq_false_iff_ne.mpr h1
        have h2b : (k == 2) = false := beq_eq_false_iff_ne.mpr h2
        have h3b : (k == 3) = false := beq_eq_false_iff_ne.mpr h3
        clear h1 h2 h3
        go_enter Try.func45, Try.ntmps45
        go_wp2
        go_ret
        exact ⟨by rw [hf.out]; rfl, rfl⟩

set_option maxHeartbeats 1000000 in
set_option maxRecDepth 100000 in
/-- The reference's Get, where the bytes are there. -/
theorem refGet_calls (A : Option Addr) (c : Nat) (l : List Int) (at_ n : Int) (w : World) (hC : Kd.C (Kd.int .u8) w A l.length l) (hc : l.length ≤ c) (hm : l.length ≤ 140737488351232) (hl : Byt l) (hy : mayB l.length at_ n = true) :
    Calls Try.prog 46 #[.slice A l.length c, .int .i64 at_, .int .i64 n] w fun e w' => e = .returned (.tuple #[.int .u64 (getV l at_ n), .bool true]) ∧ w = w' := by
  obtain ⟨h1, h2, h3, h4⟩ : 1 ≤ n ∧ n ≤ 8 ∧ 0 ≤ at_ ∧ at_ + n ≤ (l.length : Int) := by
    unfold mayB at hy
    exact of_decide_eq_true hy
  have hv : Aside0 (getV l at_ n = beN ((l.drop at_.toNat).take n.toNat)) := ⟨by unfold getV; rw [if_pos hy]⟩
  obtain ⟨a, rfl⟩ := Int.eq_ofNat_of_zero_le h3
  obtain ⟨m, rfl⟩ := Int.eq_ofNat_of_zero_le (by omega : 0 ≤ n)
  have HC := Aside0.mk hC
  have HL := Aside0.mk hl
  have h1b : decide ((m : Int) < 1) = false := decide_eq_false (by omega)
  have h2b : decide ((m : Int) > 8) = false := decide_eq_false (by omega)
  have h3b : decide ((a : Int) < 0) = false := decide_eq_false (by omega)
  have h4b : decide ((a : Int) > (l.length : Int) - (m : Int)) = false := decide_eq_false (by omega)
  clear hC hl hy
  go_enter Try.func46, Try.ntmps46
  go_wp2
  go_loopg [8, 9] m (fun q v8 v9 wr => ∃ i : Nat, v9 = .int .i64 i ∧ v8 = .int .u64 (beN ((l.drop a).take i)) ∧ Aside0 (i + q = m) ∧ wr = w)
  case atStart => exact ⟨0, rfl, rfl, ⟨by omega⟩, rfl⟩
  case round =>
    obtain ⟨i, rfl, rfl, Hi, rfl⟩ := hrel
    cases gk with
    | zero =>
      have hlt : ¬ ((i : Int) < (m : Int)) := by have := Hi.out; omega
      have hfin : Aside0 (beN ((l.drop a).take i) = getV l a m) := ⟨by
        rw [hv.out]; congr 2; have := Hi.out; omega⟩
      clear hv
      go_wp2
      go_ret2
      exact ⟨by rw [← hfin.out]; rfl, rfl⟩
    | succ q =>
      have hlt : (i : Int) < (m : Int) := by have := Hi.out; omega
      have hlb := decide_eq_true hlt
      have hai : ((a : Int) + (i : Int)) < (l.length : Int) := by omega
      obtain ⟨ad, e1, hcell⟩ := (Kd.reads_of_C (d := (0 : Int)) HC.out).at_ ((a : Int) + (i : Int)) (by omega) hai
      subst e1
      have e2 : ((a : Int) + (i : Int)).toNat = a + i := by omega
      have hcell' : wr.cell? (ad.add (a + i)) = some (.int .u8 (rd l (a + i : Nat))) := by rw [e2] at hcell; exact hcell
      have hr := HL.out.rd (a + i)
      have hx := beN_range ((HL.out.drop a).take i)
      have hxp := pow_le i (by omega)
      have hx7 : 0 ≤ beN ((l.drop a).take i) ∧ beN ((l.drop a).take i) < 72057594037927936 := by
        rw [List.length_take, List.length_drop, Nat.min_eq_left (by omega)] at hx; omega
      have hor := or_byte _ _ hx7 hr
      have hst : Aside0 (beN ((l.drop a).take (i + 1)) = beN ((l.drop a).take i) * 256 + rd l (a + i : Nat)) := ⟨by rw [take_snoc_rd _ _ (by rw [List.length_drop]; omega), beN_snoc, rd_drop]⟩
      generalize beN ((l.drop a).take i) = x at *
      generalize rd l (a + i : Nat) = cc at *
      clear hx hxp hcell e2
      go_wp2
      go_roundg q
      case measure => omega
      case rel => exact ⟨i + 1, by go_num, by rw [hst.out], ⟨by have := Hi.out; omega⟩, rfl⟩
end Go.Proofs.Ytinjbfgjfmfibaa.Dec
