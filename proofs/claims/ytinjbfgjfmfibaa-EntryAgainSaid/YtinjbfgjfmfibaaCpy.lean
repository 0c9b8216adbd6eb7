/- bailiwickref1.Copy: bytes in new memory. -/
import Derived.Test.YtinjbfgjfmfibaaOct0
namespace Go.Proofs.Ytinjbfgjfmfibaa.Oct
open Go.RowKit Go.Proofs.YtinjbfgjfmfibaaW.PrintWords Go.Proofs.YtinjbfgjfmfibaaW.PrintLast Go.Proofs.YtinjbfgjfmfibaaW.PrintMore Go.Proofs.Ytinjbfgjfmfibaa.Bs
set_option linter.unusedVariables false
set_option linter.unusedSimpArgs false
set_option maxHeartbeats 1000000 in
set_option maxRecDepth 100000 in
theorem Copy_calls (A : Option Addr) (c : Nat) (l : List Int) (w : World) (hC : Kd.C (Kd.int .u8) w A l.length l) (hc : l.length ≤ c) (hm : l.length ≤ 140737488351232) :
    Calls Try.prog 29 #[.slice A l.length c] w fun e w' => ∃ v, e = .returned v ∧ Kd.R (Kd.int .u8) 5 w' w.heap.size (fun k => w.heap.size ≤ k) v l ∧ Below w.heap.size w w' := by
  have HC := Aside0.mk hC
  have HM := Aside0.mk hm
  clear hC
  have HR : Aside0 (Kd.R (Kd.int .u8) 5 w w.heap.size (fun k => w.heap.size ≤ k) (.slice none 0 0) (l.take 0)) := ⟨Kd.R_nil _ _ _ _ _⟩
  have HB : Aside0 (Below w.heap.size w w) := ⟨Below.refl _ _⟩
  go_enter Try.func29, Try.ntmps29
  go_wp2
  go_loopg [3, 4] l.length (fun q v3 v4 wr => ∃ (i : Nat) (m : List Int), v4 = .int .i64 i ∧ Aside0 (i + q = l.length) ∧ Aside0 (m = l.take i) ∧ Aside0 (Kd.R (Kd.int .u8) 5 wr w.heap.size (fun k => w.heap.size ≤ k) v3 m) ∧ Aside0 (Below w.heap.size w wr))
  case atStart => exact ⟨0, _, rfl, ⟨by omega⟩, ⟨rfl⟩, HR, HB⟩
  case round =>
    clear HR HB
    obtain ⟨i, m, rfl, Hi, Hm, HR, HB⟩ := hrel
    cases gk with
    | zero =>
      have hlt : ¬ ((i : Int) < (l.length : Int)) := by have := Hi.out; omega
      have hml : Aside0 (m = l) := ⟨by rw [Hm.out, List.take_of_length_le (by have := Hi.out; omega)]⟩
      go_wp2
      go_ret
      exact ⟨_, rfl, by rw [← hml.out]; exact HR.out, HB.out⟩
    | succ q =>
      have hlt : (i : Int) < (l.length : Int) := by have := Hi.out; omega
      have hi0 : (0 : Int) ≤ i := by omega
      obtain ⟨ad, e1, hcell⟩ := (Kd.reads_of_C (d := (0 : Int)) (Kd.C_below HC.out HB.out)).at_ i hi0 hlt
      subst e1
      have hcell' : wr.cell? (ad.add i) = some (.int .u8 (rd l i)) := hcell
      have Hm2 : Aside0 (m ++ [rd l i] = l.take (i + 1)) := ⟨by rw [Hm.out, take_snoc_rd l i (by omega)]⟩
      have HL : Aside0 ((m.length + 1) * 1 ≤ 140737488355328) := ⟨by
        have h1 := HM.out
        have h2 : m.length ≤ l.length := by rw [Hm.out]; exact List.length_take_le' _ _
        omega⟩
      generalize rd l i = x at *
      clear hcell
      go_wp2_with (at_builtin; refine Kd.R_append (Kd.int .u8) (w0 := w) w.heap.size rfl (.tmp 11) (.tmp 16) 28 5 (.int .u8 0) 1 rfl Try.underlying28 info_u8 rfl (Nat.succ_pos _) (Nat.succ_pos _) _ m x [.int .u8 x] (fun k => w.heap.size ≤ k) (fun _ => False) rfl rfl rfl (fun _ hk => hk.elim) (fun k hk => Nat.le_trans HB.out.size hk) HR.out HB.out HB.out.size HL.out ?_; intro v1 w1 hr hb hg hat; have F1 := Aside0.mk hr; have F2 := Aside0.mk hb; clear hr hb hg hat HR HB)
      go_roundg q
      case measure => omega
      case rel => exact ⟨i + 1, _, by go_num, ⟨by have := Hi.out; omega⟩, Hm2, F1, F2⟩
end Go.Proofs.Ytinjbfgjfmfibaa.Oct
