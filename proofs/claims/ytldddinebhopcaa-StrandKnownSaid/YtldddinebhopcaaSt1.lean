/- strand.Frame. -/
import Derived.Test.YtldddinebhopcaaSt0
namespace Go.Proofs.Ytldddinebhopcaa.St
open Go.RowKit Go.Proofs.YtldddinebhopcaaW.PrintWords Go.Proofs.YtldddinebhopcaaW.PrintLast Go.Proofs.YtldddinebhopcaaW.PrintMore Go.Proofs.Ytldddinebhopcaa.Bs Go.Proofs.Ytldddinebhopcaa.Fr Go.Proofs.Ytldddinebhopcaa.Oct
set_option linter.unusedVariables false
set_option linter.unusedSimpArgs false

def be4 (c : Int) : List Int := [c / 16777216, c / 65536 % 256, c / 256 % 256, c % 256]
def frameL (b : List Int) : List Int := [90, (b.length : Int)] ++ b ++ (be4 (crcN b) ++ [165])
theorem frameL_len (b : List Int) : (frameL b).length = b.length + 7 := by
  unfold frameL be4
  simp
set_option maxHeartbeats 1000000 in
set_option maxRecDepth 100000 in
theorem Frame_nil (A : Option Addr) (c : Nat) (w : World) :
    Calls Try.prog 11 #[.slice A 0 c] w fun e w' => e = .returned (.tuple #[.slice none 0 0, .int .i64 1]) ∧ w = w' := by
  go_enter Try.func11, Try.ntmps11
  go_wp2
  go_ret2
  exact ⟨rfl, rfl⟩
set_option maxHeartbeats 1000000 in
set_option maxRecDepth 100000 in
theorem Frame_long (A : Option Addr) (n c : Nat) (w : World) (hn : 56 < n) :
    Calls Try.prog 11 #[.slice A n c] w fun e w' => e = .returned (.tuple #[.slice none 0 0, .int .i64 3]) ∧ w = w' := by
  have h0 : ((n : Int) == 0) = false := by simp; omega
  have h1 : (n : Int) > 56 := by omega
  have h1b := decide_eq_true h1
  clear hn
  go_enter Try.func11, Try.ntmps11
  go_wp2
  go_ret2
  exact ⟨rfl, rfl⟩
set_option maxHeartbeats 1000000 in
set_option maxRecDepth 100000 in
theorem Frame_calls (A : Option Addr) (c : Nat) (b : List Int) (w : World) (hC : Kd.C (Kd.int .u8) w A b.length b) (hc : b.length ≤ c) (hn : 1 ≤ b.length ∧ b.length ≤ 56) (hB : Byt b) :
    Calls Try.prog 11 #[.slice A b.length c] w fun e w' => ∃ v, e = .returned (.tuple #[v, .int .i64 0]) ∧ Kd.R (Kd.int .u8) 5 w' w.heap.size (fun _ => True) v (frameL b) ∧ Below w.heap.size w w' := by
  have HC := Aside0.mk hC
  have HB := Aside0.mk hB
  have HN := Aside0.mk hn
  have HCC := Aside0.mk hc
  have h0 : ((b.length : Int) == 0) = false := beq_eq_false_iff_ne.mpr (by omega)
  have h1 : ¬ (b.length : Int) > 56 := by omega
  have h1b := decide_eq_false h1
  have hl : 0 ≤ (b.length : Int) ∧ (b.length : Int) ≤ 56 := by omega
  clear hC hB hn hc
  go_enter Try.func11, Try.ntmps11
  go_wp2_with fail
  refine (Crc_calls A c b w HC.out HCC.out (by have h := HN.out.2; exact Nat.le_trans h (by decide)) HB.out).mono ?_
  rintro e w1 ⟨rfl, hb1⟩
  have B1 := Aside0.mk hb1
  have C1 := Aside0.mk (Kd.C_below HC.out hb1)
  have hr := crcN_range b
  have HFR : Aside0 (frameL b = [90, (b.length : Int)] ++ b ++ (be4 (crcN b) ++ [165])) := ⟨rfl⟩
  generalize crcN b = x at *
  clear hb1
  go_upto_region 7 with ((with_reducible refine gate_builtin (b := .append) (xs := #[.tmp 19, .tmp 20]) rfl ?_); at_builtin; refine Kd.R_append_row (Value.int .u8) (0 : Int) (w0 := w) w.heap.size rfl (.tmp 19) (.tmp 20) 23 5 (.int .u8 0) 1 rfl Try.underlying23 info_u8 rfl (Nat.succ_pos _) (.slice (some ⟨w1.heap.size, 0, none⟩) 2 2) [90, (b.length : Int)] b A b.length c (fun _ => True) rfl rfl (fun _ _ => trivial) (Kd.R_mono (lit_R (enc := Value.int .u8) (h1 := fun _ => rfl) (e := 5) w1 w.heap.size B1.out.size [90, (b.length : Int)] (by simp)) (fun _ _ => trivial)) (Kd.C_below C1.out (below_alloc (Below.refl _ _) _)) (Below.alloc B1.out B1.out.size _) (Below.alloc B1.out B1.out.size _).size (by have := HN.out; show (2 + b.length) * 1 ≤ _; omega) ?_; intro v2 w2 hr_ hb_ _ _; have R2 := Aside0.mk hr_; have B2 := Aside0.mk hb_; clear hr_ hb_)
  have HFR2 : Aside0 ([90, (b.length : Int)] ++ b ++ [x / 16777216, x / 65536 % 256, x / 256 % 256, x % 256, 165] = frameL b) := ⟨by rw [HFR.out]; rfl⟩
  go_wp2_with ((with_reducible refine gate_builtin (b := .append) (xs := #[.tmp 22, .tmp 34]) rfl ?_); at_builtin; refine Kd.R_append_row (Value.int .u8) (0 : Int) (w0 := w) w.heap.size rfl (.tmp 22) (.tmp 34) 23 5 (.int .u8 0) 1 rfl Try.underlying23 info_u8 rfl (Nat.succ_pos _) v2 ([90, (b.length : Int)] ++ b) [x / 16777216, x / 65536 % 256, x / 256 % 256, x % 256, 165] (some ⟨w2.heap.size, 0, none⟩) 5 5 (fun _ => True) rfl rfl (fun _ _ => trivial) (Kd.R_alloc R2.out _) (lit_C (enc := Value.int .u8) (h1 := fun _ => rfl) (e := 5) w2 [x / 16777216, x / 65536 % 256, x / 256 % 256, x % 256, 165] (by simp)) (Below.alloc B2.out B2.out.size _) (Below.alloc B2.out B2.out.size _).size (by have := HN.out; rw [List.length_append]; show (2 + b.length + 5) * 1 ≤ _; omega) ?_; intro v3 w3 hr_ hb_ _ _; have R3 := Aside0.mk hr_; have B3 := Aside0.mk hb_; clear hr_ hb_)
  rw [HFR2.out] at R3
  go_ret2
  exact ⟨v3, rfl, R3.out, B3.out⟩
end Go.Proofs.Ytldddinebhopcaa.St
