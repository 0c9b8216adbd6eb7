/- ask.Answer: the answer to bytes. -/
import Derived.Test.YtpjkbokojlpjoaaAsk7
namespace Go.Proofs.Ytpjkbokojlpjoaa.Ak
open Go.RowKit Go.Proofs.YtpjkbokojlpjoaaW.PrintWords Go.Proofs.YtpjkbokojlpjoaaW.PrintLast Go.Proofs.YtpjkbokojlpjoaaW.PrintMore Go.Proofs.Ytpjkbokojlpjoaa.Bs Go.Proofs.Ytpjkbokojlpjoaa.Fr Go.Proofs.Ytpjkbokojlpjoaa.Oct
open Go.Proofs.Ytpjkbokojlpjoaa.PAskAnswers
set_option linter.unusedVariables false
set_option linter.unusedSimpArgs false

def z12 : List Int := [0, 0, 0, 0, 0, 0, 0, 0, 0, 0, 0, 0]
/-- An answer's first 24 bytes. -/
def hd24 (op cd li ep : Int) : List Int := [2, Go.bits .or .u8 (op % 256) 128, 0, cd % 256] ++ be4 li ++ be4 ep ++ z12
def tgt (n : Nat) : Nat := if n < 24 then 24 else (n + 3) / 4 * 4
def padL (l : List Int) : List Int := l ++ List.replicate (tgt l.length - l.length) 0
def ansL (b : List Int) (cd li ep : Int) : List Int := if b.length < 2 then [] else hd24 (rd b 1) cd li ep ++ (padL (b.take 1100)).drop 24
theorem tgt_ge (n : Nat) : n ≤ tgt n ∧ 24 ≤ tgt n ∧ tgt n % 4 = 0 ∧ tgt n ≤ n + 24 := by unfold tgt; split <;> omega
theorem padL_len (l : List Int) : (padL l).length = tgt l.length := by
  have := tgt_ge l.length
  unfold padL
  rw [List.length_append, List.length_replicate]
  omega
theorem lay_five (a b : Int) : ask_lay.f 6 [a, b, 0, 0, 0] = some (be4 a ++ be4 b ++ z12) := by
  simp [ask_lay.f, ask_lay.l0, rd, wrap64, be4, z12]
theorem head_f (op cd li ep : Int) : ask_head.f 6 op cd li ep = some (hd24 op cd li ep) := by
  unfold ask_head.f
  rw [lay_five]
  simp [hd24, be4, z12]
theorem snoc_zero (l : List Int) (k : Nat) : l ++ List.replicate k 0 ++ [0] = l ++ List.replicate (k + 1) (0 : Int) := by
  rw [List.append_assoc, List.replicate_succ']
set_option maxHeartbeats 2000000 in
set_option maxRecDepth 100000 in
theorem Answer_calls (A : Option Addr) (c : Nat) (b : List Int) (cd li ep : Int) (w : World) (hC : Kd.C (Kd.int .u8) w A b.length b) (hc : b.length ≤ c) (hm : b.length ≤ 1000000) (hB : Byt b) :
    Calls Try.prog 15 #[.slice A b.length c, .int .i64 cd, .int .u32 li, .int .u32 ep] w fun e w' => ∃ v, e = .returned v ∧ Kd.R (Kd.int .u8) 5 w' w.heap.size (fun _ => True) v (ansL b cd li ep) ∧ Below w.heap.size w w' := by
  have HC := Aside0.mk hC
  have HM := Aside0.mk hm
  have HBY := Aside0.mk hB
  have HCC := Aside0.mk hc
  clear hC hB hc hm
  by_cases h2 : (b.length : Int) < 2
  · have hb2 := decide_eq_true h2
    have HF : Aside0 (ansL b cd li ep = []) := ⟨by unfold ansL; rw [if_pos (by omega)]⟩
    go_enter Try.func15, Try.ntmps15
    go_wp2
    go_ret
    exact ⟨_, rfl, by rw [HF.out]; exact Kd.R_nil _ _ _ _ _, Below.refl _ _⟩
  · have hb2 := decide_eq_false h2
    obtain ⟨ad, e1, c1⟩ := at_one HC.out 1 (by omega) (by omega)
    subst e1
    have HF : Aside0 (ansL b cd li ep = hd24 (rd b 1) cd li ep ++ (padL (b.take 1100)).drop 24) := ⟨by unfold ansL; rw [if_neg (by omega)]⟩
    have HR1 := Aside0.mk (HBY.out.rd 1)
    have C1 : Aside0 (w.cell? ⟨ad.block, ad.off + 1, none⟩ = some (.int .u8 (rd b 1))) := ⟨c1⟩
    obtain ⟨n0, hn0⟩ : ∃ n0 : Nat, n0 = min b.length 1100 := ⟨_, rfl⟩
    have HN : Aside0 (n0 = (b.take 1100).length ∧ n0 ≤ b.length ∧ 2 ≤ n0 ∧ n0 ≤ 1100) := ⟨by rw [List.length_take]; omega⟩
    have HT : Aside0 (Kd.C (Kd.int .u8) w (some ad) n0 (b.take 1100)) := ⟨by
      have h := Kd.C_take HC.out (m := n0) (by omega)
      rw [List.length_take, Nat.min_eq_left (by omega : n0 ≤ b.length)] at h
      have e : b.take n0 = b.take 1100 := by
        rw [hn0]
        rcases Nat.le_total b.length 1100 with h | h
        · rw [Nat.min_eq_left h, List.take_of_length_le (Nat.le_refl _), List.take_of_length_le h]
        · rw [Nat.min_eq_right h]
      rw [e] at h
      exact h⟩
    have HT0 := HN.out
    have HL : Aside0 ((([] : List Int).length + n0) * 1 ≤ 140737488355328) := ⟨by have := HN.out; simp; omega⟩
    have hx2 : (n0 : Int) ≤ (c : Int) := by have := HCC.out; omega
    clear c1
    by_cases hA : (b.length : Int) ≤ 1100
    · have hA2 : n0 = b.length := by omega
      clear hn0
      subst hA2
      clear HT0
      go_enter Try.func15, Try.ntmps15
      go_upto_region 3 with fail
      go_wp2_with (at_builtin; refine Kd.R_append_row (Value.int .u8) (0 : Int) (w0 := w) w.heap.size rfl _ (.tmp 17) 22 5 (.int .u8 0) 1 rfl Try.underlying22 info_u8 rfl (Nat.succ_pos _) (.slice none 0 0) [] (b.take 1100) (some ad) _ c (fun _ => True) rfl rfl (fun _ _ => trivial) (Kd.R_nil _ _ _ _ _) HT.out (Below.refl _ _) (Nat.le_refl _) HL.out ?_; intro v1 w1 hr1 hb1 hg1 hat1; have R1 := Aside0.mk hr1; have B1 := Aside0.mk hb1; clear hr1 hb1 hg1 hat1)
      have RL : Aside0 (Kd.R (Kd.int .u8) 5 w1 w.heap.size (fun _ => True) v1 (b.take 1100 ++ List.replicate 0 0)) := ⟨by rw [List.replicate_zero, List.append_nil]; exact R1.out⟩
      clear R1
      go_loopg [9] (tgt (b.take 1100).length - (b.take 1100).length) (fun q v9 wr => ∃ (k cc : Nat) (A9 : Option Addr), v9 = .slice A9 ((b.take 1100).length + k) cc ∧ Aside0 (k + q = tgt (b.take 1100).length - (b.take 1100).length) ∧ Aside0 (Kd.R (Kd.int .u8) 5 wr w.heap.size (fun _ => True) (.slice A9 ((b.take 1100).length + k) cc) (b.take 1100 ++ List.replicate k 0)) ∧ Aside0 (Below w.heap.size w wr))
      case atStart =>
        obtain ⟨A9, c9, rfl⟩ := Kd.R_slice RL.out
        have e9 : (b.take 1100 ++ List.replicate 0 (0 : Int)).length = (b.take 1100).length + 0 := by simp
        rw [e9] at RL
        exact ⟨0, c9, A9, by rw [e9], ⟨by omega⟩, RL, B1⟩
      case round =>
        clear RL B1
        obtain ⟨k, c9, A9, rfl, Hk, RL, B1⟩ := hrel
        have HTG := Aside0.mk (tgt_ge (b.take 1100).length)
        cases gk with
        | zero =>
          have HK : Aside0 (b.take 1100 ++ List.replicate k 0 = padL (b.take 1100) ∧ (b.take 1100).length + k = tgt (b.take 1100).length) := ⟨by have h1 := Hk.out; have h2 := HTG.out; refine ⟨?_, by omega⟩; unfold padL; rw [show k = tgt (b.take 1100).length - (b.take 1100).length by omega]⟩
          have hge : ¬ (((b.take 1100).length + k : Nat) : Int) < 24 := by have h1 := HK.out.2; have h2 := HTG.out; omega
          have hrem : ((((b.take 1100).length + k : Nat) : Int)).tmod 4 = 0 := by have h1 := HK.out.2; have h2 := HTG.out; rw [Int.tmod_eq_emod_of_nonneg (by omega)]; omega
          have hrm : ((((b.take 1100).length + k : Nat) : Int)) % 4 = 0 := by have h1 := HK.out.2; have h2 := HTG.out; omega
          have CC1 : wr.cell? ⟨ad.block, ad.off + 1, none⟩ = some (.int .u8 (rd b 1)) := pw_cell_below B1.out C1.out
          have hn1 : (0 : Int) ≤ 1 ∧ (1 : Int) < (b.length : Int) := ⟨by omega, by omega⟩
          have hgb := decide_eq_false hge
          generalize (b.take 1100).length + k = m at *
          generalize rd b 1 = op at *
          go_wp2_with fail
          rw [show wrap64 op = op from by unfold wrap64; have := HR1.out; omega]
          refine (ask_head.calls 6 op cd li ep (hd24 op cd li ep) wr (head_f op cd li ep)).mono ?_
          rintro e w3 ⟨v3, rfl, hr3, hb3⟩
          obtain ⟨A3, c3, rfl⟩ := Kd.R_slice hr3
          have C3 : Aside0 (Kd.C (Kd.int .u8) w3 A3 24 (hd24 op cd li ep)) := ⟨(Kd.R_reads' hr3).2.2⟩
          have L3 : Aside0 ((hd24 op cd li ep).length = 24) := ⟨rfl⟩
          rw [L3.out]
          have RL3 : Aside0 (Kd.R (Kd.int .u8) 5 w3 w.heap.size (fun _ => True) (.slice A9 m c9) (padL (b.take 1100))) := ⟨by rw [← HK.out.1]; exact Kd.R_below RL.out hb3⟩
          have B3 := Aside0.mk (below_step B1.out hb3)
          have HP : Aside0 (min 24 (padL (b.take 1100)).length = 24) := ⟨by rw [padL_len, ← HK.out.2]; omega⟩
          clear hr3 hb3 RL B1 CC1 hrem hrm hn1 C1 HC
          go_wp2_with ((with_reducible refine gate_builtin (b := .copy) (xs := #[.tmp 31, .tmp 39]) rfl ?_); refine Kd.R_copy (0 : Int) (w0 := w) w.heap.size rfl (.tmp 31) (.tmp 39) 22 22 5 rfl Try.underlying22 info5s (.slice A9 m c9) (padL (b.take 1100)) (hd24 op cd li ep) A3 24 c3 (fun _ => True) rfl rfl RL3.out C3.out B3.out B3.out.size ?_; intro w4 hr4 hb4 hg4; have R4 := Aside0.mk hr4; have B4 := Aside0.mk hb4; clear hr4 hb4 hg4)
          go_ret
          exact ⟨_, rfl, by rw [HF.out]; have h := R4.out; rw [HP.out, List.take_of_length_le (Nat.le_of_eq L3.out)] at h; exact h, B4.out⟩
        | succ q =>
          have hmm : Aside0 ((b.take 1100).length + k < tgt (b.take 1100).length) := ⟨by have h1 := Hk.out; omega⟩
          have HLL : Aside0 (((b.take 1100 ++ List.replicate k (0 : Int)).length + 1) * 1 ≤ 140737488355328 ∧ (b.take 1100 ++ List.replicate k (0 : Int)).length = (b.take 1100).length + k ∧ (b.take 1100 ++ List.replicate (k + 1) (0 : Int)).length = (b.take 1100).length + (k + 1)) := ⟨by
            have h1 := hmm.out
            have h2 := HTG.out
            have h3 : (b.take 1100).length ≤ 1100 := List.length_take_le _ _
            rw [List.length_append, List.length_append, List.length_replicate, List.length_replicate]
            refine ⟨by omega, rfl, rfl⟩⟩
          have HZ : Aside0 (b.take 1100 ++ List.replicate k 0 ++ [0] = b.take 1100 ++ List.replicate (k + 1) (0 : Int)) := ⟨snoc_zero _ _⟩
          by_cases h24 : (((b.take 1100).length + k : Nat) : Int) < 24
          · have hgb := decide_eq_true h24
            generalize hmd : (b.take 1100).length + k = m at *
            have HMD := Aside0.mk hmd
            clear hmd
            go_wp2_with (at_builtin; refine Kd.R_append (Kd.int .u8) (w0 := w) w.heap.size rfl (.tmp 28) (.tmp 29) 22 5 (.int .u8 0) 1 rfl Try.underlying22 info_u8 rfl (Nat.succ_pos _) (Nat.succ_pos _) (.slice A9 m c9) _ 0 [.int .u8 0] (fun _ => True) (fun _ => False) rfl rfl rfl (fun _ hk => hk.elim) (fun _ _ => trivial) RL.out B1.out B1.out.size HLL.out.1 ?_; intro v2 w2 hr hb hg hat; have R2 := Aside0.mk hr; have B2 := Aside0.mk hb; clear hr hb hg hat)
            rw [HZ.out] at R2
            obtain ⟨A2, c2, rfl⟩ := Kd.R_slice R2.out
            rw [HLL.out.2.2] at R2 ⊢
            go_roundg q
            case measure => omega
            case rel => exact ⟨k + 1, c2, A2, rfl, ⟨by have := Hk.out; omega⟩, R2, B2⟩
          · have hgb := decide_eq_false h24
            have hrem : ¬ ((((b.take 1100).length + k : Nat) : Int)) % 4 = 0 := by
              have h1 := hmm.out
              unfold tgt at h1
              split at h1 <;> omega
            have hrt : (((((b.take 1100).length + k : Nat) : Int)).tmod 4 != 0) = true := by
              rw [Int.tmod_eq_emod_of_nonneg (by omega)]
              simpa using hrem
            generalize hmd : (b.take 1100).length + k = m at *
            have HMD := Aside0.mk hmd
            clear hmd
            go_wp2_with (at_builtin; refine Kd.R_append (Kd.int .u8) (w0 := w) w.heap.size rfl (.tmp 28) (.tmp 29) 22 5 (.int .u8 0) 1 rfl Try.underlying22 info_u8 rfl (Nat.succ_pos _) (Nat.succ_pos _) (.slice A9 m c9) _ 0 [.int .u8 0] (fun _ => True) (fun _ => False) rfl rfl rfl (fun _ hk => hk.elim) (fun _ _ => trivial) RL.out B1.out B1.out.size HLL.out.1 ?_; intro v2 w2 hr hb hg hat; have R2 := Aside0.mk hr; have B2 := Aside0.mk hb; clear hr hb hg hat)
            rw [HZ.out] at R2
            obtain ⟨A2, c2, rfl⟩ := Kd.R_slice R2.out
            rw [HLL.out.2.2] at R2 ⊢
            go_roundg q
            case measure => omega
            case rel => exact ⟨k + 1, c2, A2, rfl, ⟨by have := Hk.out; omega⟩, R2, B2⟩
    · have hA2 : n0 = 1100 := by omega
      clear hn0
      subst hA2
      clear HT0
      go_enter Try.func15, Try.ntmps15
      go_upto_region 3 with fail
      go_wp2_with (at_builtin; refine Kd.R_append_row (Value.int .u8) (0 : Int) (w0 := w) w.heap.size rfl _ (.tmp 17) 22 5 (.int .u8 0) 1 rfl Try.underlying22 info_u8 rfl (Nat.succ_pos _) (.slice none 0 0) [] (b.take 1100) (some ad) _ c (fun _ => True) rfl rfl (fun _ _ => trivial) (Kd.R_nil _ _ _ _ _) HT.out (Below.refl _ _) (Nat.le_refl _) HL.out ?_; intro v1 w1 hr1 hb1 hg1 hat1; have R1 := Aside0.mk hr1; have B1 := Aside0.mk hb1; clear hr1 hb1 hg1 hat1)
      have RL : Aside0 (Kd.R (Kd.int .u8) 5 w1 w.heap.size (fun _ => True) v1 (b.take 1100 ++ List.replicate 0 0)) := ⟨by rw [List.replicate_zero, List.append_nil]; exact R1.out⟩
      clear R1
      go_loopg [9] (tgt (b.take 1100).length - (b.take 1100).length) (fun q v9 wr => ∃ (k cc : Nat) (A9 : Option Addr), v9 = .slice A9 ((b.take 1100).length + k) cc ∧ Aside0 (k + q = tgt (b.take 1100).length - (b.take 1100).length) ∧ Aside0 (Kd.R (Kd.int .u8) 5 wr w.heap.size (fun _ => True) (.slice A9 ((b.take 1100).length + k) cc) (b.take 1100 ++ List.replicate k 0)) ∧ Aside0 (Below w.heap.size w wr))
      case atStart =>
        obtain ⟨A9, c9, rfl⟩ := Kd.R_slice RL.out
        have e9 : (b.take 1100 ++ List.replicate 0 (0 : Int)).length = (b.take 1100).length + 0 := by simp
        rw [e9] at RL
        exact ⟨0, c9, A9, by rw [e9], ⟨by omega⟩, RL, B1⟩
      case round =>
        clear RL B1
        obtain ⟨k, c9, A9, rfl, Hk, RL, B1⟩ := hrel
        have HTG := Aside0.mk (tgt_ge (b.take 1100).length)
        cases gk with
        | zero =>
          have HK : Aside0 (b.take 1100 ++ List.replicate k 0 = padL (b.take 1100) ∧ (b.take 1100).length + k = tgt (b.take 1100).length) := ⟨by have h1 := Hk.out; have h2 := HTG.out; refine ⟨?_, by omega⟩; unfold padL; rw [show k = tgt (b.take 1100).length - (b.take 1100).length by omega]⟩
          have hge : ¬ (((b.take 1100).length + k : Nat) : Int) < 24 := by have h1 := HK.out.2; have h2 := HTG.out; omega
          have hrem : ((((b.take 1100).length + k : Nat) : Int)).tmod 4 = 0 := by have h1 := HK.out.2; have h2 := HTG.out; rw [Int.tmod_eq_emod_of_nonneg (by omega)]; omega
          have hrm : ((((b.take 1100).length + k : Nat) : Int)) % 4 = 0 := by have h1 := HK.out.2; have h2 := HTG.out; omega
          have CC1 : wr.cell? ⟨ad.block, ad.off + 1, none⟩ = some (.int .u8 (rd b 1)) := pw_cell_below B1.out C1.out
          have hn1 : (0 : Int) ≤ 1 ∧ (1 : Int) < (b.length : Int) := ⟨by omega, by omega⟩
          have hgb := decide_eq_false hge
          generalize (b.take 1100).length + k = m at *
          generalize rd b 1 = op at *
          go_wp2_with fail
          rw [show wrap64 op = op from by unfold wrap64; have := HR1.out; omega]
          refine (ask_head.calls 6 op cd li ep (hd24 op cd li ep) wr (head_f op cd li ep)).mono ?_
          rintro e w3 ⟨v3, rfl, hr3, hb3⟩
          obtain ⟨A3, c3, rfl⟩ := Kd.R_slice hr3
          have C3 : Aside0 (Kd.C (Kd.int .u8) w3 A3 24 (hd24 op cd li ep)) := ⟨(Kd.R_reads' hr3).2.2⟩
          have L3 : Aside0 ((hd24 op cd li ep).length = 24) := ⟨rfl⟩
          rw [L3.out]
          have RL3 : Aside0 (Kd.R (Kd.int .u8) 5 w3 w.heap.size (fun _ => True) (.slice A9 m c9) (padL (b.take 1100))) := ⟨by rw [← HK.out.1]; exact Kd.R_below RL.out hb3⟩
          have B3 := Aside0.mk (below_step B1.out hb3)
          have HP : Aside0 (min 24 (padL (b.take 1100)).length = 24) := ⟨by rw [padL_len, ← HK.out.2]; omega⟩
          clear hr3 hb3 RL B1 CC1 hrem hrm hn1 C1 HC
          go_wp2_with ((with_reducible refine gate_builtin (b := .copy) (xs := #[.tmp 31, .tmp 39]) rfl ?_); refine Kd.R_copy (0 : Int) (w0 := w) w.heap.size rfl (.tmp 31) (.tmp 39) 22 22 5 rfl Try.underlying22 info5s (.slice A9 m c9) (padL (b.take 1100)) (hd24 op cd li ep) A3 24 c3 (fun _ => True) rfl rfl RL3.out C3.out B3.out B3.out.size ?_; intro w4 hr4 hb4 hg4; have R4 := Aside0.mk hr4; have B4 := Aside0.mk hb4; clear hr4 hb4 hg4)
          go_ret
          exact ⟨_, rfl, by rw [HF.out]; have h := R4.out; rw [HP.out, List.take_of_length_le (Nat.le_of_eq L3.out)] at h; exact h, B4.out⟩
        | succ q =>
          have hmm : Aside0 ((b.take 1100).length + k < tgt (b.take 1100).length) := ⟨by have h1 := Hk.out; omega⟩
          have HLL : Aside0 (((b.take 1100 ++ List.replicate k (0 : Int)).length + 1) * 1 ≤ 140737488355328 ∧ (b.take 1100 ++ List.replicate k (0 : Int)).length = (b.take 1100).length + k ∧ (b.take 1100 ++ List.replicate (k + 1) (0 : Int)).length = (b.take 1100).length + (k + 1)) := ⟨by
            have h1 := hmm.out
            have h2 := HTG.out
            have h3 : (b.take 1100).length ≤ 1100 := List.length_take_le _ _
            rw [List.length_append, List.length_append, List.length_replicate, List.length_replicate]
            refine ⟨by omega, rfl, rfl⟩⟩
          have HZ : Aside0 (b.take 1100 ++ List.replicate k 0 ++ [0] = b.take 1100 ++ List.replicate (k + 1) (0 : Int)) := ⟨snoc_zero _ _⟩
          by_cases h24 : (((b.take 1100).length + k : Nat) : Int) < 24
          · have hgb := decide_eq_true h24
            generalize hmd : (b.take 1100).length + k = m at *
            have HMD := Aside0.mk hmd
            clear hmd
            go_wp2_with (at_builtin; refine Kd.R_append (Kd.int .u8) (w0 := w) w.heap.size rfl (.tmp 28) (.tmp 29) 22 5 (.int .u8 0) 1 rfl Try.underlying22 info_u8 rfl (Nat.succ_pos _) (Nat.succ_pos _) (.slice A9 m c9) _ 0 [.int .u8 0] (fun _ => True) (fun _ => False) rfl rfl rfl (fun _ hk => hk.elim) (fun _ _ => trivial) RL.out B1.out B1.out.size HLL.out.1 ?_; intro v2 w2 hr hb hg hat; have R2 := Aside0.mk hr; have B2 := Aside0.mk hb; clear hr hb hg hat)
            rw [HZ.out] at R2
            obtain ⟨A2, c2, rfl⟩ := Kd.R_slice R2.out
            rw [HLL.out.2.2] at R2 ⊢
            go_roundg q
            case measure => omega
            case rel => exact ⟨k + 1, c2, A2, rfl, ⟨by have := Hk.out; omega⟩, R2, B2⟩
          · have hgb := decide_eq_false h24
            have hrem : ¬ ((((b.take 1100).length + k : Nat) : Int)) % 4 = 0 := by
              have h1 := hmm.out
              unfold tgt at h1
              split at h1 <;> omega
            have hrt : (((((b.take 1100).length + k : Nat) : Int)).tmod 4 != 0) = true := by
              rw [Int.tmod_eq_emod_of_nonneg (by omega)]
              simpa using hrem
            generalize hmd : (b.take 1100).length + k = m at *
            have HMD := Aside0.mk hmd
            clear hmd
            go_wp2_with (at_builtin; refine Kd.R_append (Kd.int .u8) (w0 := w) w.heap.size rfl (.tmp 28) (.tmp 29) 22 5 (.int .u8 0) 1 rfl Try.underlying22 info_u8 rfl (Nat.succ_pos _) (Nat.succ_pos _) (.slice A9 m c9) _ 0 [.int .u8 0] (fun _ => True) (fun _ => False) rfl rfl rfl (fun _ hk => hk.elim) (fun _ _ => trivial) RL.out B1.out B1.out.size HLL.out.1 ?_; intro v2 w2 hr hb hg hat; have R2 := Aside0.mk hr; have B2 := Aside0.mk hb; clear hr hb hg hat)
            rw [HZ.out] at R2
            obtain ⟨A2, c2, rfl⟩ := Kd.R_slice R2.out
            rw [HLL.out.2.2] at R2 ⊢
            go_roundg q
            case measure => omega
            case rel => exact ⟨k + 1, c2, A2, rfl, ⟨by have := Hk.out; omega⟩, R2, B2⟩
end Go.Proofs.Ytpjkbokojlpjoaa.Ak
