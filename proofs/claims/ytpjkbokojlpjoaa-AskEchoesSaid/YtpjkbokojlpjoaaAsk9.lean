/- The document's Answer; AskAnswers. -/
import Derived.Test.YtpjkbokojlpjoaaAsk8
namespace Go.Proofs.Ytpjkbokojlpjoaa.Ak
open Go.RowKit Go.Proofs.YtpjkbokojlpjoaaW.PrintWords Go.Proofs.YtpjkbokojlpjoaaW.PrintLast Go.Proofs.YtpjkbokojlpjoaaW.PrintMore Go.Proofs.Ytpjkbokojlpjoaa.Bs Go.Proofs.Ytpjkbokojlpjoaa.Fr Go.Proofs.Ytpjkbokojlpjoaa.Oct
open Go.Proofs.Ytpjkbokojlpjoaa.PAskAnswers
set_option linter.unusedVariables false
set_option linter.unusedSimpArgs false

theorem wrap_1 (i : Nat) (h : i ≤ 2000000) : wrap64 ((i : Int) + 1) = ((i + 1 : Nat) : Int) := by unfold wrap64; omega
theorem lay4 (k : Nat) (l : List Int) (x : Int) (h0 : 0 ≤ x) (h1 : x < 4294967296) (hl : l.length ≤ 1000) : bailiwickref1_Lay.f (k + 6) l 4 (IntKind.u64.wrap x) = some (l ++ be4 x) := by
  have hw : IntKind.u64.wrap x = x := by show x % 18446744073709551616 = x; omega
  rw [hw]
  have s3 : shr .u64 x (IntKind.u64.wrap (8 * (IntKind.u64.wrap 3))) = x / 16777216 := by rfl
  have s2 : shr .u64 x (IntKind.u64.wrap (8 * (IntKind.u64.wrap 2))) = x / 65536 := by rfl
  have s1 : shr .u64 x (IntKind.u64.wrap (8 * (IntKind.u64.wrap 1))) = x / 256 := by rfl
  have s0 : shr .u64 x (IntKind.u64.wrap (8 * (IntKind.u64.wrap 0))) = x := by show x / 1 = x; omega
  have w3 : wrap64 (4 - 1) = 3 := by unfold wrap64; omega
  have w2 : wrap64 (3 - 1) = 2 := by unfold wrap64; omega
  have w1 : wrap64 (2 - 1) = 1 := by unfold wrap64; omega
  have w0 : wrap64 (1 - 1) = 0 := by unfold wrap64; omega
  have wm : wrap64 (0 - 1) = -1 := by unfold wrap64; omega
  unfold bailiwickref1_Lay.f
  rw [w3]
  simp only [bailiwickref1_Lay.l0, s3, s2, s1, s0, w2, w1, w0, wm]
  rw [if_pos (by decide), if_pos (by decide), if_pos (by omega), if_pos (by decide), if_pos (by decide), if_pos (by simp; omega), if_pos (by decide), if_pos (by decide), if_pos (by simp; omega), if_pos (by decide), if_pos (by decide), if_pos (by simp; omega), if_neg (by decide)]
  simp [be4]
theorem or128 (x : Int) (h : 0 ≤ x ∧ x ≤ 255) : Go.bits .or .u8 x 128 = Go.bits .or .u8 (x % 256) 128 := by rw [show x % 256 = x by omega]
theorem rhead_f (k : Nat) (op cd li ep : Int) (ho : 0 ≤ op ∧ op ≤ 255) (hl : 0 ≤ li ∧ li < 4294967296) (he : 0 ≤ ep ∧ ep < 4294967296) : bailiwickref25_head.f (k + 6) op cd li ep = some (hd24 op cd li ep) := by
  unfold bailiwickref25_head.f
  rw [lay4 k _ li hl.1 hl.2 (by simp), or128 op ho]
  show (bailiwickref1_Lay.f (k + 6) ([2, Go.bits .or .u8 (op % 256) 128, 0, cd % 256] ++ be4 li) 4 (IntKind.u64.wrap ep)).bind _ = _
  rw [lay4 k _ ep he.1 he.2 (by simp [be4])]
  simp only [Option.bind_some]
  rw [if_pos (by simp [be4])]
  rfl
def pad4 (l : List Int) : List Int := l ++ List.replicate ((4 - l.length % 4) % 4) 0
theorem rans_l1 : ∀ (m : Nat) (l : List Int) (k : Nat), (4 - l.length % 4) % 4 = m → l.length ≤ 2000 → bailiwickref25_Answer.l1 (k + m + 1) l = some (pad4 l) := by
  intro m
  induction m with
  | zero =>
    intro l k h hl
    unfold bailiwickref25_Answer.l1
    rw [if_pos (by omega)]
    unfold pad4
    rw [h, List.replicate_zero, List.append_nil]
  | succ m ih =>
    intro l k h hl
    rw [show k + (m + 1) + 1 = (k + m + 1) + 1 by omega]
    unfold bailiwickref25_Answer.l1
    rw [if_neg (by omega), if_pos (by omega)]
    have hle : (l ++ [0]).length = l.length + 1 := by simp
    rw [ih (l ++ [0]) k (by rw [hle]; omega) (by rw [hle]; omega)]
    unfold pad4
    rw [hle, show (4 - l.length % 4) % 4 = (4 - (l.length + 1) % 4) % 4 + 1 by omega, List.append_assoc, List.replicate_succ]
    rfl
theorem rans_j1 (l : List Int) (k : Nat) (hl : l.length ≤ 2000) (hk : 8 ≤ k) : bailiwickref25_Answer.j1 k l = some (pad4 l) := by
  obtain ⟨k, rfl⟩ : ∃ k', k = k' + 1 := ⟨k - 1, by omega⟩
  unfold bailiwickref25_Answer.j1
  have h4 : (4 - l.length % 4) % 4 < 4 := Nat.mod_lt _ (by omega)
  have h := rans_l1 ((4 - l.length % 4) % 4) l (k - (4 - l.length % 4) % 4 - 1) rfl hl
  rw [show k - (4 - l.length % 4) % 4 - 1 + (4 - l.length % 4) % 4 + 1 = k by omega] at h
  exact h
theorem rans_l0 (b : List Int) : ∀ (m i k : Nat) (acc : List Int), i + m = max 24 (min b.length 1100) → 24 ≤ i → acc.length = i → m + 10 ≤ k → bailiwickref25_Answer.l0 k b acc (i : Int) = some (pad4 (acc ++ (b.take 1100).drop i)) := by
  intro m
  induction m with
  | zero =>
    intro i k acc h hi ha hk
    obtain ⟨k, rfl⟩ : ∃ k', k = k' + 1 := ⟨k - 1, by omega⟩
    unfold bailiwickref25_Answer.l0
    rw [List.drop_of_length_le (by rw [List.length_take]; omega), List.append_nil]
    by_cases h1 : (i : Int) < (b.length : Int)
    · rw [if_pos h1, if_neg (by omega)]
      exact rans_j1 acc k (by omega) (by omega)
    · rw [if_neg h1]
      exact rans_j1 acc k (by omega) (by omega)
  | succ m ih =>
    intro i k acc h hi ha hk
    obtain ⟨k, rfl⟩ : ∃ k', k = k' + 1 := ⟨k - 1, by omega⟩
    have hib : i < b.length := by omega
    have hit : i < (b.take 1100).length := by rw [List.length_take]; omega
    unfold bailiwickref25_Answer.l0
    rw [if_pos (by omega), if_pos (by omega), if_pos (by omega), if_pos (by omega), wrap_1 i (by omega), ih (i + 1) k (acc ++ [rd b i]) (by omega) (by omega) (by simp; omega) (by omega)]
    rw [List.append_assoc, List.drop_eq_getElem_cons hit]
    congr 3
    simp [rd, List.getD_eq_getElem?_getD, List.getElem?_eq_getElem hib]
theorem pad_same (h l : List Int) (hh : h.length = 24) : pad4 (h ++ l.drop 24) = h ++ (padL l).drop 24 := by
  unfold pad4 padL tgt
  rw [List.append_assoc]
  congr 1
  rw [List.length_append, hh, List.length_drop]
  by_cases hl : l.length < 24
  · rw [if_pos hl, List.drop_of_length_le (by omega), List.drop_of_length_le (by rw [List.length_append, List.length_replicate]; omega), show l.length - 24 = 0 by omega]
    rfl
  · rw [if_neg hl, List.drop_append_of_le_length (by omega)]
    congr 2
    omega
theorem rans_f (b : List Int) (cd li ep : Int) (hb : Byt b) (hl : 0 ≤ li ∧ li < 4294967296) (he : 0 ≤ ep ∧ ep < 4294967296) : bailiwickref25_Answer.f 1200 b cd li ep = some (ansL b cd li ep) := by
  unfold bailiwickref25_Answer.f ansL
  by_cases h2 : b.length < 2
  · rw [if_pos (by omega), if_pos h2]
  · rw [if_neg (by omega), if_neg h2, if_pos (by omega), show bailiwickref25_head.f 1200 (rd b 1) cd li ep = _ from rhead_f 1194 (rd b 1) cd li ep (hb.rd 1) hl he]
    show bailiwickref25_Answer.l0 1200 b (hd24 (rd b 1) cd li ep) ((24 : Nat) : Int) = _
    rw [rans_l0 b (max 24 (min b.length 1100) - 24) 24 1200 _ (by omega) (by omega) rfl (by omega), pad_same _ _ rfl]
theorem ansL_len (b : List Int) (cd li ep : Int) : (b.length < 2 ↔ (ansL b cd li ep).length = 0) ∧ (ansL b cd li ep).length % 4 = 0 ∧ (ansL b cd li ep).length ≤ 1100 := by
  unfold ansL
  by_cases h2 : b.length < 2
  · rw [if_pos h2]; simp; omega
  · rw [if_neg h2, List.length_append, List.length_drop, padL_len]
    have h3 : (hd24 (rd b 1) cd li ep).length = 24 := rfl
    have h1 := tgt_ge (b.take 1100).length
    have h4 : (b.take 1100).length ≤ 1100 := List.length_take_le _ _
    rw [h3]
    have h5 : tgt (b.take 1100).length ≤ 1100 := by unfold tgt; split <;> omega
    refine ⟨by omega, by omega, by omega⟩
theorem same_l0 (l : List Int) (hl : l.length ≤ 1000000) : ∀ (m i k : Nat), i + m = l.length → m + 1 ≤ k → bailiwickref1_Same.l0 k l l (i : Int) = some true := by
  intro m
  induction m with
  | zero =>
    intro i k hi hk
    obtain ⟨k, rfl⟩ : ∃ k', k = k' + 1 := ⟨k - 1, by omega⟩
    unfold bailiwickref1_Same.l0
    rw [if_neg (by omega)]
  | succ m ih =>
    intro i k hi hk
    obtain ⟨k, rfl⟩ : ∃ k', k = k' + 1 := ⟨k - 1, by omega⟩
    unfold bailiwickref1_Same.l0
    rw [if_pos (by omega), if_pos (by omega), if_pos (by omega), if_pos rfl, wrap_1 i (by omega), ih (i + 1) k (by omega) (by omega)]
theorem same_f (l : List Int) (hl : l.length ≤ 1000000) : bailiwickref1_Same.f (l.length + 1) l l = some true := by
  unfold bailiwickref1_Same.f
  rw [if_pos rfl]
  exact same_l0 l hl l.length 0 (l.length + 1) (by omega) (by omega)
theorem same_calls (w : World) (A0 A1 : Option Addr) (c0 c1 n : Nat) (l : List Int) (hl : l.length ≤ 1000000) (hn : l.length = n) (h0 : Kd.C (Kd.int .u8) w A0 n l) (hc0 : n ≤ c0) (h1 : Kd.C (Kd.int .u8) w A1 n l) (hc1 : n ≤ c1) :
    Calls Try.prog 16 #[.slice A0 n c0, .slice A1 n c1] w fun e w' => e = .returned (.bool true) ∧ Below w.heap.size w w' := by
  subst hn
  exact (bailiwickref1_Same.calls (l.length + 1) A0 c0 l A1 c1 l true w h0 hc0 h1 hc1 (same_f l hl)).mono (fun e w' hh => ⟨hh.1, hh.2.below⟩)

set_option maxHeartbeats 1000000 in
set_option maxRecDepth 100000 in
theorem answers_walk (W : World) (A : Option Addr) (c : Nat) (b : List Int) (hC : Kd.C (Kd.int .u8) W A b.length b) (hc : b.length ≤ c) (hm : b.length * 1 ≤ 140737488351232) (hw : ∀ n ∈ b, (Lit.int .u8 n).wf = true) (cd : Int) (wc : (Lit.int .i64 cd).wf = true) (li : Int) (wl : (Lit.int .u32 li).wf = true) :
    Calls Try.prog 6 #[.slice A b.length c, .int .i64 cd, .int .u32 li] W fun e w' => e = .returned (.bool true) ∧ Below W.heap.size W w' := by
  have hB : Byt b := fun x hx => by
    have h := hw x hx
    have hmin : IntKind.u8.min = 0 := rfl
    have hmax : IntKind.u8.max = 255 := rfl
    simp only [Lit.wf, Bool.and_eq_true, decide_eq_true_eq] at h
    omega
  have hli : 0 ≤ li ∧ li < 4294967296 := by
    have hmin : IntKind.u32.min = 0 := rfl
    have hmax : IntKind.u32.max = 4294967295 := rfl
    simp only [Lit.wf, Bool.and_eq_true, decide_eq_true_eq] at wl
    omega
  clear hw wc wl
  have HC := Aside0.mk hC
  have HCC := Aside0.mk hc
  have HB := Aside0.mk hB
  have HLI := Aside0.mk hli
  clear hC hc hB hli hm
  go_enter Try.func6, Try.ntmps6
  go_wp2_with fail
  refine (awake_calls _).mono ?_
  rintro e w1 ⟨rfl, hb1⟩
  have B1 := Aside0.mk hb1
  clear hb1
  by_cases hg : (b.length : Int) > 100000
  · have hgb := decide_eq_true hg
    go_wp2
    go_ret
    exact ⟨rfl, B1.out⟩
  · have hgb := decide_eq_false hg
    have HM : Aside0 (b.length ≤ 100000) := ⟨by omega⟩
    go_wp2_with fail
    refine (Answer_calls A c b cd li _ w1 (Kd.C_below HC.out B1.out) HCC.out (by have := HM.out; omega) HB.out).mono ?_
    rintro e w2 ⟨v2, rfl, hr2, hb2⟩
    have HE : Aside0 (0 ≤ li * 7 % 4294967296 ∧ li * 7 % 4294967296 < 4294967296) := ⟨by omega⟩
    generalize hep : li * 7 % 4294967296 = ep at *
    have HEP := Aside0.mk hep
    clear hep
    have HR := Aside0.mk (rans_f b cd li ep HB.out HLI.out HE.out)
    have HLN := Aside0.mk (ansL_len b cd li ep)
    generalize ansL b cd li ep = x at *
    obtain ⟨n, hn⟩ : ∃ n, x.length = n := ⟨_, rfl⟩
    have HN := Aside0.mk hn
    rw [hn] at HLN
    obtain ⟨A2, c2, rfl⟩ := Kd.R_slice hr2
    have C2 : Aside0 (Kd.C (Kd.int .u8) w2 A2 n x ∧ n ≤ c2) := ⟨by have h := Kd.R_reads' hr2; rw [hn] at h; exact ⟨h.2.2, h.2.1⟩⟩
    have B2 := Aside0.mk (below_step B1.out hb2)
    rw [hn]
    clear hn hr2 hb2 B1
    go_wp2_with fail
    rw [HEP.out]
    refine (bailiwickref25_Answer.calls 1200 A c b cd li ep x w2 (Kd.C_below HC.out B2.out) HCC.out HR.out).mono ?_
    rintro e w3 ⟨v3, rfl, hr3, hb3⟩
    obtain ⟨A3, c3, rfl⟩ := Kd.R_slice hr3
    have C3 : Aside0 (Kd.C (Kd.int .u8) w3 A3 n x ∧ n ≤ c3) := ⟨by have h := Kd.R_reads' hr3; rw [HN.out] at h; exact ⟨h.2.2, h.2.1⟩⟩
    have C2' : Aside0 (Kd.C (Kd.int .u8) w3 A2 n x ∧ n ≤ c2) := ⟨Kd.C_below C2.out.1 hb3, C2.out.2⟩
    have B3 := Aside0.mk (below_step B2.out hb3)
    rw [HN.out]
    clear hr3 hb3 B2 C2
    go_wp2_with fail
    refine (same_calls w3 A2 A3 c2 c3 n x (by have h1 := HLN.out.2.2; have h2 := HN.out; omega) HN.out C2'.out.1 C2'.out.2 C3.out.1 C3.out.2).mono ?_
    rintro e w4 ⟨rfl, hb4⟩
    have B4 := Aside0.mk (below_step B3.out hb4)
    clear hb4
    have hle : (n : Int) ≤ 1100 := by have := HLN.out.2.2; omega
    have hleb := decide_eq_true hle
    have hrt : (n : Int).tmod 4 = 0 := by have := HLN.out.2.1; rw [Int.tmod_eq_emod_of_nonneg (by omega)]; omega
    have hrm : (n : Int) % 4 = 0 := by have := HLN.out.2.1; omega
    by_cases h2 : (b.length : Int) < 2
    · have h2b := decide_eq_true h2
      have h0 : n = 0 := HLN.out.1.1 (by omega)
      subst h0
      go_wp2
      go_ret
      exact ⟨rfl, B4.out⟩
    · have h2b := decide_eq_false h2
      have h0 : ((n : Int) == 0) = false := by
        have := HLN.out.1
        rw [beq_eq_false_iff_ne]
        intro e
        exact h2 (by have := this.2 (by omega); omega)
      go_wp2
      go_ret
      exact ⟨rfl, B4.out⟩
end Go.Proofs.Ytpjkbokojlpjoaa.Ak
