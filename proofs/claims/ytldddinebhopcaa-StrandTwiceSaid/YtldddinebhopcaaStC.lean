/- chapter 8's document: plain laws of frames. The document's Frame; StrandFrames. The document's Scan; StrandScans. -/
import Derived.Test.YtldddinebhopcaaStB
namespace Go.Proofs.Ytldddinebhopcaa.St
open Go.RowKit Go.Shelf Go.Proofs.YtldddinebhopcaaW.PrintWords Go.Proofs.YtldddinebhopcaaW.PrintLast Go.Proofs.YtldddinebhopcaaW.PrintMore Go.Proofs.Ytldddinebhopcaa.Bs Go.Proofs.Ytldddinebhopcaa.Fr Go.Proofs.Ytldddinebhopcaa.Oct Go.Proofs.Ytldddinebhopcaa.Sec Go.Proofs.Ytldddinebhopcaa.Rg Go.Proofs.Ytldddinebhopcaa.PStrandPlays
set_option linter.unusedVariables false
set_option linter.unusedSimpArgs false
theorem lay4 (k : Nat) (l : List Int) (x : Int) (h0 : 0 ≤ x) (h1 : x < 4294967296) (hl : l.length ≤ 1000) : bailiwickref1_Lay.f (k + 6) l 4 x = some (l ++ be4 x) := by
  have s3 : shr .u64 x (IntKind.u64.wrap (8 * (IntKind.u64.wrap 3))) = x / 16777216 := by rfl
  have s2 : shr .u64 x (IntKind.u64.wrap (8 * (IntKind.u64.wrap 2))) = x / 65536 := by rfl
  have s1 : shr .u64 x (IntKind.u64.wrap (8 * (IntKind.u64.wrap 1))) = x / 256 := by rfl
  have s0 : shr .u64 x (IntKind.u64.wrap (8 * (IntKind.u64.wrap 0))) = x := by show x / 1 = x; omega
  have w3 : wrap64 (4 - 1) = 3 := by unfold wrap64; omega
  have w2 : wrap64 (3 - 1) = 2 := by unfold wrap64; omega
  have w1 : wrap64 (2 - 1) = 1 := by unfold wrap64; omega
  have w0 : wrap64 (1 - 1) = 0 := by unfold wrap64; omega
  have wm : wrap64 (0 - 1) = -1 := by unfold wrap64; omega
  unfold bailiwickref1_Lay.f
  rw [w3]
  simp only [bailiwickref1_Lay.l0, s3, s2, s1, s0, w2, w1, w0, wm]
  rw [if_pos (by decide), if_pos (by decide), if_pos (by omega), if_pos (by decide), if_pos (by decide), if_pos (by simp; omega), if_pos (by decide), if_pos (by decide), if_pos (by simp; omega), if_pos (by decide), if_pos (by decide), if_pos (by simp; omega), if_neg (by decide)]
  simp [be4]
  omega
theorem get4_l0 (b : List Int) (hB : Byt b) (hl : b.length ≤ 1000000) (p : Nat) (hp4 : p + 4 ≤ b.length) : ∀ (m i k : Nat), i + m = 4 → m + 1 ≤ k → bailiwickref1_Get.l0 k b (p : Int) 4 (beN ((b.drop p).take i)) (i : Int) = some (beN ((b.drop p).take 4), true) := by
  intro m
  induction m with
  | zero =>
    intro i k hi hk
    obtain ⟨k, rfl⟩ : ∃ k', k = k' + 1 := ⟨k - 1, by omega⟩
    have : i = 4 := by omega
    subst this
    unfold bailiwickref1_Get.l0
    rw [if_neg (by omega)]
  | succ m ih =>
    intro i k hi hk
    obtain ⟨k, rfl⟩ : ∃ k', k = k' + 1 := ⟨k - 1, by omega⟩
    have w1 : wrap64 ((p : Int) + (i : Int)) = ((p + i : Nat) : Int) := by unfold wrap64; omega
    have hr := hB.rd (p + i)
    have hx := beN_range ((hB.drop p).take i)
    have hlen : i < (b.drop p).length := by rw [List.length_drop]; omega
    have hst : (b.drop p).take (i + 1) = (b.drop p).take i ++ [rd b (p + i : Nat)] := by rw [take_snoc_rd _ _ hlen, rd_drop]
    unfold bailiwickref1_Get.l0
    have hx4 : ((b.drop p).take i).length ≤ 3 := by rw [List.length_take]; omega
    have hpw : (256 : Int) ^ ((b.drop p).take i).length ≤ 16777216 := by
      generalize ((b.drop p).take i).length = z at hx4
      have : z = 0 ∨ z = 1 ∨ z = 2 ∨ z = 3 := by omega
      rcases this with rfl | rfl | rfl | rfl <;> decide
    have hu1 : IntKind.u64.wrap (beN ((b.drop p).take i) * 256) = beN ((b.drop p).take i) * 256 := by show _ % 18446744073709551616 = _; omega
    have hu2 : IntKind.u64.wrap (rd b (p + i : Nat)) = rd b (p + i : Nat) := by show _ % 18446744073709551616 = _; omega
    rw [if_pos (by omega), w1, if_pos (by omega), if_pos (by omega), hu1, hu2, or_byte _ _ (by omega) hr, ← beN_snoc, ← hst, wrap_1 i (by omega)]
    exact ih (i + 1) k (by omega) (by omega)
theorem get4_f (b : List Int) (hB : Byt b) (hl : b.length ≤ 1000000) (p : Nat) (hp4 : p + 4 ≤ b.length) : bailiwickref1_Get.f 10 b (p : Int) 4 = some (beN ((b.drop p).take 4), true) := by
  unfold bailiwickref1_Get.f
  have hw : wrap64 ((b.length : Int) - 4) = (b.length : Int) - 4 := by unfold wrap64; omega
  rw [if_neg (by decide), if_neg (by decide), if_neg (by omega), hw, decide_eq_false (by omega)]
  simp only [bailiwickref1_Get.j0]
  rw [if_neg (by decide)]
  exact get4_l0 b hB hl p hp4 4 0 9 rfl (by decide)
theorem part_l0 (b : List Int) (hl : b.length ≤ 1000000) (z : Nat) (hz : z ≤ b.length) : ∀ (m i k : Nat) (acc : List Int), i + m = z → m + 1 ≤ k → acc.length ≤ i → bailiwickref1_Part.l0 k b (z : Int) acc (i : Int) = some (acc ++ (b.take z).drop i) := by
  intro m
  induction m with
  | zero =>
    intro i k acc hi hk ha
    obtain ⟨k, rfl⟩ : ∃ k', k = k' + 1 := ⟨k - 1, by omega⟩
    unfold bailiwickref1_Part.l0
    rw [if_neg (by omega), List.drop_of_length_le (by rw [List.length_take]; omega), List.append_nil]
  | succ m ih =>
    intro i k acc hi hk ha
    obtain ⟨k, rfl⟩ : ∃ k', k = k' + 1 := ⟨k - 1, by omega⟩
    have hit : i < (b.take z).length := by rw [List.length_take]; omega
    unfold bailiwickref1_Part.l0
    rw [if_pos (by omega), if_pos (by omega), if_pos (by omega), if_pos (by omega), wrap_1 i (by omega), ih (i + 1) k (acc ++ [rd b i]) (by omega) (by omega) (by simp; omega), List.append_assoc, List.drop_eq_getElem_cons hit]
    congr 3
    simp [rd, List.getD_eq_getElem?_getD, List.getElem?_eq_getElem (by omega : i < b.length)]
theorem part_f (b : List Int) (hl : b.length ≤ 1000000) (i z k : Nat) (hz : z ≤ b.length) (hi : i ≤ z) (hk : z - i + 1 ≤ k) : bailiwickref1_Part.f k b (i : Int) (z : Int) = some ((b.take z).drop i) := by
  unfold bailiwickref1_Part.f
  rw [part_l0 b hl z hz (z - i) i k [] (by omega) (by omega) (Nat.zero_le _)]
  rfl
theorem four {q : List Int} (h : q.length = 4) : q = [rd q 0, rd q 1, rd q 2, rd q 3] := by
  match q, h with
  | [a, b, c, d], _ => rfl
theorem be4_iff {q : List Int} (h : q.length = 4) (hB : Byt q) {c : Int} (hc : 0 ≤ c ∧ c ≤ 4294967295) : be4 c = q ↔ beN q = c := by
  have h0 := hB.rd 0
  have h1 := hB.rd 1
  have h2 := hB.rd 2
  have h3 := hB.rd 3
  have hq := four h
  have e0 : rd q ((0 : Nat) : Int) = rd q 0 := rfl
  have e1 : rd q ((1 : Nat) : Int) = rd q 1 := rfl
  have e2 : rd q ((2 : Nat) : Int) = rd q 2 := rfl
  have e3 : rd q ((3 : Nat) : Int) = rd q 3 := rfl
  rw [e0] at h0
  rw [e1] at h1
  rw [e2] at h2
  rw [e3] at h3
  generalize rd q 0 = x0 at *
  generalize rd q 1 = x1 at *
  generalize rd q 2 = x2 at *
  generalize rd q 3 = x3 at *
  subst hq
  unfold be4 beN
  simp only [List.cons.injEq, and_true, List.foldl_cons, List.foldl_nil]
  constructor
  · rintro ⟨h4, h5, h6, h7⟩; omega
  · intro h4; refine ⟨?_, ?_, ?_, ?_⟩ <;> omega
theorem take_split (l : List Int) (n : Nat) (h : n + 7 ≤ l.length) : l.take (n + 7) = [rd l 0, rd l 1] ++ (l.take (2 + n)).drop 2 ++ ((l.drop (n + 2)).take 4 ++ [rd l (n + 6 : Nat)]) := by
  have h6 : l.take (n + 7) = l.take (n + 6) ++ [rd l (n + 6 : Nat)] := take_snoc_rd l (n + 6) (by omega)
  have h2 : l.take (n + 6) = l.take (n + 2) ++ (l.drop (n + 2)).take 4 := by rw [show n + 6 = (n + 2) + 4 by omega, List.take_add]
  have h1 : l.take (n + 2) = l.take 2 ++ (l.take (2 + n)).drop 2 := by
    have h3 := List.take_append_drop 2 (l.take (2 + n))
    rw [List.take_take, Nat.min_eq_left (by omega)] at h3
    rw [Nat.add_comm n 2]
    exact h3.symm
  have h0 : l.take 2 = [rd l 0, rd l 1] := by
    match l, h with
    | [], h => simp at h
    | [a], h => simp at h
    | a :: b :: r, _ => rfl
  rw [h6, h2, h1, h0, List.append_assoc, List.append_assoc]
/-- A frame stands first just if the document says so. -/
theorem isF_iff {l : List Int} (hB : Byt l) : isF l ↔ (8 ≤ l.length ∧ rd l 0 = 90 ∧ 1 ≤ rd l 1 ∧ rd l 1 ≤ 56 ∧ rd l 1 + 7 ≤ (l.length : Int) ∧ rd l ((rd l 1).toNat + 6 : Nat) = 165 ∧ beN ((l.drop ((rd l 1).toNat + 2)).take 4) = crcN (bodyL l)) := by
  have key : rd l 0 = 90 → 1 ≤ rd l 1 → rd l 1 ≤ 56 → rd l 1 + 7 ≤ (l.length : Int) → (frameL (bodyL l) = l.take ((rd l 1).toNat + 7) ↔ (rd l ((rd l 1).toNat + 6 : Nat) = 165 ∧ beN ((l.drop ((rd l 1).toNat + 2)).take 4) = crcN (bodyL l))) := by
    intro h0 h1 h2 h3
    obtain ⟨n, hn⟩ := Int.eq_ofNat_of_zero_le (show 0 ≤ rd l 1 by omega)
    have hbl : bodyL l = (l.take (2 + n)).drop 2 := by unfold bodyL; rw [hn]; rfl
    have hlen : ((l.take (2 + n)).drop 2).length = n := by rw [List.length_drop, List.length_take]; omega
    rw [hn, Int.toNat_natCast, take_split l n (by omega), hbl, h0, hn]
    unfold frameL
    rw [hlen, List.append_right_inj]
    have hq : ((l.drop (n + 2)).take 4).length = 4 := by rw [List.length_take, List.length_drop]; omega
    have hcr := crcN_range ((l.take (2 + n)).drop 2)
    constructor
    · intro h
      obtain ⟨h4, h5⟩ := List.append_inj h (by rw [hq]; rfl)
      injection h5 with h5 _
      exact ⟨h5.symm, (be4_iff hq ((hB.drop _).take _) hcr).1 h4⟩
    · rintro ⟨h4, h5⟩
      rw [(be4_iff hq ((hB.drop _).take _) hcr).2 h5, h4]
  unfold isF
  constructor
  · rintro ⟨h1, h2, h3, h4, h5, h6⟩
    obtain ⟨a, b⟩ := (key h2 h3 h4 h5).1 h6
    exact ⟨by omega, h2, h3, h4, h5, a, b⟩
  · rintro ⟨h1, h2, h3, h4, h5, h6, h7⟩
    exact ⟨by omega, h2, h3, h4, h5, (key h2 h3 h4 h5).2 ⟨h6, h7⟩⟩
/-- A frame that is laid comes first, whatever is behind it. -/
theorem isF_frame (b more : List Int) (hn : 1 ≤ b.length ∧ b.length ≤ 56) : isF (frameL b ++ more) ∧ bodyL (frameL b ++ more) = b := by
  have h0 : rd (frameL b ++ more) 0 = 90 := rfl
  have h1 : rd (frameL b ++ more) 1 = (b.length : Int) := rfl
  have hl := frameL_len b
  have hb : bodyL (frameL b ++ more) = b := by
    unfold bodyL
    rw [h1, Int.toNat_natCast]
    have e : frameL b ++ more = [90, (b.length : Int)] ++ (b ++ ((be4 (crcN b) ++ [165]) ++ more)) := by unfold frameL; simp [List.append_assoc]
    rw [e, List.take_append, List.drop_append]
    have h2 : ([90, (b.length : Int)] : List Int).length = 2 := rfl
    rw [h2, List.take_of_length_le (by rw [h2]; omega), show 2 + b.length - 2 = b.length by omega]
    simp
  refine ⟨⟨by rw [List.length_append]; omega, h0, by rw [h1]; omega, by rw [h1]; omega, by rw [h1, List.length_append]; omega, ?_⟩, hb⟩
  rw [hb, h1, Int.toNat_natCast, ← hl, List.take_left]
end Go.Proofs.Ytldddinebhopcaa.St
namespace Go.Proofs.Ytldddinebhopcaa.St
open Go.RowKit Go.Shelf Go.Proofs.YtldddinebhopcaaW.PrintWords Go.Proofs.YtldddinebhopcaaW.PrintLast Go.Proofs.YtldddinebhopcaaW.PrintMore Go.Proofs.Ytldddinebhopcaa.Bs Go.Proofs.Ytldddinebhopcaa.Fr Go.Proofs.Ytldddinebhopcaa.Oct Go.Proofs.Ytldddinebhopcaa.Sec Go.Proofs.Ytldddinebhopcaa.Rg Go.Proofs.Ytldddinebhopcaa.PStrandPlays
set_option linter.unusedVariables false
set_option linter.unusedSimpArgs false
/-- One byte is appended. -/
theorem RFrame_bad (A : Option Addr) (n c : Nat) (w : World) (hn : n = 0 ∨ 56 < n) :
    Calls Try.prog 17 #[.slice A n c] w fun e w' => e = .returned (.tuple #[.slice none 0 0, .int .i64 (if n = 0 then 1 else 3)]) ∧ w = w' := by
  rcases hn with rfl | hn
  · go_enter Try.func17, Try.ntmps17
    go_wp2
    go_ret2
    exact ⟨rfl, rfl⟩
  · have h0 : ((n : Int) == 0) = false := beq_eq_false_iff_ne.mpr (by omega)
    have h1 : (n : Int) > 56 := by omega
    have h1b := decide_eq_true h1
    have HE : Aside0 ((if n = 0 then (1 : Int) else 3) = 3) := ⟨if_neg (by omega)⟩
    clear hn
    go_enter Try.func17, Try.ntmps17
    go_wp2
    go_ret2
    exact ⟨by first | rfl | (rw [HE.out]; rfl), rfl⟩
set_option maxHeartbeats 2000000 in
set_option maxRecDepth 100000 in
theorem RFrame_calls (A : Option Addr) (c : Nat) (b : List Int) (w : World) (hC : Kd.C (Kd.int .u8) w A b.length b) (hc : b.length ≤ c) (hn : 1 ≤ b.length ∧ b.length ≤ 56) (hB : Byt b) :
    Calls Try.prog 17 #[.slice A b.length c] w fun e w' => ∃ v, e = .returned (.tuple #[v, .int .i64 0]) ∧ Kd.R (Kd.int .u8) 5 w' w.heap.size (fun _ => True) v (frameL b) ∧ Below w.heap.size w w' := by
  have HC := Aside0.mk hC
  have HB := Aside0.mk hB
  have HN := Aside0.mk hn
  have HCC := Aside0.mk hc
  have h0 : ((b.length : Int) == 0) = false := beq_eq_false_iff_ne.mpr (by omega)
  have h1 : ¬ (b.length : Int) > 56 := by omega
  have h1b := decide_eq_false h1
  have hl : 0 ≤ (b.length : Int) ∧ (b.length : Int) ≤ 56 := by omega
  clear hC hB hn hc
  go_enter Try.func17, Try.ntmps17
  go_upto_region 6 with fail
  have R0 : Aside0 (Kd.R (Kd.int .u8) 5 (w.alloc (.cells #[.int .u8 90, .int .u8 (b.length : Int)] 5)) w.heap.size (fun _ => True) (.slice (some ⟨w.heap.size, 0, none⟩) 2 2) ([90, (b.length : Int)] ++ b.take 0)) := ⟨by
    rw [List.take_zero, List.append_nil]
    exact Kd.R_mono (lit_R (enc := Value.int .u8) (h1 := fun _ => rfl) (e := 5) w w.heap.size (Nat.le_refl _) [90, (b.length : Int)] (by simp)) (fun _ _ => trivial)⟩
  have B0 := Aside0.mk (below_alloc (Below.refl w.heap.size w) (.cells #[.int .u8 90, .int .u8 (b.length : Int)] 5))
  go_wp2_with fail
  go_loopg [4, 5] b.length (fun q v4 v5 wr => ∃ i : Nat, v5 = .int .i64 (i : Int) ∧ Aside0 (i + q = b.length) ∧ Aside0 (Kd.R (Kd.int .u8) 5 wr w.heap.size (fun _ => True) v4 ([90, (b.length : Int)] ++ b.take i)) ∧ Aside0 (Below w.heap.size w wr))
  case atStart => exact ⟨0, rfl, ⟨by omega⟩, R0, B0⟩
  case round =>
    clear R0 B0
    obtain ⟨i, rfl, Hi, RI, BI⟩ := hrel
    obtain ⟨A4, c4, rfl⟩ := Kd.R_slice RI.out
    cases gk with
    | zero =>
      have hlt : ¬ ((i : Int) < (b.length : Int)) := by have := Hi.out; omega
      have hlb := decide_eq_false hlt
      have HT : Aside0 (b.take i = b) := ⟨List.take_of_length_le (by have := Hi.out; omega)⟩
      have RB := RI.out
      rw [HT.out] at RB
      have RBB := Aside0.mk RB
      have HLL : Aside0 (([90, (b.length : Int)] ++ b.take i).length = b.length + 2) := ⟨by rw [HT.out, List.length_append]; show 2 + b.length = _; omega⟩
      rw [HT.out] at HLL ⊢
      obtain ⟨L, hL⟩ : ∃ L, [90, (b.length : Int)] ++ b = L := ⟨_, rfl⟩
      have HLE := Aside0.mk hL
      rw [hL] at RBB HLL ⊢
      clear RB RI hL
      have CB := Aside0.mk (Kd.C_below HC.out BI.out)
      go_wp2_with fail
      refine (RCrc_calls A c b wr CB.out HCC.out (by have h := HN.out.2; exact Nat.le_trans h (by decide)) HB.out).mono ?_
      rintro e w1 ⟨rfl, rfl⟩
      have hr := crcN_range b
      have HFR : Aside0 (frameL b = L ++ (be4 (crcN b) ++ [165])) := ⟨by rw [← HLE.out]; rfl⟩
      generalize crcN b = x at *
      go_wp2_with fail
      refine (bailiwickref1_Lay.calls 6 (fun _ => True) (.slice A4 L.length c4) L 4 x (L ++ be4 x) w wr BI.out RBB.out (lay4 0 L x hr.1 (by omega) (by have h1 := HLL.out; have h2 := HN.out; omega))).mono ?_
      rintro e w2 ⟨v2, rfl, hr2, hb2, _⟩
      have R2 : Aside0 (Kd.R (Kd.int .u8) 5 w2 w.heap.size (fun _ => True) v2 (L ++ be4 x)) := ⟨Kd.R_mono hr2 (fun _ _ => trivial)⟩
      have B2 := Aside0.mk hb2
      have HL2 : Aside0 ((L ++ be4 x).length = b.length + 6) := ⟨by rw [List.length_append, HLL.out]; rfl⟩
      obtain ⟨A2, c2, ev⟩ := Kd.R_slice hr2
      subst ev
      clear hr2 hb2 hr
      obtain ⟨M, hM⟩ : ∃ M, L ++ be4 x = M := ⟨_, rfl⟩
      have HFM : Aside0 (M ++ [165] = frameL b) := ⟨by rw [HFR.out, ← hM, List.append_assoc]⟩
      rw [hM] at R2 HL2 ⊢
      clear hM
      have HAL : Aside0 ((M.length + 1) * 1 ≤ 140737488355328) := ⟨by have h1 := HL2.out; have h2 := HN.out; omega⟩
      go_wp2_with ((with_reducible refine gate_builtin (b := .append) (xs := #[.tmp 34, .tmp 35]) rfl ?_); at_builtin; go_loud (refine Kd.R_append (Kd.int .u8) (w0 := w) w.heap.size rfl (.tmp 34) (.tmp 35) 23 5 (.int .u8 0) 1 rfl Try.underlying23 infoU rfl (by decide) (by decide) (.slice A2 M.length c2) M 165 [.int .u8 165] (fun _ => True) (fun _ => False) rfl rfl rfl (fun _ hk => hk.elim) (fun _ _ => trivial) R2.out B2.out B2.out.size HAL.out ?_); intro v3 w3 hr_ hb_ _ _; have R3 := Aside0.mk hr_; have B3 := Aside0.mk hb_; clear hr_ hb_)
      go_ret2
      exact ⟨v3, rfl, by rw [← HFM.out]; exact R3.out, B3.out⟩
    | succ q =>
      have hlt : (i : Int) < (b.length : Int) := by have := Hi.out; omega
      have hlb := decide_eq_true hlt
      have hi0 : (0 : Int) ≤ i ∧ (i : Int) < (b.length : Int) := ⟨by omega, hlt⟩
      have hil : (i : Int) ≤ 56 := by omega
      obtain ⟨ad, e1, cb⟩ := at_one HC.out (i : Int) (by omega) hlt
      subst e1
      rw [Int.toNat_natCast] at cb
      have cb1 := pw_cell_below BI.out cb
      have HTS : Aside0 (([90, (b.length : Int)] ++ b.take i) ++ [rd b i] = [90, (b.length : Int)] ++ b.take (i + 1)) := ⟨by rw [take_snoc_rd b i (by omega), List.append_assoc]⟩
      have HLI : Aside0 (([90, (b.length : Int)] ++ b.take i).length ≤ 60) := ⟨by rw [List.length_append, List.length_take]; show 2 + _ ≤ 60; have := HN.out; omega⟩
      clear cb
      obtain ⟨L, hL⟩ : ∃ L, [90, (b.length : Int)] ++ b.take i = L := ⟨_, rfl⟩
      rw [hL] at RI HTS HLI
      rw [hL]
      clear hL
      have HAL : Aside0 ((L.length + 1) * 1 ≤ 140737488355328) := ⟨by have h1 := HLI.out; omega⟩
      go_wp2_with ((with_reducible refine gate_builtin (b := .append) (xs := #[.tmp 22, .tmp 27]) rfl ?_); at_builtin; go_loud (refine Kd.R_append (Kd.int .u8) (w0 := w) w.heap.size rfl (.tmp 22) (.tmp 27) 23 5 (.int .u8 0) 1 rfl Try.underlying23 infoU rfl (by decide) (by decide) (.slice A4 L.length c4) L (rd b i) [.int .u8 (rd b i)] (fun _ => True) (fun _ => False) rfl rfl rfl (fun _ hk => hk.elim) (fun _ _ => trivial) RI.out BI.out BI.out.size HAL.out ?_); intro v3 w3 hr_ hb_ _ _; have R3 := Aside0.mk hr_; have B3 := Aside0.mk hb_; clear hr_ hb_)
      go_roundg q
      case measure => omega
      case rel => exact ⟨i + 1, by go_num, ⟨by have := Hi.out; omega⟩, ⟨by rw [← HTS.out]; exact R3.out⟩, B3⟩
theorem Frame_bad (A : Option Addr) (n c : Nat) (w : World) (hn : n = 0 ∨ 56 < n) :
    Calls Try.prog 11 #[.slice A n c] w fun e w' => e = .returned (.tuple #[.slice none 0 0, .int .i64 (if n = 0 then 1 else 3)]) ∧ w = w' := by
  rcases hn with rfl | hn
  · exact Frame_nil A c w
  · rw [if_neg (by omega)]
    exact Frame_long A n c w hn
theorem C_none (w : World) : Kd.C (Kd.int .u8) w none ([] : List Int).length [] := Kd.C_nil _ _
set_option maxHeartbeats 4000000 in
set_option maxRecDepth 100000 in
theorem frames_walk (w : World) (A : Option Addr) (c : Nat) (b : List Int) (hC : Kd.C (Kd.int .u8) w A b.length b) (hc : b.length ≤ c) (hm : b.length * 1 ≤ 140737488351232) (hw : ∀ x ∈ b, (Lit.int .u8 x).wf = true)
    (A1 : Option Addr) (c1 : Nat) (k : List Int) (hC1 : Kd.C (Kd.int .u8) w A1 k.length k) (hc1 : k.length ≤ c1) (hm1 : k.length * 1 ≤ 140737488351232) (hw1 : ∀ x ∈ k, (Lit.int .u8 x).wf = true) :
    Calls Try.prog 4 #[.slice A b.length c, .slice A1 k.length c1] w fun e w' => e = .returned (.bool true) ∧ Below w.heap.size w w' := by
  have HC := Aside0.mk hC
  have HC1 := Aside0.mk hC1
  have HCC := Aside0.mk hc
  have HCC1 := Aside0.mk hc1
  have HB := Aside0.mk (bytes_wf hw)
  have HB1 := Aside0.mk (bytes_wf hw1)
  have hbl : (0 : Int) ≤ (b.length : Int) := by omega
  have hkl : (0 : Int) ≤ (k.length : Int) := by omega
  clear hC hC1 hc hc1 hw hw1
  go_enter Try.func4, Try.ntmps4
  go_wp2_with fail
  refine (awake_calls w).mono ?_
  rintro e w0 ⟨rfl, hb0⟩
  have B0 := Aside0.mk hb0
  have C0 := Aside0.mk (Kd.C_below HC.out hb0)
  have C10 := Aside0.mk (Kd.C_below HC1.out hb0)
  clear hb0
  by_cases h1 : (b.length : Int) > 1000
  · have h1b := decide_eq_true h1
    go_wp2
    go_ret
    exact ⟨rfl, B0.out⟩
  have h1b := decide_eq_false h1
  by_cases h2 : (k.length : Int) > 5000
  · have h2b := decide_eq_true h2
    go_wp2
    go_ret
    exact ⟨rfl, B0.out⟩
  have h2b := decide_eq_false h2
  have HL : Aside0 (b.length ≤ 1000 ∧ k.length ≤ 5000) := ⟨by omega⟩
  by_cases hbad : b.length = 0 ∨ 56 < b.length
  · have HBAD := Aside0.mk hbad
    obtain ⟨x, hx⟩ : ∃ x : Int, (if b.length = 0 then (1 : Int) else 3) = x := ⟨_, rfl⟩
    have HX := Aside0.mk hx
    have hxn : x ≠ 0 := by rw [← hx]; split <;> omega
    have hxb : (x != 0) = true := bne_iff_ne.mpr hxn
    have hxx : (x != x) = false := by simp
    clear hbad hx hxn
    go_wp2_with fail
    refine (Frame_bad A b.length c w0 HBAD.out).mono ?_
    rintro e w1 ⟨rfl, rfl⟩
    rw [HX.out]
    go_wp2_with fail
    refine (RFrame_bad A b.length c w0 HBAD.out).mono ?_
    rintro e w1 ⟨rfl, rfl⟩
    rw [HX.out]
    go_wp2_with fail
    refine (same_any w0 none none 0 0 [] [] (by decide) (C_none w0) (Nat.le_refl _) (C_none w0) (Nat.le_refl _)).mono ?_
    rintro e w1 ⟨rfl, hb1⟩
    have B1 := Aside0.mk (below_step B0.out hb1)
    have hdd : decide (([] : List Int) = []) = true := rfl
    rw [hdd]
    go_wp2
    go_ret
    exact ⟨rfl, B1.out⟩
  have HN : Aside0 (1 ≤ b.length ∧ b.length ≤ 56) := ⟨by omega⟩
  clear hbad
  go_wp2_with fail
  refine (Frame_calls A c b w0 C0.out HCC.out HN.out HB.out).mono ?_
  rintro e w1 ⟨v1, rfl, hr1, hb1⟩
  obtain ⟨Af, cf, ev⟩ := Kd.R_slice hr1
  subst ev
  have CF1 := Aside0.mk (Kd.R_reads' hr1).2.2
  have HCF := Aside0.mk (Kd.R_reads' hr1).2.1
  have B1 := Aside0.mk (below_step B0.out hb1)
  have C1 := Aside0.mk (Kd.C_below C0.out hb1)
  have C11 := Aside0.mk (Kd.C_below C10.out hb1)
  clear hr1 hb1 C0 C10 B0
  go_wp2_with fail
  refine (RFrame_calls A c b w1 C1.out HCC.out HN.out HB.out).mono ?_
  rintro e w2 ⟨v2, rfl, hr2, hb2⟩
  obtain ⟨Ag, cg, ev⟩ := Kd.R_slice hr2
  subst ev
  have CG2 := Aside0.mk (Kd.R_reads' hr2).2.2
  have HCG := Aside0.mk (Kd.R_reads' hr2).2.1
  have B2 := Aside0.mk (below_step B1.out hb2)
  have C2 := Aside0.mk (Kd.C_below C1.out hb2)
  have C12 := Aside0.mk (Kd.C_below C11.out hb2)
  have CF2 := Aside0.mk (Kd.C_below CF1.out hb2)
  clear hr2 hb2 C1 C11 B1 CF1
  have HFL := Aside0.mk (frameL_len b)
  have HFB := Aside0.mk (frameL_byt b HB.out HN.out.2)
  obtain ⟨F1, F2⟩ := isF_frame b k HN.out
  have HSC : Aside0 (∃ R, scanL (frameL b ++ k) = b :: R) := ⟨⟨_, by rw [scanL_yes _ F1, F2]⟩⟩
  obtain ⟨F, hF⟩ : ∃ F, frameL b = F := ⟨_, rfl⟩
  rw [hF] at CF2 CG2 HFL HFB HSC HCF HCG ⊢
  clear hF F1 F2
  go_wp2_with fail
  refine (same_any w2 Af Ag cf cg F F (by have h1 := HFL.out; have h2 := HN.out; omega) CF2.out HCF.out CG2.out HCG.out).mono ?_
  rintro e w3 ⟨rfl, hb3⟩
  rw [decide_eq_true (rfl : F = F)]
  have B3 := Aside0.mk (below_step B2.out hb3)
  have C3 := Aside0.mk (Kd.C_below C2.out hb3)
  have C13 := Aside0.mk (Kd.C_below C12.out hb3)
  have CF3 := Aside0.mk (Kd.C_below CF2.out hb3)
  clear hb3 C2 C12 B2 CF2 CG2
  go_wp2_with fail
  refine (copy_calls w3 Af cf F (by have h1 := HFL.out; have h2 := HN.out; omega) CF3.out HCF.out).mono ?_
  rintro e w4 ⟨v4, rfl, hr4, hb4⟩
  obtain ⟨A4, c4, ev⟩ := Kd.R_slice hr4
  subst ev
  have R4 : Aside0 (Kd.R (Kd.int .u8) 5 w4 w3.heap.size (fun _ => True) (.slice A4 F.length c4) F) := ⟨hr4⟩
  have BD4 := Aside0.mk hb4
  have C4 := Aside0.mk (Kd.C_below C3.out hb4)
  have C14 := Aside0.mk (Kd.C_below C13.out hb4)
  clear hr4 hb4 C13
  have HAL : Aside0 ((F.length + k.length) * 1 ≤ 140737488355328) := ⟨by have h1 := HFL.out; have h2 := HN.out; have h3 := HL.out; omega⟩
  go_wp2_with ((with_reducible refine gate_builtin (b := .append) (xs := #[.tmp 42, .tmp 43]) rfl ?_); at_builtin; go_loud (refine Kd.R_append_row (Value.int .u8) (0 : Int) (w0 := w3) w3.heap.size rfl (.tmp 42) (.tmp 43) 23 5 (.int .u8 0) 1 rfl Try.underlying23 infoU rfl (Nat.succ_pos _) (.slice A4 F.length c4) F k A1 k.length c1 (fun _ => True) rfl rfl (fun _ _ => trivial) R4.out C14.out BD4.out BD4.out.size HAL.out ?_); intro v5 w5 hr_ hb_ hg_ _; have BD5 := Aside0.mk hb_; have C5 := Aside0.mk (Kd.C_below C3.out hb_); obtain ⟨A5, c5, ev⟩ := Kd.R_slice hr_; obtain ⟨n5, hn5⟩ : ∃ n5, n5 = (F ++ k).length := ⟨_, rfl⟩; have HN5 := Aside0.mk hn5; rw [← hn5] at ev; subst ev; have CL5 := Aside0.mk (Kd.R_reads' hr_).2.2; have HCL := Aside0.mk (R_same hr_).2.1; clear hr_ hb_ hg_ hn5)
  have hS := Scan_calls A5 c5 (F ++ k) w5 CL5.out HCL.out (by rw [List.length_append]; have h1 := HFL.out; have h2 := HN.out; have h3 := HL.out; omega) (Byt.app HFB.out HB1.out)
  rw [← HN5.out] at hS
  refine hS.mono ?_
  clear hS
  rintro e w6 ⟨v6, rfl, hr6, hb6⟩
  have R6 := Aside0.mk hr6
  have BD6 := Aside0.mk hb6
  clear hr6 hb6
  obtain ⟨R, hR⟩ := HSC.out
  have R6' := R6.out
  rw [hR] at R6'
  have HRE := Aside0.mk hR
  have HLR : Aside0 ((scanL (F ++ k)).length ≤ 10000) := ⟨by have h0 := scanM_len ((F ++ k).length + 1) (F ++ k); rw [List.length_append] at h0; have h1 := HFL.out; have h2 := HN.out; have h3 := HL.out; show (scanM _ _).length ≤ _; rw [List.length_append]; omega⟩
  rw [hR] at HLR
  obtain ⟨g6, c6, ev, _⟩ := Kd.R_form R6' (by simp)
  subst ev
  obtain ⟨cs, hcl, hM, hcc, _⟩ := Kd.R_elem R6' ([] : List Int) 0 (by decide) (by rw [List.length_cons]; omega)
  obtain ⟨v7, rfl, hR7⟩ := hM
  obtain ⟨A7, c7, ev⟩ := Kd.R_slice hR7
  subst ev
  have hR7 : Kd.R (Kd.int .u8) 5 w6 w5.heap.size _ (.slice A7 b.length c7) b := hR7
  have kk : w6.cell? ⟨g6, 0, none⟩ = some (.slice A7 b.length c7) := hcc 0 _ rfl
  have C7 := Aside0.mk (Kd.R_reads' hR7).2.2
  have HC7 := Aside0.mk (Kd.R_reads' hR7).2.1
  have C6 := Aside0.mk (Kd.C_below C5.out BD6.out)
  have hge : ((b :: R).length : Int) ≥ 1 := by rw [List.length_cons]; omega
  have hgb := decide_eq_true hge
  have hlen : (0 : Int) < ((b :: R).length : Int) := by omega
  have hfl : (F.length : Int) = (b.length : Int) + 7 := by have := HFL.out; omega
  have hfb : ((F.length : Int) == (b.length : Int) + 7) = true := beq_iff_eq.mpr hfl
  have hb56 : (b.length : Int) ≤ 56 := by have := HN.out; omega
  have BF : Aside0 (Below w.heap.size w w6) := ⟨below_step (below_then B3.out B3.out.size BD5.out) BD6.out⟩
  clear hcl hcc hR7 R6' hR R6 hfl
  go_wp2_with fail
  refine (same_any w6 A7 A c7 c b b (by have := HN.out; omega) C7.out HC7.out C6.out HCC.out).mono ?_
  rintro e w7 ⟨rfl, hb7⟩
  rw [decide_eq_true (rfl : b = b)]
  have B7 := Aside0.mk (below_step BF.out hb7)
  clear hb7
  go_wp2
  go_ret
  exact ⟨rfl, B7.out⟩
end Go.Proofs.Ytldddinebhopcaa.St
namespace Go.Proofs.Ytldddinebhopcaa.St
open Go.RowKit Go.Shelf Go.Proofs.YtldddinebhopcaaW.PrintWords Go.Proofs.YtldddinebhopcaaW.PrintLast Go.Proofs.YtldddinebhopcaaW.PrintMore Go.Proofs.Ytldddinebhopcaa.Bs Go.Proofs.Ytldddinebhopcaa.Fr Go.Proofs.Ytldddinebhopcaa.Oct Go.Proofs.Ytldddinebhopcaa.Sec Go.Proofs.Ytldddinebhopcaa.Rg Go.Proofs.Ytldddinebhopcaa.PStrandPlays
set_option linter.unusedVariables false
set_option linter.unusedSimpArgs false
/-- What the document says of the frame that is first. -/
def firstR (l : List Int) (w : World) (e : Ending) (w' : World) : Prop :=
  (¬ isF l ∧ e = .returned (.tuple #[.slice none 0 0, .int .i64 0]) ∧ Below w.heap.size w w') ∨
  (isF l ∧ ∃ v, e = .returned (.tuple #[v, .int .i64 (((rd l 1).toNat + 7 : Nat) : Int)]) ∧ Kd.R (Kd.int .u8) 5 w' w.heap.size (fun _ => True) v (bodyL l) ∧ Below w.heap.size w w')
set_option maxHeartbeats 4000000 in
set_option maxRecDepth 100000 in
theorem RFirst_calls (A : Option Addr) (c : Nat) (l : List Int) (w : World) (hC : Kd.C (Kd.int .u8) w A l.length l) (hc : l.length ≤ c) (hm : l.length ≤ 1000000) (hB : Byt l) :
    Calls Try.prog 49 #[.slice A l.length c] w fun e w' => firstR l w e w' := by
  have HC := Aside0.mk hC
  have HCC := Aside0.mk hc
  have HB := Aside0.mk hB
  have HM := Aside0.mk hm
  have HI := Aside0.mk (isF_iff hB)
  clear hC hc hB
  go_enter Try.func49, Try.ntmps49
  by_cases h8 : (l.length : Int) < 8
  · have h8b := decide_eq_true h8
    go_wp2
    go_ret2
    exact .inl ⟨fun h => by have := (HI.out.1 h).1; omega, rfl, Below.refl _ _⟩
  have h8b := decide_eq_false h8
  obtain ⟨ad, e1, _⟩ := at_one HC.out 0 (by omega) (by omega)
  subst e1
  have c0 := at_zero HC.out (by omega)
  obtain ⟨_, e2, c1⟩ := at_one HC.out 1 (by omega) (by omega)
  cases e2
  have c1' : w.cell? ⟨ad.block, ad.off + 1, none⟩ = some (.int .u8 (rd l 1)) := c1
  have hr1 := HB.out.rd 1
  rw [show ((1 : Nat) : Int) = 1 from rfl] at hr1
  have i0 : (0 : Int) ≤ 0 ∧ (0 : Int) < (l.length : Int) := by omega
  have i1 : (0 : Int) ≤ 1 ∧ (1 : Int) < (l.length : Int) := by omega
  clear c1
  by_cases h90 : rd l 0 = 90
  rotate_left
  · have h90b : (rd l 0 != 90) = true := by simpa using h90
    go_wp2
    go_ret2
    exact .inl ⟨fun h => h90 (HI.out.1 h).2.1, rfl, Below.refl _ _⟩
  have h90b : (rd l 0 != 90) = false := by simpa using h90
  have H90 := Aside0.mk h90
  clear h90
  by_cases hlo : rd l 1 < 1
  · have hlob := decide_eq_true hlo
    go_wp2
    go_ret2
    exact .inl ⟨fun h => by have := (HI.out.1 h).2.2.1; omega, rfl, Below.refl _ _⟩
  have hlob := decide_eq_false hlo
  by_cases hhi : rd l 1 > 56
  · have hhib := decide_eq_true hhi
    go_wp2
    go_ret2
    exact .inl ⟨fun h => by have := (HI.out.1 h).2.2.2.1; omega, rfl, Below.refl _ _⟩
  have hhib := decide_eq_false hhi
  obtain ⟨n, hn⟩ := Int.eq_ofNat_of_zero_le hr1.1
  have HN := Aside0.mk hn
  have hnr : 1 ≤ n ∧ n ≤ 56 := by omega
  have hbody : bodyL l = (l.take (2 + n)).drop 2 := by unfold bodyL; rw [hn]; rfl
  have HBD := Aside0.mk hbody
  rw [hn] at HI c1' hlob hhib hr1 hlo hhi
  rw [Int.toNat_natCast] at HI
  clear hn hbody
  by_cases hln : (l.length : Int) < (n : Int) + 7
  · have hlnb := decide_eq_true hln
    go_wp2
    go_ret2
    refine .inl ⟨fun h => by have := (HI.out.1 h).2.2.2.2.1; omega, rfl, Below.refl _ _⟩
  have hlnb := decide_eq_false hln
  obtain ⟨_, e3, c6⟩ := at_one HC.out ((n : Int) + 6) (by omega) (by omega)
  cases e3
  rw [show ((n : Int) + 6).toNat = n + 6 by omega] at c6
  have i6 : (0 : Int) ≤ (n : Int) + 6 ∧ (n : Int) + 6 < (l.length : Int) := by omega
  have h6n : ((n : Int) + 6).toNat = n + 6 := by omega
  have hr6 : rd l ((n : Int) + 6) = rd l (n + 6 : Nat) := by congr 1
  rw [← hr6] at HI
  rw [show ad.add (n + 6) = ⟨ad.block, ad.off + (n + 5 + 1), none⟩ by unfold Addr.add; rw [if_neg (by omega)]] at c6
  clear hr6
  by_cases h165 : rd l ((n : Int) + 6) = 165
  rotate_left
  · have h165b : (rd l ((n : Int) + 6) != 165) = true := by simpa using h165
    go_wp2
    go_ret2
    exact .inl ⟨fun h => h165 (HI.out.1 h).2.2.2.2.2.1, rfl, Below.refl _ _⟩
  have h165b : (rd l ((n : Int) + 6) != 165) = false := by simpa using h165
  have H165 := Aside0.mk h165
  have HLN : Aside0 (n + 7 ≤ l.length) := ⟨by omega⟩
  have HNR := Aside0.mk hnr
  clear h165
  have hp := bailiwickref1_Part.calls (n + 1) (some ad) c l 2 ((n : Int) + 2) ((l.take (2 + n)).drop 2) w HC.out HCC.out (by
    have h := part_f l hm 2 (2 + n) (n + 1) (by omega) (by omega) (by omega)
    rw [show ((2 + n : Nat) : Int) = (n : Int) + 2 by omega] at h
    exact h)
  go_wp2_with fail
  refine hp.mono ?_
  clear hp
  rintro e w1 ⟨v1, rfl, hrb, hb1⟩
  have HDL : Aside0 (((l.take (2 + n)).drop 2).length = n) := ⟨by rw [List.length_drop, List.length_take]; have := HLN.out; omega⟩
  have HDB : Aside0 (Byt ((l.take (2 + n)).drop 2)) := ⟨(HB.out.take _).drop _⟩
  obtain ⟨D, hD⟩ : ∃ D, (l.take (2 + n)).drop 2 = D := ⟨_, rfl⟩
  rw [hD] at hrb HDL HDB HBD
  rw [HBD.out] at HI
  clear hD
  obtain ⟨A1, c1x, ev⟩ := Kd.R_slice hrb
  rw [HDL.out] at ev
  subst ev
  have RB := Aside0.mk hrb
  have B1 := Aside0.mk hb1
  have C1 := Aside0.mk (Kd.C_below HC.out hb1)
  clear hrb hb1
  have hg := bailiwickref1_Get.calls 10 (some ad) c l ((n : Int) + 2) 4 (beN ((l.drop (n + 2)).take 4)) true w1 C1.out HCC.out (by
    have h := get4_f l HB.out hm (n + 2) (by have := HLN.out; omega)
    rw [show ((n + 2 : Nat) : Int) = (n : Int) + 2 by omega] at h
    exact h)
  go_wp2_with fail
  refine hg.mono ?_
  clear hg
  rintro e w2 ⟨rfl, hd2⟩
  have B2 := Aside0.mk (below_step B1.out hd2.below)
  have RB2 := Aside0.mk (Kd.R_below RB.out hd2.below)
  clear hd2
  have hbe := beN_range ((HB.out.drop (n + 2)).take 4)
  have hq4 : ((l.drop (n + 2)).take 4).length = 4 := by rw [List.length_take, List.length_drop]; have := HLN.out; omega
  rw [hq4, show (256 : Int) ^ 4 = 4294967296 by decide] at hbe
  clear hq4
  generalize beN ((l.drop (n + 2)).take 4) = x at *
  have hcr := crcN_range D
  have hS := RCrc_calls A1 c1x D w2 (Kd.R_reads' RB2.out).2.2 (by rw [HDL.out]; exact (Kd.R_reads' RB2.out).2.1) (by have h1 := HDL.out; have h2 := HNR.out; omega) HDB.out
  rw [HDL.out] at hS
  go_wp2_with fail
  refine hS.mono ?_
  clear hS
  rintro e w3 ⟨rfl, rfl⟩
  obtain ⟨y, hy⟩ : ∃ y, crcN D = y := ⟨_, rfl⟩
  rw [hy] at hcr HI ⊢
  clear hy
  by_cases hxy : x = y
  · have hxb : (x != y) = false := by simpa using hxy
    have HF : Aside0 (isF l) := ⟨HI.out.2 ⟨by have := HLN.out; have := HNR.out; omega, H90.out, by have := HNR.out; omega, by have := HNR.out; omega, by have := HLN.out; omega, H165.out, hxy⟩⟩
    clear hxy
    go_wp2
    go_ret2
    refine .inr ⟨HF.out, _, ?_, by rw [HBD.out]; exact RB2.out, B2.out⟩
    rw [HN.out, Int.toNat_natCast]
    rfl
  · have hxb : (x != y) = true := by simpa using hxy
    have HF : Aside0 (¬ isF l) := ⟨fun h => hxy (HI.out.1 h).2.2.2.2.2.2⟩
    clear hxy
    go_wp2
    go_ret2
    exact .inl ⟨HF.out, rfl, B2.out⟩
set_option maxHeartbeats 4000000 in
set_option maxRecDepth 100000 in
theorem RScan_calls (A : Option Addr) (c : Nat) (l : List Int) (w : World) (hC : Kd.C (Kd.int .u8) w A l.length l) (hc : l.length ≤ c) (hm : l.length ≤ 1000000) (hB : Byt l) :
    Calls Try.prog 21 #[.slice A l.length c] w fun e w' => ∃ v, e = .returned v ∧ Kd.R kL 23 w' w.heap.size (fun _ => True) v (scanL l) ∧ Below w.heap.size w w' := by
  have HC := Aside0.mk hC
  have HCC := Aside0.mk hc
  have HB := Aside0.mk hB
  have HM := Aside0.mk hm
  clear hC hc hB hm
  go_enter Try.func21, Try.ntmps21
  go_upto_region 3 with fail
  go_loopg [3, 4] l.length (fun q v3 v4 wr => ∃ (at_ : Nat) (acc : List (List Int)), v4 = .int .i64 (at_ : Int) ∧ Aside0 (at_ + q = l.length) ∧ Aside0 (Kd.R kL 23 wr w.heap.size (fun _ => True) v3 acc) ∧ Aside0 (Below w.heap.size w wr) ∧ Aside0 (acc ++ scanL (l.drop at_) = scanL l))
  case atStart => exact ⟨0, [], rfl, ⟨by omega⟩, ⟨Kd.R_nil _ _ _ _ _⟩, ⟨Below.refl _ _⟩, ⟨rfl⟩⟩
  case round =>
    obtain ⟨at_, acc, rfl, Hq, RA, BA, HS⟩ := hrel
    have HAC : Aside0 (acc.length ≤ 1000000) := ⟨by
      have h1 := congrArg List.length HS.out
      rw [List.length_append] at h1
      have h2 := scanM_len (l.length + 1) l
      have h3 := HM.out
      have h4 : (scanL l).length = (scanM (l.length + 1) l).length := rfl
      omega⟩
    cases gk with
    | zero =>
      have hlt : ¬ ((at_ : Int) < (l.length : Int)) := by have := Hq.out; omega
      have hlb := decide_eq_false hlt
      have HF : Aside0 (acc = scanL l) := ⟨by have h := HS.out; rw [List.drop_of_length_le (by have := Hq.out; omega), scanL_no [] (fun h => by have := h.1; simp at this), List.append_nil] at h; exact h⟩
      go_wp2
      go_ret
      exact ⟨u3, rfl, by rw [← HF.out]; exact RA.out, BA.out⟩
    | succ q =>
      have hlt : (at_ : Int) < (l.length : Int) := by have := Hq.out; omega
      have hlb := decide_eq_true hlt
      have hal : 0 ≤ (at_ : Int) ∧ (at_ : Int) ≤ 1000000 := by have := HM.out; omega
      obtain ⟨A3, hcd, hcD, hcDL⟩ := print_drop_of (P := Try.prog) (Value.int .u8) 0 23 5 .i64 Try.underlying23 info5i.choose_spec.1 info5i.choose_spec.2 A c l (at_ : Int) (by omega) (by omega) HCC.out
      have t3 : ((at_ : Int)).toNat = at_ := by omega
      rw [t3] at hcd hcD hcDL
      have CD := Aside0.mk (Kd.C_below (Kd.C_of_reads (d := (0 : Int)) (h1 := fun _ => rfl) (hcD w (Kd.reads_of_C HC.out))) BA.out)
      have HDL := Aside0.mk hcDL
      have HDB : Aside0 (Byt (l.drop at_)) := ⟨HB.out.drop _⟩
      have HDM : Aside0 ((l.drop at_).length = q + 1) := ⟨by rw [List.length_drop]; have := Hq.out; omega⟩
      have HRS : Aside0 (∀ n, (l.drop at_).drop n = l.drop (at_ + n)) := ⟨fun n => List.drop_drop⟩
      clear hcD hcDL t3
      generalize l.drop at_ = E at *
      obtain ⟨A4, c4, ev⟩ := Kd.R_slice RA.out
      subst ev
      go_wp2_with fail
      refine (RFirst_calls A3 (c - at_) E wr CD.out HDL.out (by have h1 := HDM.out; have h2 := Hq.out; have h3 := HM.out; omega) HDB.out).mono ?_
      rintro e w1 (⟨hno, rfl, hb1⟩ | ⟨hyes, v1, rfl, hr1, hb1⟩)
      · have HNO := Aside0.mk hno
        have B1 := Aside0.mk (below_step BA.out hb1)
        have R1 := Aside0.mk (Kd.R_below RA.out hb1)
        have HF : Aside0 (acc = scanL l) := ⟨by have h := HS.out; rw [scanL_no E hno, List.append_nil] at h; exact h⟩
        clear hno hb1
        go_wp2
        go_ret
        exact ⟨_, rfl, by rw [← HF.out]; exact R1.out, B1.out⟩
      · have B1 := Aside0.mk (below_step BA.out hb1)
        have R1 := Aside0.mk (Kd.R_below RA.out hb1)
        have RB1 := Aside0.mk (Kd.R_lower (Kd.R_newR hr1 RA.out) BA.out.size)
        have HY := Aside0.mk hyes
        have HR7 := Aside0.mk (restL_len E hyes)
        have HNX : Aside0 ((acc ++ [bodyL E]) ++ scanL (restL E) = scanL l) := ⟨by have h := HS.out; rw [scanL_yes E hyes] at h; rw [List.append_assoc]; exact h⟩
        have HN7 : Aside0 ((rd E 1).toNat + 7 ≤ E.length) := ⟨by have h := hyes; unfold isF at h; omega⟩
        have HRE : Aside0 (restL E = l.drop (at_ + ((rd E 1).toNat + 7))) := ⟨HRS.out _⟩
        obtain ⟨A5, c5, ev⟩ := Kd.R_slice hr1
        obtain ⟨n5, hn5⟩ : ∃ n5, n5 = (bodyL E).length := ⟨_, rfl⟩
        rw [← hn5] at ev
        subst ev
        have HN5 := Aside0.mk hn5
        obtain ⟨n, hn⟩ : ∃ n, (rd E 1).toNat + 7 = n := ⟨_, rfl⟩
        rw [hn] at HN7 HRE ⊢
        have HNN : Aside0 (7 ≤ n) := ⟨by omega⟩
        have hnb : ((n : Int) == 0) = false := beq_eq_false_iff_ne.mpr (by omega)
        have hnr : 0 ≤ (n : Int) ∧ (n : Int) ≤ 1000000 := by have h1 := HN7.out; have h2 := HDM.out; have h3 := Hq.out; have h4 := HM.out; omega
        have HAL : Aside0 ((acc.length + 1) * 24 ≤ 140737488355328) := ⟨by have := HAC.out; omega⟩
        clear hyes hr1 hb1 hn hn5
        go_wp2_with ((with_reducible refine gate_builtin (b := .append) (xs := #[.tmp 21, .tmp 23]) rfl ?_); at_builtin; go_loud (refine Kd.R_append kL (w0 := w) w.heap.size rfl (.tmp 21) (.tmp 23) 40 23 (.slice none 0 0) 24 rfl Try.underlying40 infoL rfl (by decide) (by decide) (.slice A4 acc.length c4) acc (bodyL E) [.slice A5 n5 c5] (fun _ => True) (fun k => True ∧ some k ≠ Value.ownBlock (.slice A4 acc.length c4)) rfl rfl (kL_mk RB1.out) (fun k hk => ⟨trivial, hk.2⟩) (fun _ _ => trivial) R1.out B1.out B1.out.size HAL.out ?_); intro v8 w8 hr_ hb_ _ _; have R8 := Aside0.mk hr_; have B8 := Aside0.mk hb_; clear hr_ hb_)
        go_roundg (l.length - (at_ + n))
        case measure => have h1 := Hq.out; have h2 := HNN.out; omega
        case rel => exact ⟨at_ + n, _, by go_num, ⟨by have h1 := HN7.out; have h2 := HDM.out; have h3 := Hq.out; omega⟩, R8, B8, ⟨by rw [← HRE.out]; exact HNX.out⟩⟩
set_option maxHeartbeats 2000000 in
set_option maxRecDepth 100000 in
theorem scans_walk (w : World) (A : Option Addr) (c : Nat) (b : List Int) (hC : Kd.C (Kd.int .u8) w A b.length b) (hc : b.length ≤ c) (hm : b.length * 1 ≤ 140737488351232) (hw : ∀ x ∈ b, (Lit.int .u8 x).wf = true) :
    Calls Try.prog 5 #[.slice A b.length c] w fun e w' => e = .returned (.bool true) ∧ Below w.heap.size w w' := by
  have HC := Aside0.mk hC
  have HCC := Aside0.mk hc
  have HB := Aside0.mk (bytes_wf hw)
  have hbl : (0 : Int) ≤ (b.length : Int) := by omega
  clear hC hc hw
  go_enter Try.func5, Try.ntmps5
  go_wp2_with fail
  refine (awake_calls w).mono ?_
  rintro e w0 ⟨rfl, hb0⟩
  have B0 := Aside0.mk hb0
  have C0 := Aside0.mk (Kd.C_below HC.out hb0)
  clear hb0
  by_cases h1 : (b.length : Int) > 20000
  · have h1b := decide_eq_true h1
    go_wp2
    go_ret
    exact ⟨rfl, B0.out⟩
  have h1b := decide_eq_false h1
  have HL : Aside0 (b.length ≤ 20000) := ⟨by omega⟩
  go_wp2_with fail
  refine (Scan_calls A c b w0 C0.out HCC.out (by have := HL.out; omega) HB.out).mono ?_
  rintro e w1 ⟨v1, rfl, hr1, hb1⟩
  obtain ⟨A1, c1, ev⟩ := Kd.R_slice hr1
  subst ev
  have R1 := Aside0.mk hr1
  have B1 := Aside0.mk (below_step B0.out hb1)
  have C1 := Aside0.mk (Kd.C_below C0.out hb1)
  clear hr1 hb1
  go_wp2_with fail
  refine (RScan_calls A c b w1 C1.out HCC.out (by have := HL.out; omega) HB.out).mono ?_
  rintro e w2 ⟨v2, rfl, hr2, hb2⟩
  obtain ⟨A2, c2, ev⟩ := Kd.R_slice hr2
  subst ev
  have R2 := Aside0.mk hr2
  have R12 := Aside0.mk (Kd.R_below R1.out hb2)
  have B2 := Aside0.mk (below_step B1.out hb2)
  have HSL : Aside0 ((scanL b).length ≤ 1000000 ∧ ∀ x ∈ scanL b, x.length ≤ 1000000) := ⟨by
    have h1 := scanM_len (b.length + 1) b
    have h2 := HL.out
    refine ⟨?_, fun x hx => ?_⟩
    · show (scanM (b.length + 1) b).length ≤ _; omega
    · have := scanM_short _ _ x hx; omega⟩
  clear hr2 hb2
  generalize scanL b = L at *
  go_wp2_with fail
  refine (same8_calls w2 A1 A2 c1 c2 L L HSL.out.1 HSL.out.2 (R_same R12.out).2.2 (R_same R12.out).2.1 (R_same R2.out).2.2 (R_same R2.out).2.1).mono ?_
  rintro e w3 ⟨rfl, hb3⟩
  rw [decide_eq_true (rfl : L = L)]
  have B3 := Aside0.mk (below_step B2.out hb3)
  clear hb3
  go_wp2
  go_ret
  exact ⟨rfl, B3.out⟩
end Go.Proofs.Ytldddinebhopcaa.St
