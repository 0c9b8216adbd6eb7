/- chapter 25's document: plain laws of what is printed. -/
import Derived.Test.YtpjkbokojlpjoaaAskP
import Derived.Test.YtpjkbokojlpjoaaPAskReadsx2
namespace Go.Proofs.Ytpjkbokojlpjoaa.Ak
open Go.RowKit Go.Proofs.YtpjkbokojlpjoaaW.PrintWords Go.Proofs.YtpjkbokojlpjoaaW.PrintLast Go.Proofs.YtpjkbokojlpjoaaW.PrintMore Go.Proofs.Ytpjkbokojlpjoaa.Bs Go.Proofs.Ytpjkbokojlpjoaa.Fr Go.Proofs.Ytpjkbokojlpjoaa.Oct
open Go.Proofs.Ytpjkbokojlpjoaa.PAskReads
set_option linter.unusedVariables false
set_option linter.unusedSimpArgs false

theorem i64_or_byte (x y : Int) (hx : 0 ≤ x ∧ x ≤ 255) (hy : 0 ≤ y ∧ y ≤ 255) : Go.bits .or .i64 (x * 256) y = x * 256 + y := by
  obtain ⟨a, rfl⟩ := Int.eq_ofNat_of_zero_le hx.1
  obtain ⟨b, rfl⟩ := Int.eq_ofNat_of_zero_le hy.1
  have e0 : (a : Int) * 256 = ((2 ^ 8 * a : Nat) : Int) := by omega
  rw [e0]
  show IntKind.i64.wrap ((BitVec.ofInt 64 ((2 ^ 8 * a : Nat) : Int) ||| BitVec.ofInt 64 (b : Int)).toNat : Int) = _
  rw [BitVec.toNat_or, ofInt_u64 _ (by omega), ofInt_u64 b (by omega), ← Nat.two_pow_add_eq_or_of_lt (by omega : b < 2 ^ 8)]
  rw [IntKind.wrap_i64]
  omega
theorem wrap_id (x : Int) (h : -9223372036854775808 ≤ x ∧ x ≤ 9223372036854775807) : wrap64 x = x := by unfold wrap64; omega
theorem word_f (b : List Int) (hB : Byt b) (i : Nat) (hi : i ≤ 2000) (h : i + 2 ≤ b.length) : bailiwickref25_word.f b (i : Int) = some (getV b (i : Nat) 2) := by
  have h0 := hB.rd i
  have h1 := hB.rd (i + 1)
  have w1 : wrap64 ((i : Int) + 1) = ((i + 1 : Nat) : Int) := wrap_1 i (by omega)
  unfold bailiwickref25_word.f
  rw [w1, if_pos (by omega), if_pos (by omega), if_pos (by omega), if_pos (by omega), wrap_id (rd b i) (by omega), wrap_id (rd b (i + 1 : Nat)) (by omega), wrap_id (rd b i * 256) (by omega), i64_or_byte _ _ h0 h1, getV2 b i h]
theorem rget_l0 (b : List Int) (hB : Byt b) (hl : b.length ≤ 2000) (h24 : 24 ≤ b.length) : ∀ (m i k : Nat), i + m = 4 → m + 1 ≤ k → bailiwickref1_Get.l0 k b 4 4 (beN ((b.drop 4).take i)) (i : Int) = some (getV b 4 4, true) := by
  intro m
  induction m with
  | zero =>
    intro i k hi hk
    obtain ⟨k, rfl⟩ : ∃ k', k = k' + 1 := ⟨k - 1, by omega⟩
    have : i = 4 := by omega
    subst this
    unfold bailiwickref1_Get.l0
    rw [if_neg (by omega)]
    unfold getV
    have hm : mayB b.length 4 4 = true := decide_eq_true ⟨by decide, by decide, by decide, by omega⟩
    rw [if_pos hm]
    rfl
  | succ m ih =>
    intro i k hi hk
    obtain ⟨k, rfl⟩ : ∃ k', k = k' + 1 := ⟨k - 1, by omega⟩
    have w1 : wrap64 (4 + (i : Int)) = ((4 + i : Nat) : Int) := by unfold wrap64; omega
    have hr := hB.rd (4 + i)
    have hx := beN_range ((hB.drop 4).take i)
    have hp := pow_le ((b.drop 4).take i).length (by rw [List.length_take]; omega)
    have hlen : i < (b.drop 4).length := by rw [List.length_drop]; omega
    have hst : (b.drop 4).take (i + 1) = (b.drop 4).take i ++ [rd b (4 + i : Nat)] := by rw [take_snoc_rd _ _ hlen, rd_drop]
    unfold bailiwickref1_Get.l0
    have hx4 : ((b.drop 4).take i).length ≤ 3 := by rw [List.length_take]; omega
    have hp4 : (256 : Int) ^ ((b.drop 4).take i).length ≤ 16777216 := by
      generalize ((b.drop 4).take i).length = z at hx4
      have : z = 0 ∨ z = 1 ∨ z = 2 ∨ z = 3 := by omega
      rcases this with rfl | rfl | rfl | rfl <;> decide
    have hu1 : IntKind.u64.wrap (beN ((b.drop 4).take i) * 256) = beN ((b.drop 4).take i) * 256 := by show _ % 18446744073709551616 = _; omega
    have hu2 : IntKind.u64.wrap (rd b (4 + i : Nat)) = rd b (4 + i : Nat) := by show _ % 18446744073709551616 = _; omega
    rw [if_pos (by omega), w1, if_pos (by omega), if_pos (by omega), hu1, hu2, or_byte _ _ (by omega) hr, ← beN_snoc, ← hst, wrap_1 i (by omega)]
    exact ih (i + 1) k (by omega) (by omega)
theorem rget_f (b : List Int) (hB : Byt b) (hl : b.length ≤ 2000) (h24 : 24 ≤ b.length) : bailiwickref1_Get.f 10 b 4 4 = some (getV b 4 4, true) := by
  unfold bailiwickref1_Get.f
  have hw : wrap64 ((b.length : Int) - 4) = (b.length : Int) - 4 := wrap_id _ (by omega)
  rw [if_neg (by decide), if_neg (by decide), if_neg (by decide), hw, decide_eq_false (by omega)]
  simp only [bailiwickref1_Get.j0]
  rw [if_neg (by decide)]
  exact rget_l0 b hB hl h24 4 0 9 rfl (by decide)
theorem part_l0 (b : List Int) (hl : b.length ≤ 2000) (z : Nat) (hz : z ≤ b.length) : ∀ (m i k : Nat) (acc : List Int), i + m = z → m + 1 ≤ k → acc.length ≤ i → bailiwickref1_Part.l0 k b (z : Int) acc (i : Int) = some (acc ++ (b.take z).drop i) := by
  intro m
  induction m with
  | zero =>
    intro i k acc hi hk ha
    obtain ⟨k, rfl⟩ : ∃ k', k = k' + 1 := ⟨k - 1, by omega⟩
    unfold bailiwickref1_Part.l0
    rw [if_neg (by omega), List.drop_of_length_le (by rw [List.length_take]; omega), List.append_nil]
  | succ m ih =>
    intro i k acc hi hk ha
    obtain ⟨k, rfl⟩ : ∃ k', k = k' + 1 := ⟨k - 1, by omega⟩
    have hit : i < (b.take z).length := by rw [List.length_take]; omega
    unfold bailiwickref1_Part.l0
    rw [if_pos (by omega), if_pos (by omega), if_pos (by omega), if_pos (by omega), wrap_1 i (by omega), ih (i + 1) k (acc ++ [rd b i]) (by omega) (by omega) (by simp; omega), List.append_assoc, List.drop_eq_getElem_cons hit]
    congr 3
    simp [rd, List.getD_eq_getElem?_getD, List.getElem?_eq_getElem (by omega : i < b.length)]
theorem part_f (b : List Int) (hl : b.length ≤ 2000) (i z k : Nat) (hz : z ≤ b.length) (hi : i ≤ z) (hk : z - i + 1 ≤ k) : bailiwickref1_Part.f k b (i : Int) (z : Int) = some ((b.take z).drop i) := by
  unfold bailiwickref1_Part.f
  rw [part_l0 b hl z hz (z - i) i k [] (by omega) (by omega) (Nat.zero_le _)]
  rfl
def cutR : Option (List S45) → List S45 × Bool
  | none => ([], false)
  | some L => (L, true)
theorem whole_w (n : Nat) (h : n ≤ 65535) : wrap64 ((wrap64 (Int.tdiv (wrap64 ((n : Int) + 3)) 4)) * 4) = (wholeN n : Int) := by
  have e3 : wrap64 ((n : Int) + 3) = (n : Int) + 3 := wrap_id _ (by omega)
  have e4 : Int.tdiv ((n : Int) + 3) 4 = ((n : Int) + 3) / 4 := Int.tdiv_eq_ediv_of_nonneg (by omega)
  rw [e3, e4]
  clear e3 e4
  rw [wrap_id (((n : Int) + 3) / 4) (by omega), wrap_id (((n : Int) + 3) / 4 * 4) (by omega)]
  unfold wholeN
  omega
theorem wrapadd (a b : Nat) (h : a + b ≤ 1000000) : wrap64 ((a : Int) + (b : Int)) = ((a + b : Nat) : Int) := by unfold wrap64; omega
theorem wrapsub (a b : Nat) (h : b ≤ a) (h2 : a ≤ 1000000) : wrap64 ((a : Int) - (b : Int)) = (a : Int) - (b : Int) := by unfold wrap64; omega
theorem wrapsub4 (a b : Nat) (h : b + 4 ≤ a) (h2 : a ≤ 1000000) : wrap64 ((a : Int) - (b : Int) - 4) = (a : Int) - (b : Int) - 4 := by unfold wrap64; omega
set_option maxHeartbeats 1000000 in
theorem rcut_l0 (b : List Int) (hB : Byt b) (hl : b.length ≤ 1100) (h4 : b.length % 4 = 0) : ∀ (m at_ k : Nat) (acc : List S45), b.length - at_ < m → at_ % 4 = 0 → at_ ≤ b.length → acc.length ≤ at_ → m + 1200 ≤ k → bailiwickref25_cut.l0 k b (at_ : Int) acc = some (cutR (cutM m b at_ acc)) := by
  intro m
  induction m with
  | zero => intro at_ k acc h; omega
  | succ m ih =>
    intro at_ k acc hm ha hle hacc hk
    obtain ⟨k, rfl⟩ : ∃ k', k = k' + 1 := ⟨k - 1, by omega⟩
    unfold bailiwickref25_cut.l0
    simp only [cutM]
    by_cases hlt : at_ < b.length
    · obtain ⟨n, hn⟩ : ∃ n, wordN b at_ = n := ⟨_, rfl⟩
      have hw := wordN_eq b hB at_
      rw [hn] at hw
      obtain ⟨W, hW⟩ : ∃ W, wholeN n = W := ⟨_, rfl⟩
      have hwn := whole_le n
      rw [hW] at hwn
      have ho : (⟨rd b at_, (b.take (at_ + 4 + n)).drop (at_ + 4)⟩ : S45) = optAt b at_ := by unfold optAt; rw [hn]
      have hww := whole_w n hw.2
      rw [hW] at hww
      have hr := hB.rd at_
      have p0 : (at_ : Int) < (b.length : Int) := by omega
      have p1 : ¬ ((b.length : Int) - (at_ : Int) < 4) := by omega
      have p2 : at_ + 2 ≤ 2000 ∧ at_ + 2 + 2 ≤ b.length := by omega
      have e1 := wrapsub b.length at_ hle (by omega)
      have e7 := wrapsub4 b.length at_ (by omega) (by omega)
      rw [if_pos p0, if_pos hlt, e1, if_neg p1, show wrap64 ((at_ : Int) + 2) = ((at_ + 2 : Nat) : Int) from wrapadd at_ 2 (by omega), word_f b hB (at_ + 2) p2.1 p2.2, hw.1, Option.bind_some, hww, e7, hn, hW]
      clear e1 e7 hww p0 p1 p2
      by_cases hov : b.length < at_ + 4 + W
      · rw [if_pos (by omega), if_pos hov]
        rfl
      · have q1 : at_ + 4 ≤ at_ + 4 + n := by omega
        have q2 : at_ + 4 + n ≤ b.length := by omega
        have q3 : at_ + 4 + n - (at_ + 4) + 1 ≤ k := by omega
        have q4 : acc.length < 4398046511104 := by omega
        have q5 : ¬ ((W : Int) > (b.length : Int) - (at_ : Int) - 4) := by omega
        have q6 : (0 : Int) ≤ (at_ : Int) := by omega
        have q7 : b.length - (at_ + 4 + W) < m := by omega
        have q8 : (at_ + 4 + W) % 4 = 0 := by omega
        have q9 : at_ + 4 + W ≤ b.length := by omega
        have q10 : (acc ++ [optAt b at_]).length ≤ at_ + 4 + W := by rw [List.length_append, List.length_singleton]; omega
        have q11 : m + 1200 ≤ k := by omega
        have q12 : at_ + 4 + n ≤ 1000000 := by omega
        have q13 : at_ + 4 + W ≤ 1000000 := by omega
        have q14 : b.length ≤ 2000 := by omega
        have hxr : wrap64 (rd b at_) = rd b at_ := wrap_id _ (by omega)
        have hih := ih _ k _ q7 q8 q9 q10 q11
        clear ih hm hk hacc hwn hw hr hle ha h4 hl q7 q8 q9 q10 q11
        rw [if_neg q5, if_pos q6, show wrap64 ((at_ : Int) + 4) = ((at_ + 4 : Nat) : Int) from wrapadd at_ 4 (Nat.le_trans q1 q12), wrapadd (at_ + 4) n q12, part_f b q14 (at_ + 4) (at_ + 4 + n) k q2 q1 q3, Option.bind_some, if_pos q4, wrapadd (at_ + 4) W q13, hxr, if_neg hov, ho]
        exact hih
    · rw [if_neg (by omega), if_neg hlt]
      rfl
theorem rcut_f (b : List Int) (hB : Byt b) (hl : b.length ≤ 1100) (h4 : b.length % 4 = 0) (at_ : Nat) (ha : at_ % 4 = 0) (hle : at_ ≤ b.length) : bailiwickref25_cut.f 2400 b (at_ : Int) = some (cutR (cutM (b.length + 1) b at_ [])) :=
  rcut_l0 b hB hl h4 (b.length + 1) at_ 2400 [] (by omega) ha hle (Nat.zero_le _) (by omega)
theorem sz4 (c : Int) (h : c = 1 ∨ c = 2 ∨ c = 3) : rd [0, 16, 0, 20] c = longM c := by rcases h with rfl | rfl | rfl <;> rfl
theorem set4 (x6 : List Int) (s : Int → Int) (c : Int) (hc : c = 1 ∨ c = 2 ∨ c = 3) (hl : x6.length = 4) (hs : ∀ d : Int, d = 1 ∨ d = 2 ∨ d = 3 → rd x6 d = s d) : (x6.set c.toNat (s c + 1)).length = 4 ∧ ∀ d : Int, d = 1 ∨ d = 2 ∨ d = 3 → rd (x6.set c.toNat (s c + 1)) d = bumpF s c d := by
  refine ⟨by rw [List.length_set]; exact hl, fun d hd => ?_⟩
  unfold bumpF
  have h0 := hs d hd
  match x6, hl with
  | [a0, a1, a2, a3], _ =>
    rcases hc with rfl | rfl | rfl <;> rcases hd with rfl | rfl | rfl <;> first | rfl | (simp [rd] at h0 ⊢; exact h0) | simp [rd]
theorem rwrong_l0 (op : Int) (L : List S45) (hL : L.length ≤ 2000) : ∀ (m i k : Nat) (x6 : List Int) (s : Int → Int), i + m = L.length → m + 1 ≤ k → x6.length = 4 → (∀ d : Int, d = 1 ∨ d = 2 ∨ d = 3 → rd x6 d = s d ∧ 0 ≤ s d ∧ s d ≤ i) → bailiwickref25_wrong.l0 k op L [0, 16, 0, 20] x6 (i : Int) = some (wrM op s (L.drop i)) := by
  intro m
  induction m with
  | zero =>
    intro i k x6 s hi hk hl hs
    obtain ⟨k, rfl⟩ : ∃ k', k = k' + 1 := ⟨k - 1, by omega⟩
    unfold bailiwickref25_wrong.l0
    rw [if_neg (by omega), List.drop_of_length_le (by omega)]
    rfl
  | succ m ih =>
    intro i k x6 s hi hk hl hs
    obtain ⟨k, rfl⟩ : ∃ k', k = k' + 1 := ⟨k - 1, by omega⟩
    have hiL : i < L.length := by omega
    unfold bailiwickref25_wrong.l0
    rw [if_pos (by omega), if_pos (by omega), drop_rd L i hiL]
    generalize rd_T45 L (i : Int) = o
    simp only [wrM]
    by_cases h128 : o.f0 ≥ 128
    · rw [if_pos h128, if_pos h128, wrap_1 i (by omega)]
      exact ih (i + 1) k x6 s (by omega) (by omega) hl (fun d hd => by have := hs d hd; omega)
    · rw [if_neg h128, if_neg h128]
      by_cases hk3 : 1 ≤ o.f0 ∧ o.f0 ≤ 3
      · have hK : bailiwickref25_Known.f o.f0 = some true := by unfold bailiwickref25_Known.f; rw [if_pos hk3.1, decide_eq_true hk3.2]
        have hc : o.f0 = 1 ∨ o.f0 = 2 ∨ o.f0 = 3 := by omega
        have hsc := hs o.f0 hc
        rw [hK, Option.bind_some, if_pos rfl, if_pos (by omega), if_pos (by omega), if_neg (by simpa using hk3), hsc.1, wrap_id (s o.f0 + 1) (by omega), Option.bind_some]
        obtain ⟨hl2, hs2⟩ := set4 x6 s o.f0 hc hl (fun d hd => (hs d hd).1)
        have hb := hs2 o.f0 hc
        have hbb : bumpF s o.f0 o.f0 = s o.f0 + 1 := by unfold bumpF; rw [if_pos rfl]
        rw [hbb] at hb
        have hz := sz4 o.f0 hc
        have hlen : (([0, 16, 0, 20] : List Int).length : Int) = 4 := rfl
        have hih := ih (i + 1) k (x6.set o.f0.toNat (s o.f0 + 1)) (bumpF s o.f0) (by omega) (by omega) hl2 (fun d hd => ⟨hs2 d hd, by
          have := hs d hd
          have := hs o.f0 hc
          unfold bumpF
          split <;> omega⟩)
        rw [hb, hz, hlen, wrap_1 i (by omega), hih]
        by_cases c0 : op = 0
        · simp [c0]
        · by_cases c2 : op = 2
          · by_cases c1 : o.f0 = 1
            · have c3 : ¬ o.f0 = 3 := by omega
              have c4 : ¬ (op = 0 ∨ op = 2 ∧ ¬ o.f0 = 1) := by intro h; rcases h with h | h; exact c0 h; exact h.2 c1
              rw [if_neg c0, if_pos c2, if_pos c1, if_neg c3, if_neg c4]
              by_cases g1 : s o.f0 + 1 > 1
              · rw [if_pos g1, if_pos (.inl ⟨g1, c3⟩)]
              · by_cases e1 : (o.f1.length : Int) = longM o.f0
                · rw [if_neg g1, if_pos (by omega), if_pos e1, if_neg (by intro h; rcases h with h | h; exact g1 h.1; exact h e1)]
                · rw [if_neg g1, if_pos (by omega), if_neg e1, if_pos (.inr e1)]
            · rw [if_neg c0, if_pos c2, if_neg c1, if_pos (.inr ⟨c2, c1⟩)]
          · by_cases c3 : o.f0 = 3
            · by_cases e1 : (o.f1.length : Int) = longM o.f0
              · rw [if_neg c0, if_neg c2, if_pos c3, if_pos (by omega), if_pos e1, if_neg (by omega), if_neg (by intro h; rcases h with h | h; exact h.2 c3; exact h e1)]
              · rw [if_neg c0, if_neg c2, if_pos c3, if_pos (by omega), if_neg e1, if_neg (by omega), if_pos (.inr e1)]
            · by_cases g1 : s o.f0 + 1 > 1
              · rw [if_neg c0, if_neg c2, if_neg c3, if_pos g1, if_neg (by omega), if_pos (.inl ⟨g1, c3⟩)]
              · by_cases e1 : (o.f1.length : Int) = longM o.f0
                · rw [if_neg c0, if_neg c2, if_neg c3, if_neg g1, if_pos (by omega), if_pos e1, if_neg (by omega), if_neg (by intro h; rcases h with h | h; exact g1 h.1; exact h e1)]
                · rw [if_neg c0, if_neg c2, if_neg c3, if_neg g1, if_pos (by omega), if_neg e1, if_neg (by omega), if_pos (.inr e1)]
      · have hK : bailiwickref25_Known.f o.f0 = some false := by
          unfold bailiwickref25_Known.f
          by_cases h1 : o.f0 ≥ 1
          · rw [if_pos h1, decide_eq_false (by omega)]
          · rw [if_neg h1]
        rw [hK, Option.bind_some, if_neg (by decide), if_pos hk3]
theorem rwrong_f (op : Int) (L : List S45) (hL : L.length ≤ 2000) : bailiwickref25_wrong.f 2400 op L = some (wrM op (fun _ => 0) L) := by
  unfold bailiwickref25_wrong.f
  rw [if_pos (by decide)]
  exact rwrong_l0 op L hL L.length 0 2400 _ _ (by omega) (by omega) rfl (fun d hd => by rcases hd with rfl | rfl | rfl <;> exact ⟨rfl, by decide, by decide⟩)
end Go.Proofs.Ytpjkbokojlpjoaa.Ak
