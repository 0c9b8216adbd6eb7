/- AskEchoes: plain laws. -/
import Derived.Test.YtpjkbokojlpjoaaAsk23
namespace Go.Proofs.Ytpjkbokojlpjoaa.Ak
open Go.RowKit Go.Proofs.YtpjkbokojlpjoaaW.PrintWords Go.Proofs.YtpjkbokojlpjoaaW.PrintLast Go.Proofs.YtpjkbokojlpjoaaW.PrintMore Go.Proofs.Ytpjkbokojlpjoaa.Bs Go.Proofs.Ytpjkbokojlpjoaa.Fr Go.Proofs.Ytpjkbokojlpjoaa.Oct
open Go.Proofs.Ytpjkbokojlpjoaa.PAskReads (S45)
set_option linter.unusedVariables false
set_option linter.unusedSimpArgs false

/-- How many bytes options take. -/
def sumO : List S45 → Nat
  | [] => 0
  | o :: l => 4 + wholeN o.f1.length + sumO l
theorem sumO_app (l k : List S45) : sumO (l ++ k) = sumO l + sumO k := by
  induction l with
  | nil => simp [sumO]
  | cons o l ih => simp only [List.cons_append, sumO, ih]; omega
theorem optAt_len (b : List Int) (at_ : Nat) (h : at_ + 4 + wholeN (wordN b at_) ≤ b.length) : (optAt b at_).f1.length = wordN b at_ := by
  have := whole_le (wordN b at_)
  unfold optAt
  show ((b.take _).drop _).length = _
  rw [List.length_drop, List.length_take]
  omega
theorem cutM_sum (b : List Int) : ∀ (k at_ : Nat) (acc L : List S45), cutM k b at_ acc = some L → at_ ≤ b.length → sumO L + at_ = sumO acc + b.length := by
  intro k
  induction k with
  | zero => intro at_ acc L h; cases h
  | succ k ih =>
    intro at_ acc L h hle
    simp only [cutM] at h
    split at h
    · split at h
      · cases h
      · rename_i h1 h2
        have h3 := ih _ _ _ h (by omega)
        rw [sumO_app] at h3
        simp only [sumO] at h3
        rw [optAt_len b at_ (by omega)] at h3
        omega
    · cases h
      omega
theorem keep_sum (L : List S45) : sumO (keepL L) ≤ sumO L := by
  unfold keepL
  induction L with
  | nil => exact Nat.le_refl _
  | cons o l ih =>
    rw [List.filter_cons]
    split
    · simp only [sumO]; omega
    · simp only [sumO]; omega
theorem flat_len (L : List S45) : (L.flatMap optB).length = sumO L := by
  induction L with
  | nil => rfl
  | cons o l ih => rw [List.flatMap_cons, List.length_append, ih, optB_len]; rfl
theorem grant_len (x : AM) (hx : x.ok) (li ep oa op : Int) (L : List S45) : (grantG x li ep oa op L).length = (if x.op = 2 then 80 else 60) + sumO L := by
  unfold grantG
  rw [List.length_append, baseG_len x hx, flat_len]
theorem base_take (x : AM) (hx : x.ok) (li ep oa op : Int) (L : List S45) : ∃ t, grantG x li ep oa op L = b60 x li ep oa op ++ t := by
  unfold grantG baseG
  split
  · exact ⟨twoL x.fp ++ [0, 0] ++ x.fa ++ L.flatMap optB, by unfold b80; simp only [List.append_assoc]⟩
  · exact ⟨L.flatMap optB, rfl⟩
theorem ans_len (b : List Int) (cd li ep : Int) (h24 : 24 ≤ b.length) (h11 : b.length ≤ 1100) (h4 : b.length % 4 = 0) : (ansL b cd li ep).length = b.length := by
  unfold ansL
  rw [if_neg (by omega), List.length_append, List.length_drop, padL_len, List.take_of_length_le h11]
  have h3 : (hd24 (rd b 1) cd li ep).length = 24 := rfl
  rw [h3]
  unfold tgt
  split <;> omega
/-- Of a request that was read: what it is. -/
theorem m3_parts (b : List Int) (h : rd b 1 = 1 ∨ rd b 1 = 2) : (m3 b (m1 b az)).op = rd b 1 ∧ (m3 b (m1 b az)).no = cut2 b 24 12 ∧ (m3 b (m1 b az)).pr = getV b 36 1 ∧ (m3 b (m1 b az)).po = getV b 40 2 := by
  unfold m3
  rcases h with h | h <;> simp [h]
theorem rd_app_left (l k : List Int) (i : Nat) (h : i < l.length) : rd (l ++ k) i = rd l i := by
  unfold rd
  simp [List.getD_eq_getElem?_getD, List.getElem?_append_left h]
theorem rd_app_right (l k : List Int) (i n : Nat) (h : l.length = n) : rd (l ++ k) ((n + i : Nat) : Int) = rd k i := by
  unfold rd
  have h1 : ((n : Int) + (i : Int)).toNat = n + i := by omega
  simp [List.getD_eq_getElem?_getD, List.getElem?_append_right, h, h1]
theorem two_word (x y : Int) (hx : 0 ≤ x ∧ x ≤ 255) (hy : 0 ≤ y ∧ y ≤ 255) : twoL (x * 256 + y) = [x, y] := by
  unfold twoL
  congr 1
  · omega
  · congr 1; omega
/-- The first 42 bytes of a grant. -/
theorem grant_head (b : List Int) (hB : Byt b) (h60 : 60 ≤ b.length) (x : AM) (hx : x.ok) (h1 : x.op = rd b 1) (h2 : x.no = cut2 b 24 12) (h3 : x.pr = getV b 36 1) (h4 : x.po = getV b 40 2) (li ep oa op : Int) (L : List S45) :
    rd (grantG x li ep oa op L) 1 = Go.bits .or .u8 (rd b 1) 128 ∧ ((grantG x li ep oa op L).take 36).drop 24 = (b.take 36).drop 24 ∧ rd (grantG x li ep oa op L) 36 = rd b 36 ∧ ((grantG x li ep oa op L).take 42).drop 40 = (b.take 42).drop 40 := by
  obtain ⟨t, ht⟩ := base_take x hx li ep oa op L
  have hr1 := hB.rd 1
  have hr36 := hB.rd 36
  have hr40 := hB.rd 40
  have hr41 := hB.rd 41
  have hl24 : (hd24 x.op 0 li ep).length = 24 := rfl
  have e0 : grantG x li ep oa op L = hd24 x.op 0 li ep ++ (x.no ++ ([x.pr % 256, 0, 0, 0] ++ (twoL x.po ++ (twoL op ++ (wideL oa ++ t))))) := by rw [ht]; unfold b60 b40; simp only [List.append_assoc]
  have ep1 : x.pr % 256 = rd b 36 := by
    rw [h3, show getV b 36 1 = rd b 36 from getV1 b 36 (by omega)]
    have : 0 ≤ rd b 36 ∧ rd b 36 ≤ 255 := hr36
    omega
  have ep2 : twoL x.po = [rd b (40 : Nat), rd b (41 : Nat)] := by
    rw [h4, show getV b 40 2 = rd b (40 : Nat) * 256 + rd b (41 : Nat) from getV2 b 40 (by omega)]
    exact two_word _ _ hr40 hr41
  have hc12 := cut2_len b 24 12 (by omega)
  refine ⟨?_, ?_, ?_, ?_⟩
  · rw [e0]
    show rd (hd24 x.op 0 li ep ++ _) ((1 : Nat) : Int) = _
    rw [rd_app_left _ _ 1 (by rw [hl24]; decide)]
    show Go.bits .or .u8 (x.op % 256) 128 = _
    rw [h1]
    have : 0 ≤ rd b 1 ∧ rd b 1 ≤ 255 := hr1
    rw [show rd b 1 % 256 = rd b 1 by omega]
  · rw [e0, List.drop_take, List.drop_left' hl24, h2]
    show (cut2 b 24 12 ++ _).take 12 = _
    rw [List.take_left' hc12, List.drop_take]
    rfl
  · rw [e0]
    have e1 : (36 : Int) = ((24 + 12 : Nat) : Int) := rfl
    rw [e1, rd_app_right _ _ 12 24 hl24]
    have e2 : ((12 : Nat) : Int) = ((12 + 0 : Nat) : Int) := rfl
    rw [e2, rd_app_right _ _ 0 12 (by rw [h2]; exact hc12)]
    show x.pr % 256 = _
    exact ep1
  · have e1 : hd24 x.op 0 li ep ++ (x.no ++ ([x.pr % 256, 0, 0, 0] ++ (twoL x.po ++ (twoL op ++ (wideL oa ++ t))))) = (hd24 x.op 0 li ep ++ (x.no ++ [x.pr % 256, 0, 0, 0])) ++ (twoL x.po ++ (twoL op ++ (wideL oa ++ t))) := by simp only [List.append_assoc]
    have hl40 : (hd24 x.op 0 li ep ++ (x.no ++ [x.pr % 256, 0, 0, 0])).length = 40 := by rw [List.length_append, List.length_append, h2, hc12]; rfl
    rw [e0, e1, List.drop_take, List.drop_left' hl40, ep2, List.drop_take]
    show [rd b (40 : Nat), rd b (41 : Nat)] = (b.drop 40).take 2
    have h40 : 40 < b.length := by omega
    have h41 : 41 < b.length := by omega
    have e40 : rd b (40 : Nat) = b[40] := by simp [rd, List.getD_eq_getElem?_getD, List.getElem?_eq_getElem h40]
    have e41 : rd b (41 : Nat) = b[41] := by simp [rd, List.getD_eq_getElem?_getD, List.getElem?_eq_getElem h41]
    rw [e40, e41, List.drop_eq_getElem_cons h40, List.drop_eq_getElem_cons h41]
    rfl
end Go.Proofs.Ytpjkbokojlpjoaa.Ak
