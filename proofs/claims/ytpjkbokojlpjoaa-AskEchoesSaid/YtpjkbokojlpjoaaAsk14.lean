/- ask: the options are cut out. -/
import Derived.Test.YtpjkbokojlpjoaaAsk13
import Derived.Test.YtpjkbokojlpjoaaPAskReadsx0
namespace Go.Proofs.Ytpjkbokojlpjoaa.Ak
open Go.RowKit Go.Proofs.YtpjkbokojlpjoaaW.PrintWords Go.Proofs.YtpjkbokojlpjoaaW.PrintLast Go.Proofs.YtpjkbokojlpjoaaW.PrintMore Go.Proofs.Ytpjkbokojlpjoaa.Bs Go.Proofs.Ytpjkbokojlpjoaa.Fr Go.Proofs.Ytpjkbokojlpjoaa.Oct
open Go.Proofs.Ytpjkbokojlpjoaa.PAskReads (S45 k45 k45_open k45_openM k45_mk k45_mkM info45 at_T45 rd_T45)
set_option linter.unusedVariables false
set_option linter.unusedSimpArgs false

def wordN (b : List Int) (at_ : Nat) : Nat := (getV b (at_ + 2 : Nat) 2).toNat
def wholeN (n : Nat) : Nat := (n + 3) / 4 * 4
def optAt (b : List Int) (at_ : Nat) : S45 := ⟨rd b at_, (b.take (at_ + 4 + wordN b at_)).drop (at_ + 4)⟩
/-- The options from a place on; none: one does not fit. -/
def cutM : Nat → List Int → Nat → List S45 → Option (List S45)
  | 0, _, _, _ => none
  | k + 1, b, at_, acc => if at_ < b.length then (if b.length < at_ + 4 + wholeN (wordN b at_) then none else cutM k b (at_ + 4 + wholeN (wordN b at_)) (acc ++ [optAt b at_])) else some acc
theorem wordN_eq (b : List Int) (hB : Byt b) (at_ : Nat) : getV b ((at_ + 2 : Nat) : Int) 2 = (wordN b at_ : Int) ∧ wordN b at_ ≤ 65535 := by
  have h : 0 ≤ getV b ((at_ + 2 : Nat) : Int) 2 ∧ getV b ((at_ + 2 : Nat) : Int) 2 < 65536 := by
    unfold getV
    split
    · have h1 := beN_range ((hB.drop ((at_ + 2 : Nat) : Int).toNat).take (2 : Int).toNat)
      have h2 : ((b.drop ((at_ + 2 : Nat) : Int).toNat).take (2 : Int).toNat).length ≤ 2 := by rw [List.length_take]; exact Nat.min_le_left _ _
      refine ⟨h1.1, Int.lt_of_lt_of_le h1.2 ?_⟩
      generalize ((b.drop ((at_ + 2 : Nat) : Int).toNat).take (2 : Int).toNat).length = k at h2
      have : k = 0 ∨ k = 1 ∨ k = 2 := by omega
      rcases this with rfl | rfl | rfl <;> decide
    · decide
  unfold wordN
  omega
theorem cutM_acc (b : List Int) : ∀ (k at_ : Nat) (acc : List S45), b.length - at_ < k → cutM k b at_ acc = (cutM k b at_ []).map (acc ++ ·) := by
  intro k
  induction k with
  | zero => intro at_ acc h; omega
  | succ k ih =>
    intro at_ acc h
    simp only [cutM]
    split
    · split
      · rfl
      · rw [ih _ (acc ++ [optAt b at_]) (by omega), ih _ ([] ++ [optAt b at_]) (by omega)]
        cases cutM k b (at_ + 4 + wholeN (wordN b at_)) [] <;> simp
    · simp
theorem cutM_len (b : List Int) : ∀ (k at_ : Nat) (acc L : List S45), cutM k b at_ acc = some L → at_ ≤ b.length → L.length * 4 + at_ ≤ acc.length * 4 + b.length := by
  intro k
  induction k with
  | zero => intro at_ acc L h; cases h
  | succ k ih =>
    intro at_ acc L h hle
    simp only [cutM] at h
    split at h
    · split at h
      · cases h
      · have := ih _ _ _ h (by omega)
        simp at this
        omega
    · cases h
      omega
theorem info5i : ∃ i, Try.prog.info? 5 = some i ∧ i.size = 1 := by
  obtain ⟨i0, hi, hz0, hz1, hz2⟩ := info_parts info_u8
  exact ⟨i0, hi, hz1⟩
set_option maxHeartbeats 1000000 in
set_option maxRecDepth 100000 in
theorem cut_calls (g : Nat) (A : Option Addr) (c : Nat) (m : AM) (hm : m.ok) (b : List Int) (R : Option (List S45)) (w : World) (h : RB w g A b.length c m) (hC : Kd.C (Kd.int .u8) w A b.length b) (hc : b.length ≤ c) (hmx : b.length ≤ 1100) (hB : Byt b) (hs : (sizeM m.op).2 = true) (hl : 24 + (sizeM m.op).1 ≤ b.length) (hR : cutM (b.length + 1) b (24 + (sizeM m.op).1.toNat) [] = R) :
    Calls Try.prog 39 #[.pointer (some ⟨g, 0, none⟩)] w fun e w' => Below w.heap.size w w' ∧ ((R = none ∧ e = thrown 6) ∨ ∃ L, R = some L ∧ ∃ v, e = .returned v ∧ k45.R 45 w' w.heap.size (fun _ => True) v L) := by
  have k1 := h.kop
  have HH := Aside0.mk h
  have HC := Aside0.mk hC
  have HB := Aside0.mk hB
  have HL := Aside0.mk (And.intro hc hmx)
  have hz := sizeM_le m.op
  have HS := Aside0.mk hs
  obtain ⟨z, hzz⟩ : ∃ z : Nat, (sizeM m.op).1 = (z : Int) := ⟨(sizeM m.op).1.toNat, by omega⟩
  have HZ := Aside0.mk hzz
  rw [hzz] at hz hl hR
  have HR : Aside0 (cutM (b.length + 1) b (24 + z) [] = R) := ⟨hR⟩
  have HL2 : Aside0 (24 + z ≤ b.length ∧ z ≤ 56) := ⟨by omega⟩
  have HWZ : Aside0 (wrap64 (24 + (z : Int)) = ((24 + z : Nat) : Int)) := ⟨by unfold wrap64; omega⟩
  have RN : Aside0 (k45.R 45 w w.heap.size (fun _ => True) (.slice none 0 0) []) := ⟨Kd.R_nil _ _ _ _ _⟩
  have BN := Aside0.mk (Below.refl w.heap.size w)
  clear h hC hB hc hmx hs hl hR hzz hz
  go_enter Try.func39, Try.ntmps39
  go_wp2_with fail
  refine (size_calls m.op _).mono ?_
  rintro e w ⟨rfl, rfl⟩
  rw [HS.out, HZ.out]
  go_upto_region 4 with fail
  clear k1
  go_loopg [5, 6, 7, 8] (b.length - (24 + z)) (fun q v5 v6 v7 v8 wr => ∃ (at_ k : Nat) (acc : List S45), v6 = .int .i64 (at_ : Int) ∧ Aside0 (at_ ≤ b.length ∧ q = b.length - at_) ∧ Aside0 (q < k ∧ cutM k b at_ acc = R ∧ acc.length ≤ at_) ∧ Aside0 (k45.R 45 wr w.heap.size (fun _ => True) v5 acc) ∧ Aside0 (Below w.heap.size w wr))
  case atStart => exact ⟨24 + z, b.length + 1, [], by rw [HWZ.out], ⟨by have := HL2.out; omega⟩, ⟨by omega, HR.out, Nat.zero_le _⟩, RN, BN⟩
  case round =>
    clear HR RN BN
    obtain ⟨at_, k, acc, rfl, Hq, HK, RA, BA⟩ := hrel
    have H1 := Aside0.mk (HH.out.below BA.out)
    have C1 := Aside0.mk (Kd.C_below HC.out BA.out)
    have k0 := H1.out.k0
    by_cases hlt : (at_ : Int) < (b.length : Int)
    · have hlb := decide_eq_true hlt
      obtain ⟨n, hn⟩ : ∃ n, wordN b at_ = n := ⟨_, rfl⟩
      have HW := Aside0.mk (wordN_eq b HB.out at_)
      rw [hn] at HW
      have HN := Aside0.mk hn
      clear hn
      have hat : (at_ : Int) ≤ 1100 := by have := HL.out.2; omega
      go_wp2_with fail
      refine (get_calls g A c m b _ 2 (by decide) _ H1.out C1.out HL.out.1 (by have := HL.out.2; omega) HB.out).mono ?_
      rintro e wr ⟨rfl, rfl⟩
      rw [show getV b ((at_ : Int) + 2) 2 = (n : Int) from HW.out.1]
      have hn0 : 0 ≤ (n : Int) ∧ (n : Int) ≤ 65535 := by have := HW.out.2; omega
      have hq : ((n : Int) + 3) / 4 * 4 = (wholeN n : Int) := by unfold wholeN; omega
      have HWH := Aside0.mk hq
      clear hq
      have HK2 : Aside0 (if b.length < at_ + 4 + wholeN n then R = none else ∃ k', b.length - (at_ + 4 + wholeN n) < k' ∧ cutM k' b (at_ + 4 + wholeN n) (acc ++ [optAt b at_]) = R) := ⟨by
        obtain ⟨h1, h2, h3⟩ := HK.out
        obtain ⟨k', rfl⟩ : ∃ k', k = k' + 1 := ⟨k - 1, by omega⟩
        simp only [cutM] at h2
        rw [if_pos (by omega), HN.out] at h2
        have hq := Hq.out
        split
        · rw [if_pos (by assumption)] at h2; exact h2.symm
        · rw [if_neg (by assumption)] at h2; exact ⟨k', by omega, h2⟩⟩
      go_wp2_with fail
      rw [show ((n : Int) + 4 - 1) / 4 * 4 = (wholeN n : Int) by rw [← HWH.out]; omega]
      have hwh : 0 ≤ (wholeN n : Int) ∧ (wholeN n : Int) ≤ 65540 := by unfold wholeN; omega
      by_cases hov : (b.length : Int) < (at_ : Int) + 4 + (wholeN n : Int)
      · rw [decide_eq_true hov]
        refine (refuse_bad 6 _).mono ?_
        rintro e wr ⟨he, rfl⟩
        unfold thrown at he
        subst he
        refine ⟨rfl, BA.out, Or.inl ⟨?_, rfl⟩⟩
        have h := HK2.out
        rw [if_pos (by omega)] at h
        exact h
      · rw [decide_eq_false hov]
        refine (refuse_ok 6 _).mono ?_
        rintro e wr ⟨rfl, rfl⟩
        have HK3 : Aside0 (∃ k', b.length - (at_ + 4 + wholeN n) < k' ∧ cutM k' b (at_ + 4 + wholeN n) (acc ++ [optAt b at_]) = R) := ⟨by
          have h := HK2.out
          rw [if_neg (by omega)] at h
          exact h⟩
        have hnw : n ≤ wholeN n := by unfold wholeN; omega
        obtain ⟨A', hcut, hcA, hcL⟩ := print_mid_of (P := Try.prog) (Value.int .u8) 0 22 5 .i64 .i64 Try.underlying22 info5i.choose_spec.1 info5i.choose_spec.2 A c b ((at_ : Int) + 4) ((at_ : Int) + 4 + (n : Int)) (by omega) (by omega) (by omega) HL.out.1
        have t1 : ((at_ : Int) + 4).toNat = at_ + 4 := by omega
        have t2 : ((at_ : Int) + 4 + (n : Int)).toNat = at_ + 4 + n := by omega
        rw [t1, t2] at hcut hcA hcL
        clear t1 t2
        have hx := HB.out.rd at_
        obtain ⟨ad, e1, cb⟩ := at_one C1.out at_ (by omega) (by omega)
        subst e1
        rw [Int.toNat_natCast] at cb
        have HO : Aside0 (optAt b at_ = ⟨rd b at_, (b.take (at_ + 4 + n)).drop (at_ + 4)⟩) := ⟨by unfold optAt; rw [HN.out]⟩
        have hw : wrap64 (rd b at_) = rd b at_ := by unfold wrap64; omega
        have hDl : ((b.take (at_ + 4 + n)).drop (at_ + 4)).length ≤ 1100 := by rw [List.length_drop, List.length_take]; have := HL.out.2; omega
        generalize (b.take (at_ + 4 + n)).drop (at_ + 4) = D at hcut hcA hcL HO hDl
        generalize rd b at_ = xc at cb HO hw hx
        have CD := Aside0.mk (Kd.C_of_reads (d := (0 : Int)) (h1 := fun _ => rfl) (hcA wr (Kd.reads_of_C C1.out)))
        have HDL := Aside0.mk hDl
        have HAL : Aside0 (acc.length ≤ 1100) := ⟨by have := HK.out.2.2; omega⟩
        have HX := Aside0.mk hx
        have CB : Aside0 (wr.cell? (ad.add at_) = some (.int .u8 xc)) := ⟨cb⟩
        clear hcA hcL hDl hx cb k0
        have hat2 : (0 : Int) ≤ at_ ∧ (at_ : Int) < (b.length : Int) := by omega
        go_upto_region 8 with fail
        have hw4 : wrap64 ((at_ : Int) + 4) = (at_ : Int) + 4 := by unfold wrap64; omega
        have hw5 : wrap64 ((at_ : Int) + 4 + (n : Int)) = (at_ : Int) + 4 + (n : Int) := by unfold wrap64; omega
        refine start_ (n := 25) (S := fun w' => w'.cell? ⟨g, 0, none⟩ = some (.slice (some ad) b.length c) ∧ w'.cell? (ad.add at_) = some (.int .u8 xc)) (ds := [22, 23]) #[false, false, false, false, false, false, false, false, false, false, false, false, false, false, false, false, false, false, false, false, false, false, false, false, false] (by kernel_rfl) rfl rfl ⟨H1.out.k0, CB.out⟩ (fun hHeld => ?_)
        refine pure_ (i := 0) (N := some 47) (v := ?_) (a' := ?_) #[true, false, false, false, false, false, false, false, false, false, false, false, false, false, false, false, false, false, false, false, false, false, false, false, false] rfl rfl (by kernel_rfl) (fun _ _ _ h => h) (Or.inl ⟨by rfl, ?_⟩) ?_ ?_
        rotate_left
        · intro w'
          go_simp
          with_reducible rfl
        rotate_left
        · simp only [Act.put, List.setIfInBounds_toArray, List.set_cons_zero, List.set_cons_succ, i64_w, i32_w]
          rfl
        refine pure_ (i := 1) (N := some 48) (v := ?_) (a' := ?_) #[true, true, false, false, false, false, false, false, false, false, false, false, false, false, false, false, false, false, false, false, false, false, false, false, false] rfl rfl (by kernel_rfl) (fun _ _ _ h => h) (Or.inl ⟨by rfl, ?_⟩) ?_ ?_
        rotate_left
        · intro w'
          go_simp
          with_reducible rfl
        rotate_left
        · simp only [Act.put, List.setIfInBounds_toArray, List.set_cons_zero, List.set_cons_succ, i64_w, i32_w]
          rfl
        refine pure_ (i := 2) (N := some 49) (v := ?_) (a' := ?_) #[true, true, true, false, false, false, false, false, false, false, false, false, false, false, false, false, false, false, false, false, false, false, false, false, false] rfl rfl (by kernel_rfl) (fun _ _ _ h => h) (Or.inl ⟨by rfl, ?_⟩) ?_ ?_
        rotate_left
        · intro w'
          go_simp
          with_reducible rfl
        rotate_left
        · simp only [Act.put, List.setIfInBounds_toArray, List.set_cons_zero, List.set_cons_succ, i64_w, i32_w]
          rfl
        refine pure_ (i := 3) (N := some 50) (v := ?_) (a' := ?_) #[true, true, true, true, false, false, false, false, false, false, false, false, false, false, false, false, false, false, false, false, false, false, false, false, false] rfl rfl (by kernel_rfl) (fun _ _ _ h => h) (Or.inl ⟨by rfl, ?_⟩) ?_ ?_
        rotate_left
        · intro w'
          go_simp
          with_reducible rfl
        rotate_left
        · simp only [Act.put, List.setIfInBounds_toArray, List.set_cons_zero, List.set_cons_succ, i64_w, i32_w]
          rfl
        refine pure_ (i := 5) (N := some 52) (v := ?_) (a' := ?_) #[true, true, true, true, false, true, false, false, false, false, false, false, false, false, false, false, false, false, false, false, false, false, false, false, false] rfl rfl (by kernel_rfl) (fun _ _ _ h => h) (Or.inl ⟨by rfl, ?_⟩) ?_ ?_
        rotate_left
        · intro w'
          go_simp
          with_reducible rfl
        rotate_left
        · simp only [Act.put, List.setIfInBounds_toArray, List.set_cons_zero, List.set_cons_succ, i64_w, i32_w]
          rfl
        refine pure_ (i := 9) (N := some 56) (v := ?_) (a' := ?_) #[true, true, true, true, false, true, false, false, false, true, false, false, false, false, false, false, false, false, false, false, false, false, false, false, false] rfl rfl (by kernel_rfl) (fun _ _ _ h => h) (Or.inl ⟨by rfl, ?_⟩) ?_ ?_
        rotate_left
        · intro w'
          go_simp
          with_reducible rfl
        rotate_left
        · simp only [Act.put, List.setIfInBounds_toArray, List.set_cons_zero, List.set_cons_succ, i64_w, i32_w]
          rfl
        refine pure_ (i := 10) (N := some 57) (v := ?_) (a' := ?_) #[true, true, true, true, false, true, false, false, false, true, true, false, false, false, false, false, false, false, false, false, false, false, false, false, false] rfl rfl (by kernel_rfl) (fun _ _ _ h => h) (Or.inl ⟨by rfl, ?_⟩) ?_ ?_
        rotate_left
        · intro w'
          go_simp
          with_reducible rfl
        rotate_left
        · simp only [Act.put, List.setIfInBounds_toArray, List.set_cons_zero, List.set_cons_succ, i64_w, i32_w]
          rfl
        refine pure_ (i := 11) (N := some 58) (v := ?_) (a' := ?_) #[true, true, true, true, false, true, false, false, false, true, true, true, false, false, false, false, false, false, false, false, false, false, false, false, false] rfl rfl (by kernel_rfl) (fun _ _ _ h => h) (Or.inl ⟨by rfl, ?_⟩) ?_ ?_
        rotate_left
        · intro w'
          go_simp
          with_reducible rfl
        rotate_left
        · simp only [Act.put, List.setIfInBounds_toArray, List.set_cons_zero, List.set_cons_succ, i64_w, i32_w]
          rfl
        refine pure_ (i := 13) (N := some 60) (v := ?_) (a' := ?_) #[true, true, true, true, false, true, false, false, false, true, true, true, false, true, false, false, false, false, false, false, false, false, false, false, false] rfl rfl (by kernel_rfl) (fun _ _ _ h => h) (Or.inl ⟨by rfl, ?_⟩) ?_ ?_
        rotate_left
        · intro w'
          go_simp
          with_reducible rfl
        rotate_left
        · simp only [Act.put, List.setIfInBounds_toArray, List.set_cons_zero, List.set_cons_succ, i64_w, i32_w]
          rfl
        refine pure_ (i := 14) (N := some 61) (v := ?_) (a' := ?_) #[true, true, true, true, false, true, false, false, false, true, true, true, false, true, true, false, false, false, false, false, false, false, false, false, false] rfl rfl (by kernel_rfl) (fun _ _ _ h => h) (Or.inl ⟨by rfl, ?_⟩) ?_ ?_
        rotate_left
        · intro w'
          go_simp
          with_reducible rfl
        rotate_left
        · simp only [Act.put, List.setIfInBounds_toArray, List.set_cons_zero, List.set_cons_succ, i64_w, i32_w]
          rfl
        refine pure_ (i := 15) (N := some 62) (v := ?_) (a' := ?_) #[true, true, true, true, false, true, false, false, false, true, true, true, false, true, true, true, false, false, false, false, false, false, false, false, false] rfl rfl (by kernel_rfl) (fun _ _ _ h => h) (Or.inl ⟨by rfl, ?_⟩) ?_ ?_
        rotate_left
        · intro w'
          go_simp
          with_reducible rfl
        rotate_left
        · simp only [Act.put, List.setIfInBounds_toArray, List.set_cons_zero, List.set_cons_succ, i64_w, i32_w]
          rfl
        refine pure_ (i := 16) (N := some 63) (v := ?_) (a' := ?_) #[true, true, true, true, false, true, false, false, false, true, true, true, false, true, true, true, true, false, false, false, false, false, false, false, false] rfl rfl (by kernel_rfl) (fun _ _ _ h => h) (Or.inl ⟨by rfl, ?_⟩) ?_ ?_
        rotate_left
        · intro w'
          go_simp
          with_reducible rfl
        rotate_left
        · simp only [Act.put, List.setIfInBounds_toArray, List.set_cons_zero, List.set_cons_succ, i64_w, i32_w]
          rfl
        refine pure_ (i := 17) (N := some 64) (v := ?_) (a' := ?_) #[true, true, true, true, false, true, false, false, false, true, true, true, false, true, true, true, true, true, false, false, false, false, false, false, false] rfl rfl (by kernel_rfl) (fun _ _ _ h => h) (Or.inl ⟨by rfl, ?_⟩) ?_ ?_
        rotate_left
        · intro w'
          go_simp
          with_reducible rfl
        rotate_left
        · simp only [Act.put, List.setIfInBounds_toArray, List.set_cons_zero, List.set_cons_succ, i64_w, i32_w]
          rfl
        refine pure_ (i := 18) (N := some 65) (v := ?_) (a' := ?_) #[true, true, true, true, false, true, false, false, false, true, true, true, false, true, true, true, true, true, true, false, false, false, false, false, false] rfl rfl (by kernel_rfl) (fun _ _ _ h => h) (Or.inl ⟨by rfl, ?_⟩) ?_ ?_
        rotate_left
        · intro w'
          go_simp
          with_reducible rfl
        rotate_left
        · simp only [Act.put, List.setIfInBounds_toArray, List.set_cons_zero, List.set_cons_succ, i64_w, i32_w]
          rfl
        refine take_ (i := 4) (N := some 51) (v := ?_) (a' := ?_) #[true, true, true, true, true, true, false, false, false, true, true, true, false, true, true, true, true, true, true, false, false, false, false, false, false] rfl rfl (by kernel_rfl) (fun _ _ _ h => h) (Or.inl ⟨by rfl, ?_⟩) hHeld ?_ ?_
        rotate_left
        · rintro w' ⟨s0, s1⟩
          go_simp
          with_reducible rfl
        rotate_left
        · simp only [Act.put, List.setIfInBounds_toArray, List.set_cons_zero, List.set_cons_succ, i64_w, i32_w]
          rfl
        refine pure_ (i := 6) (N := some 53) (v := ?_) (a' := ?_) #[true, true, true, true, true, true, true, false, false, true, true, true, false, true, true, true, true, true, true, false, false, false, false, false, false] rfl rfl (by kernel_rfl) (fun _ _ _ h => h) (Or.inl ⟨by rfl, ?_⟩) ?_ ?_
        rotate_left
        · intro w'
          go_simp
          with_reducible rfl
        rotate_left
        · simp only [Act.put, List.setIfInBounds_toArray, List.set_cons_zero, List.set_cons_succ, i64_w, i32_w]
          rfl
        refine take_ (i := 7) (N := some 54) (v := ?_) (a' := ?_) #[true, true, true, true, true, true, true, true, false, true, true, true, false, true, true, true, true, true, true, false, false, false, false, false, false] rfl rfl (by kernel_rfl) (fun _ _ _ h => h) (Or.inl ⟨by rfl, ?_⟩) hHeld ?_ ?_
        rotate_left
        · rintro w' ⟨s0, s1⟩
          go_simp
          with_reducible rfl
        rotate_left
        · simp only [Act.put, List.setIfInBounds_toArray, List.set_cons_zero, List.set_cons_succ, i64_w, i32_w]
          rfl
        refine pure_ (i := 8) (N := some 55) (v := ?_) (a' := ?_) #[true, true, true, true, true, true, true, true, true, true, true, true, false, true, true, true, true, true, true, false, false, false, false, false, false] rfl rfl (by kernel_rfl) (fun _ _ _ h => h) (Or.inl ⟨by rfl, ?_⟩) ?_ ?_
        rotate_left
        · intro w'
          go_simp
          with_reducible rfl
        rotate_left
        · simp only [Act.put, List.setIfInBounds_toArray, List.set_cons_zero, List.set_cons_succ, i64_w, i32_w]
          rfl
        refine take_ (i := 12) (N := some 59) (v := ?_) (a' := ?_) #[true, true, true, true, true, true, true, true, true, true, true, true, true, true, true, true, true, true, true, false, false, false, false, false, false] rfl rfl (by kernel_rfl) (fun _ _ _ h => h) (Or.inl ⟨by rfl, ?_⟩) hHeld ?_ ?_
        rotate_left
        · rintro w' ⟨s0, s1⟩
          go_simp
          with_reducible rfl
        rotate_left
        · simp only [Act.put, List.setIfInBounds_toArray, List.set_cons_zero, List.set_cons_succ, i64_w, i32_w]
          rfl
        refine pure_ (i := 19) (N := some 66) (v := ?_) (a' := ?_) #[true, true, true, true, true, true, true, true, true, true, true, true, true, true, true, true, true, true, true, true, false, false, false, false, false] rfl rfl (by kernel_rfl) (fun _ _ _ h => h) (Or.inl ⟨by rfl, ?_⟩) ?_ ?_
        rotate_left
        · intro w'
          go_simp
          with_reducible rfl
        rotate_left
        · simp only [Act.put, List.setIfInBounds_toArray, List.set_cons_zero, List.set_cons_succ, i64_w, i32_w]
          rfl
        refine one_ (i := 20) (N := some 67) #[true, true, true, true, true, true, true, true, true, true, true, true, true, true, true, true, true, true, true, true, true, false, false, false, false] rfl rfl (by kernel_rfl) (by decide) (fun K hK => ?_)
        refine Kd.R_append_rows_step (Kd.int .u8) (Rr := (Kd.int .u8).K wr.drew) (w0 := wr.drew) wr.heap.size (by rfl) _ (.tmp 66) 22 5 (.int .u8 0) 1 rfl Try.underlying22 info_u8 rfl (by decide) (by decide) (.slice none 0 0) [] D A' D.length _ (fun _ => True) (fun _ => False) rfl rfl (Kd.R_nil _ _ _ _ _) (Kd.C_below CD.out (Below.refl _ _).drew) (fun _ _ h => h) (fun _ hk => hk.elim) (fun _ _ => trivial) (Below.refl _ _) (Nat.le_refl _) (by have := HDL.out; simp; omega) ?_
        intro v7 w7 hr7 hb7 hg7 _
        have RD7 : Aside0 ((Kd.int .u8).R 5 w7 w.heap.size (fun k => True ∧ some k ≠ u5.ownBlock) v7 D) := ⟨Kd.R_lower (Kd.R_newR (W := wr.drew) hr7 (Kd.R_drew RA.out)) BA.out.size⟩
        have RA7 : Aside0 (k45.R 45 w7 w.heap.size (fun _ => True) u5 acc) := ⟨Kd.R_below (Kd.R_drew RA.out) hb7⟩
        have B7 := Aside0.mk (below_step BA.out.drew hb7)
        have K7 := Aside0.mk hb7
        clear hr7 hb7 hg7
        obtain ⟨A7, c7, rfl⟩ := Kd.R_slice RD7.out
        refine hK.out _ _ ⟨(pw_cell_below (w := wr.drew) K7.out H1.out.k0), (pw_cell_below (w := wr.drew) K7.out CB.out)⟩ (fun hHeld => ?_)
        clear hK K
        refine norm_ (a' := ?_) ?_ ?_
        rotate_left
        · show Act.put _ (some 67) _ = _
          simp only [Act.put, List.setIfInBounds_toArray, List.set_cons_zero, List.set_cons_succ, i64_w, i32_w]
          rfl
        refine pure_ (i := 21) (N := some 68) (v := ?_) (a' := ?_) #[true, true, true, true, true, true, true, true, true, true, true, true, true, true, true, true, true, true, true, true, true, true, false, false, false] rfl rfl (by kernel_rfl) (fun _ _ _ h => h) (Or.inl ⟨by rfl, ?_⟩) ?_ ?_
        rotate_left
        · intro w'
          go_simp
          with_reducible rfl
        rotate_left
        · simp only [Act.put, List.setIfInBounds_toArray, List.set_cons_zero, List.set_cons_succ, i64_w, i32_w]
          rfl
        refine last_ (i := 22) (N := some 69) #[true, true, true, true, true, true, true, true, true, true, true, true, true, true, true, true, true, true, true, true, true, true, true, false, false] rfl rfl (by kernel_rfl) (by decide) (fun K hK => ?_)
        refine value_ (w1 := ?_) (v := ?_) (by rfl) rfl ?_ ?_
        rotate_left 2
        · go_simp
          constructor
          · rfl
          · rfl
        refine hK.out _ _ ?_
        clear hK K
        refine norm_ (a' := ?_) ?_ ?_
        rotate_left
        · show Act.put _ (some 69) _ = _
          simp only [Act.put, List.setIfInBounds_toArray, List.set_cons_zero, List.set_cons_succ, i64_w, i32_w]
          rfl
        refine last_ (i := 23) (N := some 70) #[true, true, true, true, true, true, true, true, true, true, true, true, true, true, true, true, true, true, true, true, true, true, true, true, false] rfl rfl (by kernel_rfl) (by decide) (fun K hK => ?_)
        refine Kd.R_append_step k45 (w0 := w) w.heap.size (by rfl) (.tmp 47) (.tmp 69) 27 45 (.agg #[.int .i64 0, .slice none 0 0]) 32 rfl Try.underlying27 info45 rfl (by decide) (by decide) u5 acc ⟨xc, D⟩ [.int .i64 xc, .slice A7 D.length c7] (fun _ => True) (fun k => True ∧ some k ≠ u5.ownBlock) rfl rfl (k45_mkM _ _ _ ⟨xc, D⟩ RD7.out) (fun _ h => h) (fun _ _ => trivial) RA7.out B7.out B7.out.size (by have := HAL.out; omega) ?_
        intro v9 w9 hr9 hb9 _ _
        have R9 := Aside0.mk hr9
        have B9 := Aside0.mk hb9
        clear hr9 hb9
        refine hK.out _ _ ?_
        clear hK K
        refine norm_ (a' := ?_) ?_ ?_
        rotate_left
        · show Act.put _ (some 70) _ = _
          simp only [Act.put, List.setIfInBounds_toArray, List.set_cons_zero, List.set_cons_succ, i64_w, i32_w]
          rfl
        refine pure_ (i := 24) (N := some 5) (v := ?_) (a' := ?_) #[true, true, true, true, true, true, true, true, true, true, true, true, true, true, true, true, true, true, true, true, true, true, true, true, true] rfl rfl (by kernel_rfl) (fun _ _ _ h => h) (Or.inl ⟨by rfl, ?_⟩) ?_ ?_
        rotate_left
        · intro w'
          go_simp
          with_reducible rfl
        rotate_left
        · simp only [Act.put, List.setIfInBounds_toArray, List.set_cons_zero, List.set_cons_succ, i64_w, i32_w]
          rfl
        refine done_ (by kernel_rfl) ?_
        clear hw4 hw5 hcut
        have HR9 : Aside0 (k45.R 45 w9 w.heap.size (fun _ => True) v9 (acc ++ [optAt b at_])) := ⟨by rw [HO.out]; exact R9.out⟩
        obtain ⟨k', hk1, hk2⟩ := HK3.out
        go_wp2
        go_roundg (b.length - (at_ + 4 + wholeN n))
        case measure => have := Hq.out; omega
        case rel => exact ⟨at_ + 4 + wholeN n, k', acc ++ [optAt b at_], by first | rfl | go_num, ⟨by omega⟩, ⟨by omega, hk2, by rw [List.length_append]; have := HK.out.2.2; simp; omega⟩, HR9, B9⟩
    · have hlb := decide_eq_false hlt
      have HF : Aside0 (R = some acc) := ⟨by
        have h1 := HK.out
        obtain ⟨k', rfl⟩ : ∃ k', k = k' + 1 := ⟨k - 1, by omega⟩
        have h2 := h1.2.1
        simp only [cutM] at h2
        rw [if_neg (by omega)] at h2
        exact h2.symm⟩
      go_wp2
      go_ret
      exact ⟨BA.out, Or.inr ⟨acc, HF.out, _, rfl, RA.out⟩⟩
end Go.Proofs.Ytpjkbokojlpjoaa.Ak
