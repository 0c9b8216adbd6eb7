/- The statement SectorKeeps: its plain law and its walk. -/
import Derived.Test.YtdnjjhdhldgcmaaSec15
import Derived.Test.YtdnjjhdhldgcmaaSec14
namespace Go.Proofs.Ytdnjjhdhldgcmaa.Sec
open Go.RowKit Go.Proofs.YtdnjjhdhldgcmaaW.PrintWords Go.Proofs.YtdnjjhdhldgcmaaW.PrintLast Go.Proofs.YtdnjjhdhldgcmaaW.PrintMore Go.Proofs.Ytdnjjhdhldgcmaa.Bs Go.Proofs.Ytdnjjhdhldgcmaa.Fr
open Go.Proofs.Ytdnjjhdhldgcmaa.PSectorSynced
set_option linter.unusedVariables false
set_option linter.unusedSimpArgs false

/-- What SectorKeeps keeps, behind i deeds. -/
structure KP (m : DM) (i : Nat) : Prop where
  len : m.now.length = 6
  slen : m.sure.length = 6
  at5 : m.sure.getD 5 zB = rep 77
  ne5 : ∀ p ∈ m.since, p.1 ≠ 5
  nn : ∀ p ∈ m.since, 0 ≤ p.1
  ops : 0 ≤ m.ops ∧ m.ops ≤ i + 2
  since : m.since.length ≤ i + 2
  wait : m.wait.length ≤ 1000 * i
theorem getD_set_ne (l : List (List Int)) (q : Nat) (x : List Int) (h : q ≠ 5) : (l.set q x).getD 5 zB = l.getD 5 zB := by
  rw [List.getD_eq_getElem?_getD, List.getD_eq_getElem?_getD, List.getElem?_set_ne h]
theorem laid_get (l : List (Int × List Int)) : ∀ s : List (List Int), (∀ p ∈ l, p.1 ≠ 5) → (∀ p ∈ l, 0 ≤ p.1) → (laid s l).getD 5 zB = s.getD 5 zB := by
  induction l with
  | nil => intro s _ _; rfl
  | cons p r ih =>
    intro s h h0
    show (laid (s.set p.1.toNat p.2) r).getD 5 zB = _
    rw [ih _ (fun q hq => h q (List.mem_cons_of_mem _ hq)) (fun q hq => h0 q (List.mem_cons_of_mem _ hq)), getD_set_ne]
    have := h p List.mem_cons_self
    have := h0 p List.mem_cons_self
    omega
theorem crashTo_get (s : List (List Int)) (l : List (Int × List Int)) (ch : List Int) (h : ∀ p ∈ l, p.1 ≠ 5) (h0 : ∀ p ∈ l, 0 ≤ p.1) : ∀ j, j ≤ l.length → (crashTo s l ch j).getD 5 zB = s.getD 5 zB := by
  intro j
  induction j with
  | zero => intro _; rfl
  | succ j ih =>
    intro hj
    have hm : l.getD j zP ∈ l := by rw [List.getD_eq_getElem?_getD, List.getElem?_eq_getElem (by omega)]; exact List.getElem_mem _
    have h1 := h _ hm
    have h2 := h0 _ hm
    show (List.set _ _ _).getD 5 zB = _
    rw [getD_set_ne _ _ _ (by omega), ih (by omega)]
theorem KP.mono {m : DM} {i : Nat} (h : KP m i) : KP m (i + 1) := ⟨h.len, h.slen, h.at5, h.ne5, h.nn, by have := h.ops; omega, by have := h.since; omega, by have := h.wait; omega⟩
theorem KP.took {m : DM} {i : Nat} (h : KP m i) : KP (took m) (i + 1) := ⟨h.len, h.slen, h.at5, h.ne5, h.nn, by have := h.ops; show 0 ≤ m.ops + 1 ∧ m.ops + 1 ≤ ((i + 1 : Nat) : Int) + 2; omega, by have := h.since; show m.since.length ≤ i + 1 + 2; omega, by have := h.wait; show m.wait.tail.length ≤ _; rw [List.length_tail]; omega⟩
theorem KP.write {m : DM} {i : Nat} (h : KP m i) (a : Int) (b : List Int) (ha : a ≠ 5) : KP (wrM m a b) (i + 1) := by
  unfold wrM
  split
  · rename_i hc
    split
    · exact h.took
    · have hc : 0 ≤ a ∧ a < (m.now.length : Int) ∧ b.length = 64 := hc
      obtain ⟨q, rfl⟩ := Int.eq_ofNat_of_zero_le hc.1
      refine ⟨?_, h.slen, h.at5, ?_, ?_, ?_, ?_, ?_⟩
      · show (m.now.set _ b).length = 6; rw [List.length_set]; exact h.len
      · intro p hp
        rcases List.mem_append.1 hp with hp | hp
        · exact h.ne5 p hp
        · obtain rfl := List.mem_singleton.1 hp
          show (((q : Int).toNat : Nat) : Int) ≠ 5
          rw [Int.toNat_natCast]; exact ha
      · intro p hp
        rcases List.mem_append.1 hp with hp | hp
        · exact h.nn p hp
        · obtain rfl := List.mem_singleton.1 hp
          show (0 : Int) ≤ (((q : Int).toNat : Nat) : Int)
          omega
      · have := h.ops; show 0 ≤ m.ops + 1 ∧ m.ops + 1 ≤ ((i + 1 : Nat) : Int) + 2; omega
      · have := h.since; show (m.since ++ [_]).length ≤ i + 1 + 2; simp; omega
      · have := h.wait; show m.wait.tail.length ≤ _; rw [List.length_tail]; omega
  · exact h.mono
theorem KP.sync {m : DM} {i : Nat} (h : KP m i) : KP (syM m) (i + 1) := by
  unfold syM
  split
  · exact h.took
  · refine ⟨h.len, ?_, ?_, fun p hp => (by cases hp), fun p hp => (by cases hp), ?_, Nat.zero_le _, ?_⟩
    · show (laid m.sure m.since).length = 6; rw [laid_len]; exact h.slen
    · show (laid m.sure m.since).getD 5 zB = _; rw [laid_get _ _ h.ne5 h.nn]; exact h.at5
    · have := h.ops; show 0 ≤ m.ops + 1 ∧ m.ops + 1 ≤ ((i + 1 : Nat) : Int) + 2; omega
    · have := h.wait; show m.wait.tail.length ≤ _; rw [List.length_tail]; omega
theorem KP.waits {m : DM} {i : Nat} (h : KP m i) (l : List Int) (hl : l.length ≤ 1000) : KP (waits m (m.wait ++ l)) (i + 1) :=
  ⟨h.len, h.slen, h.at5, h.ne5, h.nn, by have := h.ops; show 0 ≤ m.ops ∧ m.ops ≤ ((i + 1 : Nat) : Int) + 2; omega, by have := h.since; show m.since.length ≤ i + 1 + 2; omega, by have := h.wait; show (m.wait ++ l).length ≤ _; rw [List.length_append]; omega⟩
theorem KP.crash {m : DM} {i : Nat} (h : KP m i) (l : List Int) : KP (crashed m l) (i + 1) := by
  have hlen : (crashTo m.sure m.since l m.since.length).length = 6 := by rw [crashTo_len]; exact h.slen
  refine ⟨hlen, hlen, ?_, fun p hp => (by cases hp), fun p hp => (by cases hp), ?_, Nat.zero_le _, Nat.zero_le _⟩
  · show (crashTo m.sure m.since l m.since.length).getD 5 zB = _
    rw [crashTo_get _ _ _ h.ne5 h.nn _ (Nat.le_refl _)]; exact h.at5
  · show (0 : Int) ≤ 0 ∧ (0 : Int) ≤ ((i + 1 : Nat) : Int) + 2; omega
theorem KP.crash5 {m : DM} {i : Nat} (h : KP m i) (l : List Int) : (crashed m l).now.length = 6 ∧ (crashed m l).now.getD 5 zB = rep 77 := by
  have h1 := h.crash l
  exact ⟨h1.len, h1.at5⟩
def mK1 : DM := wrM m6 5 (rep 77)
def mK2 : DM := syM mK1
theorem kp0 : KP mK2 0 := by
  have e : mK2 = ⟨[rep 0, rep 0, rep 0, rep 0, rep 0, rep 77], [rep 0, rep 0, rep 0, rep 0, rep 0, rep 77], [], [], 2⟩ := rfl
  rw [e]
  exact ⟨rfl, rfl, rfl, fun p hp => (by cases hp), fun p hp => (by cases hp), by decide, by decide, by decide⟩
theorem wrE_m6 : wrE m6 5 (rep 77) = 0 := by decide
theorem tell_k1 : tell (outc mK1) = 0 := by decide
theorem DV.lower {w : World} {base base' g : Nat} {v0 v1 v2 v3 : Value} {m : DM} (h : DV w base g v0 v1 v2 v3 m) (hb : base' ≤ base) : DV w base' g v0 v1 v2 v3 m :=
  ⟨h.blk, Kd.R_lower h.sure hb, Kd.R_lower h.now hb, Kd.R_lower h.since hb, Kd.Q_lower h.wait hb, h.ap, h.byt, h.len, h.n1, h.n2, h.at_, Nat.le_trans hb h.ge⟩
theorem KP.opsle {m : DM} {i : Nat} (h : KP m i) (hi : i ≤ 1000000) : 0 ≤ m.ops ∧ m.ops ≤ 1000000000 := by have := h.ops; omega
theorem KP.sincele {m : DM} {i : Nat} (h : KP m i) (hi : i ≤ 10000) : m.since.length ≤ 1000000 := by have := h.since; omega

set_option maxHeartbeats 4000000 in
set_option maxRecDepth 100000 in
theorem keeps_walk (w : World) (A : Option Addr) (c : Nat) (l : List S32) (hC : Kd.C k32 w A l.length l) (hc : l.length ≤ c) (hwf : ∀ x ∈ l, wfD x)
    (A1 : Option Addr) (c1 : Nat) (ch : List Int) (hC1 : Kd.C (Kd.int .u8) w A1 ch.length ch) (hc1 : ch.length ≤ c1) (hm1 : ch.length * 1 ≤ 140737488351232) (hw1 : ∀ x ∈ ch, (Lit.int .u8 x).wf = true) :
    Calls Try.prog 6 #[.slice A l.length c, .slice A1 ch.length c1] w fun e w' => e = .returned (.bool true) ∧ Below w.heap.size w w' := by
  have HC := Aside0.mk hC
  have HL := Aside0.mk hc
  have HC1 := Aside0.mk hC1
  have HL1 := Aside0.mk hc1
  have HBY : Aside0 (∀ x ∈ ch, 0 ≤ x ∧ x ≤ 255) := ⟨fun x hx => by
    have := hw1 x hx
    simp only [Lit.wf, Bool.and_eq_true, decide_eq_true_eq] at this
    exact ⟨this.1, this.2⟩⟩
  obtain ⟨r, hr, hrt⟩ := room_f l
  have HR := Aside0.mk hr
  have HRT := Aside0.mk hrt
  have HWF := Aside0.mk hwf
  clear hC hc hwf hC1 hc1 hm1 hw1 hr hrt
  go_enter Try.func6, Try.ntmps6
  go_wp2_with fail
  refine (awake_calls w).mono ?_
  rintro e w0 ⟨rfl, hb0⟩
  have B0 := Aside0.mk hb0
  clear hb0
  go_wp2_with fail
  refine (bailiwicklaw7_room.calls (l.length + 1) A c l r w0 (Kd.C_below HC.out B0.out) HL.out HR.out).mono ?_
  rintro e w1 ⟨rfl, hd1⟩
  have B1 := Aside0.mk (below_step B0.out hd1.below)
  clear hd1 B0
  by_cases hch : ch.length ≤ 1000
  · have hch1 : ¬ ((ch.length : Int) > 1000) := by omega
    cases r with
    | false =>
      go_wp2
      go_ret
      exact ⟨rfl, B1.out⟩
    | true =>
      have HLL := Aside0.mk (HRT.out rfl)
      go_wp2_with fail
      refine (fresh_calls w1 6 (by decide) (by decide)).mono ?_
      rintro e w2 ⟨g, v0, v1, rfl, hd2, hb2⟩
      have D2 : Aside0 (DV w2 w1.heap.size g v0 v1 (.slice none 0 0) (.slice none 0 0) m6) := ⟨hd2⟩
      have B2 := Aside0.mk (below_step B1.out hb2)
      have HS := Aside0.mk (And.intro B1.out.size hb2.size)
      clear hd2 hb2
      go_wp2_with fail
      refine (ones_calls 77 w2).mono ?_
      rintro e w3 ⟨g3, c3, rfl, hg3, _, hr3, hb3⟩
      have hne : g3 ≠ g := by have := D2.out.foot_lt g (.inl rfl); omega
      have R3 := Aside0.mk hr3
      have D3 := Aside0.mk (D2.out.below hb3)
      have B3 := Aside0.mk (below_step B2.out hb3)
      have S3 := Aside0.mk (Nat.le_trans HS.out.2 hb3.size)
      have hW := Write_all w3 w1.heap.size g v0 v1 _ _ m6 D3.out (by decide) (by decide) 5 (some ⟨g3, 0, none⟩) c3 (rep 77) (fun _ => ⟨g3, rfl, R3.out, hne⟩) S3.out
      rw [rep_len] at hW
      have HW := Aside0.mk hW
      clear hg3 hr3 hb3 hW hne
      go_wp2_with fail
      refine HW.out.mono ?_
      rintro e w4 ⟨rfl, v2a, v3a, hd4, hf4, _⟩
      rw [wrE_m6]
      have D4 : Aside0 (DV w4 w1.heap.size g v0 v1 v2a v3a mK1) := ⟨hd4⟩
      have B4 := Aside0.mk (below_fr B3.out B3.out.size hf4 (fun k hk => Nat.le_trans HS.out.1 (D3.out.foot_ge k hk)))
      have S4 := Aside0.mk (Nat.le_trans S3.out hf4.size)
      clear hd4 hf4 D3 B3 S3 R3 HW
      go_wp2_with fail
      refine (Sync_all w4 w1.heap.size g v0 v1 v2a v3a mK1 D4.out (by decide) (by decide) S4.out).mono ?_
      rintro e w5 ⟨rfl, v2b, v3b, hd5, hf5, _⟩
      rw [tell_k1]
      have D5 : Aside0 (DV w5 w1.heap.size g v0 v1 v2b v3b mK2) := ⟨hd5⟩
      have B5 := Aside0.mk (below_fr B4.out B4.out.size hf5 (fun k hk => Nat.le_trans HS.out.1 (D4.out.foot_ge k hk)))
      have S5 := Aside0.mk (Nat.le_trans S4.out hf5.size)
      clear hd5 hf5 D4 B4 S4
      go_wp2_with fail
      go_loopg [5, 6] l.length (fun q v5 v6 wr => ∃ (i g : Nat) (u0 u1 u2 u3 : Value) (m : DM), v5 = .pointer (some ⟨g, 0, none⟩) ∧ v6 = .int .i64 i ∧ Aside0 (q + i = l.length) ∧ Aside0 (DV wr w1.heap.size g u0 u1 u2 u3 m ∧ KP m i ∧ Below w.heap.size w wr ∧ w1.heap.size ≤ wr.heap.size))
      case atStart => exact ⟨0, _, _, _, _, _, mK2, rfl, rfl, ⟨by omega⟩, ⟨D5.out, kp0, B5.out, S5.out⟩⟩
      case round =>
        clear D5 D2 B2
        obtain ⟨i, g, u0, u1, u2, u3, m, rfl, rfl, hq, hat⟩ := hrel
        by_cases hi : i < l.length
        · have hi1 : decide ((i : Int) < (l.length : Int)) = true := decide_eq_true (by omega)
          have hi2 : (i : Int) < (l.length : Int) := by omega
          have hi3 : (0 : Int) ≤ (i : Int) := by omega
          obtain ⟨ad, A4, c4, hA, k0, k1, k2, k3, k4, hl4, hc4⟩ := at_T32 (Kd.C_below HC.out hat.out.2.2.1) (i : Int) hi3 hi2
          subst hA
          have h1000 := HLL.out.2 i hi
          have hwx : wfD (rd_T32 l (i : Int)) := HWF.out _ (by unfold rd_T32; rw [Int.toNat_natCast, List.getD_eq_getElem?_getD, List.getElem?_eq_getElem hi]; exact List.getElem_mem hi)
          rw [Int.toNat_natCast] at k0 k1 k2 k3 k4
          generalize rd_T32 l (i : Int) = dd at *
          obtain ⟨a0, a1, a2, a3, a4⟩ := dd
          simp only at k0 k1 k2 k3 k4 hl4 hc4 h1000
          have HBY4 : Aside0 (∀ x ∈ a4, 0 ≤ x ∧ x ≤ 255) := ⟨fun x hx => by
            have := hwx.2.2.2.2.1 x hx
            simp only [Lit.wf, Bool.and_eq_true, decide_eq_true_eq] at this
            exact ⟨this.1, this.2⟩⟩
          have HL4 := Aside0.mk hl4
          have HC4 := Aside0.mk hc4
          have H1K := Aside0.mk h1000
          clear hl4 hc4 hwx
          by_cases ha : a0 ≤ 3
          · have ha1 : decide (a0 ≤ 3) = true := decide_eq_true ha
            have e4 : (a0 == 4) = false := beq_eq_false_iff_ne.mpr (by omega)
            have e5 : (a0 == 5) = false := beq_eq_false_iff_ne.mpr (by omega)
            have e6 : (a0 == 6) = false := beq_eq_false_iff_ne.mpr (by omega)
            by_cases h5 : a1 = 5
            · have h51 : (a1 != 5) = false := by rw [h5]; rfl
              clear ha h5
              go_wp2_with fail
              go_roundg (l.length - (i + 1))
              case measure => have := hq.out; omega
              case rel => exact ⟨i + 1, g, u0, u1, u2, u3, m, rfl, by have := HLL.out.1; rw [show wrap64 ((i : Int) + 1) = ((i + 1 : Nat) : Int) from by unfold wrap64; omega], ⟨by omega⟩, ⟨hat.out.1, hat.out.2.1.mono, hat.out.2.2⟩⟩
            · have h51 : (a1 != 5) = true := bne_iff_ne.mpr h5
              obtain ⟨bs, hbs, hbl⟩ := body_f a0 a1 a2 a3 a4 h1000 2000 (by decide)
              have HBS := Aside0.mk hbs
              have H5 := Aside0.mk h5
              clear ha h5 hbs hbl h1000
              go_upto_region 12 with fail
              refine start_ (n := 12) (S := fun w' => w'.cell? (ad.add (i * 5)) = some (.int .i64 a0) ∧ w'.cell? ⟨(ad.add (i * 5)).block, (ad.add (i * 5)).off + 1, none⟩ = some (.int .i64 a1) ∧ w'.cell? ⟨(ad.add (i * 5)).block, (ad.add (i * 5)).off + 2, none⟩ = some (.int .i64 a2) ∧ w'.cell? ⟨(ad.add (i * 5)).block, (ad.add (i * 5)).off + 3, none⟩ = some (.int .u8 a3) ∧ w'.cell? ⟨(ad.add (i * 5)).block, (ad.add (i * 5)).off + 4, none⟩ = some (.slice A4 a4.length c4)) (ds := [11]) #[false, false, false, false, false, false, false, false, false, false, false, false] (by kernel_rfl) rfl rfl ⟨k0, k1, k2, k3, k4⟩ (fun hHeld => ?_)
              refine pure_ (i := 0) (N := some 54) (v := ?_) (a' := ?_) #[true, false, false, false, false, false, false, false, false, false, false, false] rfl rfl (by kernel_rfl) (fun _ _ _ h => h) (Or.inl ⟨by rfl, ?_⟩) ?_ ?_
              rotate_left
              · intro w'
                go_simp
                with_reducible rfl
              rotate_left
              · simp only [Act.put, List.setIfInBounds_toArray, List.set_cons_zero, List.set_cons_succ, i64_w, i32_w]
                rfl
              refine pure_ (i := 1) (N := some 55) (v := ?_) (a' := ?_) #[true, true, false, false, false, false, false, false, false, false, false, false] rfl rfl (by kernel_rfl) (fun _ _ _ h => h) (Or.inl ⟨by rfl, ?_⟩) ?_ ?_
              rotate_left
              · intro w'
                go_simp
                with_reducible rfl
              rotate_left
              · simp only [Act.put, List.setIfInBounds_toArray, List.set_cons_zero, List.set_cons_succ, i64_w, i32_w]
                rfl
              refine pure_ (i := 2) (N := some 56) (v := ?_) (a' := ?_) #[true, true, true, false, false, false, false, false, false, false, false, false] rfl rfl (by kernel_rfl) (fun _ _ _ h => h) (Or.inl ⟨by rfl, ?_⟩) ?_ ?_
              rotate_left
              · intro w'
                go_simp
                with_reducible rfl
              rotate_left
              · simp only [Act.put, List.setIfInBounds_toArray, List.set_cons_zero, List.set_cons_succ, i64_w, i32_w]
                rfl
              refine pure_ (i := 3) (N := some 57) (v := ?_) (a' := ?_) #[true, true, true, true, false, false, false, false, false, false, false, false] rfl rfl (by kernel_rfl) (fun _ _ _ h => h) (Or.inl ⟨by rfl, ?_⟩) ?_ ?_
              rotate_left
              · intro w'
                go_simp
                with_reducible rfl
              rotate_left
              · simp only [Act.put, List.setIfInBounds_toArray, List.set_cons_zero, List.set_cons_succ, i64_w, i32_w]
                rfl
              refine pure_ (i := 4) (N := some 58) (v := ?_) (a' := ?_) #[true, true, true, true, true, false, false, false, false, false, false, false] rfl rfl (by kernel_rfl) (fun _ _ _ h => h) (Or.inl ⟨by rfl, ?_⟩) ?_ ?_
              rotate_left
              · intro w'
                go_simp
                with_reducible rfl
              rotate_left
              · simp only [Act.put, List.setIfInBounds_toArray, List.set_cons_zero, List.set_cons_succ, i64_w, i32_w]
                rfl
              refine pure_ (i := 6) (N := some 60) (v := ?_) (a' := ?_) #[true, true, true, true, true, false, true, false, false, false, false, false] rfl rfl (by kernel_rfl) (fun _ _ _ h => h) (Or.inl ⟨by rfl, ?_⟩) ?_ ?_
              rotate_left
              · intro w'
                go_simp
                with_reducible rfl
              rotate_left
              · simp only [Act.put, List.setIfInBounds_toArray, List.set_cons_zero, List.set_cons_succ, i64_w, i32_w]
                rfl
              refine pure_ (i := 7) (N := some 61) (v := ?_) (a' := ?_) #[true, true, true, true, true, false, true, true, false, false, false, false] rfl rfl (by kernel_rfl) (fun _ _ _ h => h) (Or.inl ⟨by rfl, ?_⟩) ?_ ?_
              rotate_left
              · intro w'
                go_simp
                with_reducible rfl
              rotate_left
              · simp only [Act.put, List.setIfInBounds_toArray, List.set_cons_zero, List.set_cons_succ, i64_w, i32_w]
                rfl
              refine pure_ (i := 8) (N := some 62) (v := ?_) (a' := ?_) #[true, true, true, true, true, false, true, true, true, false, false, false] rfl rfl (by kernel_rfl) (fun _ _ _ h => h) (Or.inl ⟨by rfl, ?_⟩) ?_ ?_
              rotate_left
              · intro w'
                go_simp
                with_reducible rfl
              rotate_left
              · simp only [Act.put, List.setIfInBounds_toArray, List.set_cons_zero, List.set_cons_succ, i64_w, i32_w]
                rfl
              refine take_ (i := 5) (N := some 59) (v := ?_) (a' := ?_) #[true, true, true, true, true, true, true, true, true, false, false, false] rfl rfl (by kernel_rfl) (fun _ _ _ h => h) (Or.inl ⟨by rfl, ?_⟩) hHeld ?_ ?_
              rotate_left
              · rintro w' ⟨s0, s1, s2, s3, s4⟩
                go_simp
                with_reducible rfl
              rotate_left
              · simp only [Act.put, List.setIfInBounds_toArray, List.set_cons_zero, List.set_cons_succ, i64_w, i32_w]
                rfl
              refine take_ (i := 9) (N := some 63) (v := ?_) (a' := ?_) #[true, true, true, true, true, true, true, true, true, true, false, false] rfl rfl (by kernel_rfl) (fun _ _ _ h => h) (Or.inl ⟨by rfl, ?_⟩) hHeld ?_ ?_
              rotate_left
              · rintro w' ⟨s0, s1, s2, s3, s4⟩
                go_simp
                with_reducible rfl
              rotate_left
              · simp only [Act.put, List.setIfInBounds_toArray, List.set_cons_zero, List.set_cons_succ, i64_w, i32_w]
                rfl
              refine one_ (i := 10) (N := some 64) #[true, true, true, true, true, true, true, true, true, true, true, false] rfl rfl (by kernel_rfl) (by decide) (fun K hK => ?_)
              refine goes_ Try.func19 (by kernel_rfl) rfl #[.agg #[.int .i64 a0, .int .i64 a1, .int .i64 a2, .int .u8 a3, .slice A4 a4.length c4]] (by rfl) rfl rfl (by simp only [List.map_toArray, List.map_cons, List.map_nil]; rfl) ?_
              with_reducible refine (bailiwicklaw7_body.calls 2000 a0 a1 a2 a3 A4 c4 a4 bs _ (Kd.C_below HC4.out (Below.refl _ _).drew) HL4.out HBS.out).mono ?_
              rintro e w5 ⟨vb, rfl, hrb, hb5⟩
              refine ⟨_, rfl, ?_⟩
              have HRB := Aside0.mk hrb
              have HB5 := Aside0.mk hb5
              clear hrb hb5
              obtain ⟨A5, c5, hvb⟩ := Kd.R_slice HRB.out
              subst hvb
              refine hK.out _ _ ⟨(pw_cell_below (w := wr.drew) HB5.out k0), (pw_cell_below (w := wr.drew) HB5.out k1), (pw_cell_below (w := wr.drew) HB5.out k2), (pw_cell_below (w := wr.drew) HB5.out k3), (pw_cell_below (w := wr.drew) HB5.out k4)⟩ (fun hHeld => ?_)
              clear hK K
              refine norm_ (a' := ?_) ?_ ?_
              rotate_left
              · show Act.put _ (some 64) _ = _
                simp only [Act.put, List.setIfInBounds_toArray, List.set_cons_zero, List.set_cons_succ, i64_w, i32_w]
                rfl
              refine last_ (i := 11) (N := some 65) #[true, true, true, true, true, true, true, true, true, true, true, true] rfl rfl (by kernel_rfl) (by decide) (fun K hK => ?_)
              refine goes_ Try.func20 (by kernel_rfl) rfl #[.pointer (some ⟨g, 0, none⟩), .int .i64 a1, .slice A5 bs.length c5] (by rfl) rfl rfl (by simp only [List.map_toArray, List.map_cons, List.map_nil]; rfl) ?_
              with_reducible refine (Write_all w5 w1.heap.size g u0 u1 u2 u3 m ((hat.out.1.below (Below.refl _ _).drew).below HB5.out) (hat.out.2.1.opsle (by have := HLL.out.1; omega)) (hat.out.2.1.sincele (by have := HLL.out.1; omega)) a1 A5 c5 bs (own_arg (hat.out.1.below (Below.refl _ _).drew) HRB.out) (Nat.le_trans (Nat.le_trans hat.out.2.2.2 (Below.refl wr.heap.size wr).drew.size) HB5.out.size)).mono ?_
              rintro e w6 ⟨rfl, v2', v3', hd6, hf6, hft6⟩
              refine ⟨_, rfl, ?_⟩
              have D6 := Aside0.mk hd6
              have F6 := Aside0.mk hf6
              clear hd6 hf6 hft6
              refine hK.out _ _ ?_
              clear hK K
              refine norm_ (a' := ?_) ?_ ?_
              rotate_left
              · show Act.put _ (some 65) _ = _
                simp only [Act.put, List.setIfInBounds_toArray, List.set_cons_zero, List.set_cons_succ, i64_w, i32_w]
                rfl
              refine done_ (by kernel_rfl) ?_
              have hb7 : Below w.heap.size w w5 := below_step hat.out.2.2.1.drew HB5.out
              have D7 := Aside0.mk (And.intro D6.out (And.intro (hat.out.2.1.write a1 bs H5.out) (And.intro (below_fr hb7 hb7.size F6.out (fun k hk => Nat.le_trans HS.out.1 (hat.out.1.foot_ge k hk))) (Nat.le_trans (Nat.le_trans (Nat.le_trans hat.out.2.2.2 (Below.refl wr.heap.size wr).drew.size) HB5.out.size) F6.out.size))))
              clear hb7 D6 F6 HB5 HRB hHeld
              go_wp2_with fail
              go_roundg (l.length - (i + 1))
              case measure => have := hq.out; omega
              case rel => exact ⟨i + 1, _, _, _, _, _, _, rfl, by have := HLL.out.1; rw [show wrap64 ((i : Int) + 1) = ((i + 1 : Nat) : Int) from by unfold wrap64; omega], ⟨by omega⟩, D7⟩
          · have ha1 : decide (a0 ≤ 3) = false := decide_eq_false ha
            by_cases h4 : a0 = 4
            · subst h4
              go_wp2_with fail
              refine (Sync_all wr w1.heap.size g u0 u1 u2 u3 m hat.out.1 (hat.out.2.1.opsle (by have := HLL.out.1; omega)) (hat.out.2.1.sincele (by have := HLL.out.1; omega)) hat.out.2.2.2).mono ?_
              rintro e w6 ⟨rfl, v2', v3', hd6, hf6, _⟩
              have D7 := Aside0.mk (And.intro hd6 (And.intro hat.out.2.1.sync (And.intro (below_fr hat.out.2.2.1 hat.out.2.2.1.size hf6 (fun k hk => Nat.le_trans HS.out.1 (hat.out.1.foot_ge k hk))) (Nat.le_trans hat.out.2.2.2 hf6.size))))
              clear hd6 hf6
              go_wp2_with fail
              go_roundg (l.length - (i + 1))
              case measure => have := hq.out; omega
              case rel => exact ⟨i + 1, _, _, _, _, _, _, rfl, by have := HLL.out.1; rw [show wrap64 ((i : Int) + 1) = ((i + 1 : Nat) : Int) from by unfold wrap64; omega], ⟨by omega⟩, D7⟩
            · have e4 : (a0 == 4) = false := beq_eq_false_iff_ne.mpr h4
              by_cases h5 : a0 = 5
              · subst h5
                go_wp2_with fail
                refine (Outcomes_calls wr w1.heap.size g u0 u1 u2 u3 m hat.out.1 A4 c4 a4 HC4.out (by have := HLL.out.1; have := hat.out.2.1.wait; have := H1K.out; omega) HBY4.out hat.out.2.2.2).mono ?_
                rintro e w6 ⟨rfl, v3', hd6, hf6, _⟩
                have D7 := Aside0.mk (And.intro hd6 (And.intro (hat.out.2.1.waits a4 H1K.out) (And.intro (below_fr hat.out.2.2.1 hat.out.2.2.1.size hf6 (fun k hk => Nat.le_trans HS.out.1 (hat.out.1.foot_ge k hk))) (Nat.le_trans hat.out.2.2.2 hf6.size))))
                clear hd6 hf6
                go_wp2_with fail
                go_roundg (l.length - (i + 1))
                case measure => have := hq.out; omega
                case rel => exact ⟨i + 1, _, _, _, _, _, _, rfl, by have := HLL.out.1; rw [show wrap64 ((i : Int) + 1) = ((i + 1 : Nat) : Int) from by unfold wrap64; omega], ⟨by omega⟩, D7⟩
              · have e5 : (a0 == 5) = false := beq_eq_false_iff_ne.mpr h5
                by_cases h6 : a0 = 6
                · subst h6
                  go_wp2_with fail
                  refine (Crash_calls wr w1.heap.size g u0 u1 u2 u3 m hat.out.1 (hat.out.2.1.sincele (by have := HLL.out.1; omega)) A4 c4 a4 HC4.out HL4.out HBY4.out).mono ?_
                  rintro e w6 ⟨g', x0, x1, rfl, hd6, hb6⟩
                  have D7 := Aside0.mk (And.intro (hd6.lower hat.out.2.2.2) (And.intro (hat.out.2.1.crash a4) (And.intro (below_step hat.out.2.2.1 hb6) (Nat.le_trans hat.out.2.2.2 hb6.size))))
                  clear hd6 hb6
                  go_wp2_with fail
                  go_roundg (l.length - (i + 1))
                  case measure => have := hq.out; omega
                  case rel => exact ⟨i + 1, _, _, _, _, _, _, rfl, by have := HLL.out.1; rw [show wrap64 ((i : Int) + 1) = ((i + 1 : Nat) : Int) from by unfold wrap64; omega], ⟨by omega⟩, D7⟩
                · have e6 : (a0 == 6) = false := beq_eq_false_iff_ne.mpr h6
                  clear ha h4 h5 h6
                  go_wp2_with fail
                  go_roundg (l.length - (i + 1))
                  case measure => have := hq.out; omega
                  case rel => exact ⟨i + 1, g, u0, u1, u2, u3, m, rfl, by have := HLL.out.1; rw [show wrap64 ((i : Int) + 1) = ((i + 1 : Nat) : Int) from by unfold wrap64; omega], ⟨by omega⟩, ⟨hat.out.1, hat.out.2.1.mono, hat.out.2.2⟩⟩
        · have hi1 : decide ((i : Int) < (l.length : Int)) = false := decide_eq_false (by omega)
          have h5 := hat.out.2.1.crash5 ch
          have H55 := Aside0.mk h5
          clear h5
          go_wp2_with fail
          refine (Crash_calls wr w1.heap.size g u0 u1 u2 u3 m hat.out.1 (hat.out.2.1.sincele (by have := HLL.out.1; have := hq.out; omega)) A1 c1 ch (Kd.C_below HC1.out hat.out.2.2.1) HL1.out HBY.out).mono ?_
          rintro e w7 ⟨g7, x0, x1, rfl, hd7, hb7⟩
          have D7 := Aside0.mk hd7
          have B7 := Aside0.mk (below_step hat.out.2.2.1 hb7)
          clear hd7 hb7
          have hR := Read_calls w7 wr.heap.size g7 x0 x1 _ _ (crashed m ch) D7.out 5 (by rw [H55.out.1]; decide)
          rw [H55.out.2] at hR
          have HR7 := Aside0.mk hR
          clear hR
          go_wp2_with fail
          refine HR7.out.mono ?_
          rintro e w8 ⟨g8, rfl, _, hx8, _, hb8⟩
          have X8 := Aside0.mk hx8
          have B8 := Aside0.mk (below_step B7.out hb8)
          clear hx8 hb8 HR7 D7 B7
          go_wp2_with fail
          refine (ones_calls 77 w8).mono ?_
          rintro e w9 ⟨g9, c9, rfl, _, hr9, _, hb9⟩
          have X9 := Aside0.mk (blk_below X8.out hb9)
          have B9 := Aside0.mk (below_step B8.out hb9)
          have C9 := Aside0.mk (Kd.R_reads' hr9)
          clear hr9 hb9 X8 B8
          go_wp2_with fail
          refine (same_calls w9 _ _ 64 c9 (rep 77) (rep_len 77) (C_blk X9.out (rep_len 77)) (Nat.le_refl _) (by have h_ := C9.out.2.2; rw [rep_len] at h_; exact h_) C9.out.2.1).mono ?_
          rintro e w10 ⟨rfl, hb10⟩
          have B10 := Aside0.mk (below_step B9.out hb10)
          clear hb10 X9 B9 C9
          go_wp2_with fail
          go_ret
          exact ⟨rfl, B10.out⟩
  · have hch1 : (ch.length : Int) > 1000 := by omega
    cases r with
    | false =>
      go_wp2
      go_ret
      exact ⟨rfl, B1.out⟩
    | true =>
      go_wp2
      go_ret
      exact ⟨rfl, B1.out⟩
end Go.Proofs.Ytdnjjhdhldgcmaa.Sec
