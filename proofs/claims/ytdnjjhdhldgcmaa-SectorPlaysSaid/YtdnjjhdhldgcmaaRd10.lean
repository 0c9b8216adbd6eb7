/- SectorApart: the walk. -/
import Derived.Test.YtdnjjhdhldgcmaaRdC
namespace Go.Proofs.Ytdnjjhdhldgcmaa.Sec
open Go.RowKit Go.Proofs.YtdnjjhdhldgcmaaW.PrintWords Go.Proofs.YtdnjjhdhldgcmaaW.PrintLast Go.Proofs.YtdnjjhdhldgcmaaW.PrintMore Go.Proofs.Ytdnjjhdhldgcmaa.Bs Go.Proofs.Ytdnjjhdhldgcmaa.Fr
open Go.Proofs.Ytdnjjhdhldgcmaa.PSectorTorn Go.Proofs.Ytdnjjhdhldgcmaa.PSectorSynced
set_option linter.unusedVariables false
set_option linter.unusedSimpArgs false
theorem bd0 (n : Nat) : Bd (m0 n) 0 := ⟨Int.le_refl _, Int.le_refl _, Nat.le_refl _, Nat.le_refl _⟩
theorem wrM_len (m : DM) (i : Int) (b : List Int) : (wrM m i b).now.length = m.now.length := by
  unfold wrM
  split
  · split
    · rfl
    · show (m.now.set _ b).length = _
      rw [List.length_set]
  · rfl
/-- A row of one's own of which one byte is written. -/
theorem row_byte {w : World} {e base n c : Nat} {A : Option Addr} {xs : List Int} (h : Kd.R (Kd.int .u8) e w base (fun _ => True) (.slice A n c) xs) (k : Nat) (hk : k < n) :
    ∃ g v, A = some ⟨g, 0, none⟩ ∧ w.cell? ⟨g, k, none⟩ = some v ∧ w.frozen? ⟨g, k, none⟩ = false ∧ ∀ x, Kd.R (Kd.int .u8) e (w.setCell ⟨g, k, none⟩ (.int .u8 x)) base (fun _ => True) (.slice A n c) (xs.set k x) := by
  obtain ⟨rfl, _⟩ := Kd.R_reads' h
  obtain ⟨gb, cap, hv, _, _, _, _⟩ := Kd.R_form h (by omega)
  injection hv with hA hn hc
  subst hA
  subst hc
  have hcs := Kd.R_celln (0 : Int) h (k : Int) (by omega) (by omega)
  rw [Int.toNat_natCast] at hcs
  refine ⟨gb, _, rfl, hcs.1, hcs.2, fun x => ?_⟩
  have h_ := Kd.R_putn h (k : Int) x
  rw [Int.toNat_natCast] at h_
  exact h_
set_option maxHeartbeats 4000000 in
set_option maxRecDepth 100000 in
theorem apart_walk (w : World) (A : Option Addr) (c : Nat) (l : List S32) (hC : Kd.C k32 w A l.length l) (hc : l.length ≤ c) (hwf : ∀ x ∈ l, wfD x)
    (A1 : Option Addr) (c1 : Nat) (ch : List Int) (hC1 : Kd.C (Kd.int .u8) w A1 ch.length ch) (hc1 : ch.length ≤ c1) (hm1 : ch.length * 1 ≤ 140737488351232) (hw1 : ∀ x ∈ ch, (Lit.int .u8 x).wf = true) :
    Calls Try.prog 3 #[.slice A l.length c, .slice A1 ch.length c1] w fun e w' => e = .returned (.bool true) ∧ Below w.heap.size w w' := by
  have HC := Aside0.mk hC
  have HL := Aside0.mk hc
  have HC1 := Aside0.mk hC1
  have HL1 := Aside0.mk hc1
  have HBY : Aside0 (∀ x ∈ ch, 0 ≤ x ∧ x ≤ 255) := ⟨fun x hx => by
    have := hw1 x hx
    simp only [Lit.wf, Bool.and_eq_true, decide_eq_true_eq] at this
    exact ⟨this.1, this.2⟩⟩
  obtain ⟨r, hr, hrt⟩ := room_f l
  have HR := Aside0.mk hr
  have HRT := Aside0.mk hrt
  clear hC hc hwf hC1 hc1 hm1 hw1 hr hrt
  go_enter Try.func3, Try.ntmps3
  go_wp2_with fail
  refine (awake_calls w).mono ?_
  rintro e w0 ⟨rfl, hb0⟩
  have B0 := Aside0.mk hb0
  clear hb0
  go_wp2_with fail
  refine (bailiwicklaw7_room.calls (l.length + 1) A c l r w0 (Kd.C_below HC.out B0.out) HL.out HR.out).mono ?_
  rintro e w1 ⟨rfl, hd1⟩
  have B1 := Aside0.mk (below_step B0.out hd1.below)
  clear hd1 B0
  by_cases hch : ch.length ≤ 1000
  rotate_left
  · have hch1 : (ch.length : Int) > 1000 := by omega
    cases r with
    | false =>
      go_wp2
      go_ret
      exact ⟨rfl, B1.out⟩
    | true =>
      go_wp2
      go_ret
      exact ⟨rfl, B1.out⟩
  have hch1 : ¬ ((ch.length : Int) > 1000) := by omega
  cases r with
  | false =>
    go_wp2
    go_ret
    exact ⟨rfl, B1.out⟩
  | true =>
  have HLL := Aside0.mk (HRT.out rfl)
  go_wp2_with fail
  refine (fresh_calls w1 4 (by decide) (by decide)).mono ?_
  rintro e w2 ⟨g, v0, v1, rfl, hd2, hb2⟩
  have D2 : Aside0 (DV w2 w1.heap.size g v0 v1 (.slice none 0 0) (.slice none 0 0) (m0 4)) := ⟨hd2⟩
  have B2 := Aside0.mk (below_step B1.out hb2)
  have S12 := Aside0.mk hb2.size
  clear hd2 hb2
  go_wp2_with fail
  refine (RNew_calls w2 4 (by decide) (by decide)).mono ?_
  rintro e w3 ⟨gR, X, rfl, hr3, _, hb3⟩
  have T3 : Aside0 (Two w3 w1.heap.size g v0 v1 (.slice none 0 0) (.slice none 0 0) gR X (m0 4)) := ⟨⟨D2.out.below hb3, { hr3 with sure := Kd.R_lower hr3.sure S12.out, now := Kd.R_lower hr3.now S12.out, since := Kd.R_lower hr3.since S12.out, wait := Kd.Q_lower hr3.wait S12.out, bods := fun j p hp => by simp [m0] at hp, ge := Nat.le_trans S12.out hr3.ge }, fun k hk he => by have := D2.out.foot_lt k hk; have := hr3.foot_ge k he; omega, Nat.le_trans S12.out hb3.size⟩⟩
  have B3 := Aside0.mk (below_step B2.out hb3)
  clear hr3 hb3 D2
  have HS1 := Aside0.mk B1.out.size
  go_wp2_with fail
  go_loopg [8] l.length (fun q v8 wr => ∃ (i : Nat) (v0 v1 v2 v3 : Value) (X : RX) (m : DM), v8 = .int .i64 i ∧ Aside0 (q + i = l.length) ∧ Aside0 (Two wr w1.heap.size g v0 v1 v2 v3 gR X m) ∧ Aside0 (Bd m i) ∧ Aside0 (m.now.length = 4) ∧ Aside0 (Below w.heap.size w wr))
  case atStart => exact ⟨0, _, _, _, _, X, m0 4, rfl, ⟨by omega⟩, T3, ⟨bd0 4⟩, ⟨by simp [m0]⟩, B3⟩
  case round =>
    obtain ⟨i, u0, u1, u2, u3, Y, m, rfl, hq, TW, BM, N4, BR⟩ := hrel
    by_cases hi : i < l.length
    · have hi1 : decide ((i : Int) < (l.length : Int)) = true := decide_eq_true (by omega)
      have hi2 : (i : Int) < (l.length : Int) := by omega
      have hi3 : (0 : Int) ≤ (i : Int) := by omega
      have hi4 : i ≤ 300 := by have := HLL.out.1; omega
      obtain ⟨ad, A4, c4, hA, k0, k1, k2, k3, k4, hl4, hc4⟩ := at_T32 (Kd.C_below HC.out BR.out) (i : Int) hi3 hi2
      obtain ⟨ad', A4', c4', hA', e0, e1, e2, e3, e4, _, _⟩ := at_T32 HC.out (i : Int) hi3 hi2
      subst hA
      obtain rfl := Option.some.inj hA'
      have h1000 := HLL.out.2 i hi
      rw [Int.toNat_natCast] at k0 k1 k2 k3 k4 e0 e1 e2 e3 e4
      generalize rd_T32 l (i : Int) = dd at *
      obtain ⟨a0, a1, a2, a3, a4⟩ := dd
      simp only at k0 k1 k2 k3 k4 hl4 hc4 h1000 e0 e1 e2 e3 e4
      have E1 := Aside0.mk e1
      obtain ⟨bs, hbs, hbl⟩ := body_f a0 a1 a2 a3 a4 h1000 2000 (by decide)
      have HL4 := Aside0.mk hl4
      have HC4 := Aside0.mk hc4
      have HBS := Aside0.mk hbs
      clear hl4 hc4 hbs hbl h1000 e0 e1 e2 e3 e4 hA'
      by_cases ha : a0 ≤ 3
      · have ha1 : decide (a0 ≤ 3) = true := decide_eq_true ha
        clear ha
        go_wp2_with fail
        refine (bailiwicklaw7_body.calls 2000 a0 a1 a2 a3 A4 c4 a4 bs _ HC4.out HL4.out HBS.out).mono ?_
        rintro e w5 ⟨vb, rfl, hrb, hb5⟩
        obtain ⟨A5, c5, rfl⟩ := Kd.R_slice hrb
        have RB := Aside0.mk hrb
        have B5 := Aside0.mk (below_step BR.out hb5)
        have T5 := Aside0.mk (TW.out.below hb5)
        have LT := Aside0.mk TW.out.lt
        have GE := Aside0.mk TW.out.ge
        have S5 := Aside0.mk hb5.size
        have k1' := pw_cell_below B5.out E1.out
        clear hrb hb5 k0 k1 k2 k3 k4
        go_wp2_with fail
        refine (Write_all w5 w1.heap.size g u0 u1 u2 u3 m T5.out.d (BM.out.ops (by omega)) (BM.out.sin (by omega)) a1 A5 c5 bs (fun h64 => by obtain ⟨gb, h1, h2, h3⟩ := arg_row RB.out LT.out.1 h64; exact ⟨gb, h1, h2, fun he => h3 (.inl he)⟩) T5.out.bs).mono ?_
        rintro e w6 ⟨rfl, u2', u3', hd6, hf6, hft6⟩
        have D6 := Aside0.mk hd6
        have F6 := Aside0.mk hf6
        have FT6 := Aside0.mk hft6
        have R6 := Aside0.mk (T5.out.r.keep hf6 (fun q hq he => T5.out.sep q he hq))
        have RB6 := Aside0.mk (R_fr RB.out rfl hf6 (fun k hk he => by have := R_ge RB.out hk; have := LT.out.1 k he; omega))
        have B6 := Aside0.mk (below_fr B5.out B5.out.size hf6 (fun k hk => Nat.le_trans HS1.out (GE.out.1 k hk)))
        have k1'' := pw_cell_below B6.out E1.out
        clear hd6 hf6 hft6 k1'
        go_wp2_with fail
        refine (RWrite_all w6 w1.heap.size gR Y m R6.out (BM.out.ops (by omega)) (BM.out.sin (by omega)) a1 A5 c5 bs (fun h64 => by obtain ⟨gb, h1, h2, h3⟩ := arg_row RB6.out (F := footR gR Y) (fun k hk => LT.out.2 k (.inl hk)) h64; exact ⟨gb, h1, h2, h3⟩) (Nat.le_trans T5.out.bs F6.out.size)).mono ?_
        rintro e w7 ⟨rfl, X7, hr7, hf7, hX7⟩
        have T7 := Aside0.mk (T5.out.both D6.out F6.out FT6.out hr7 hf7 hX7)
        have RB7 := Aside0.mk (R_fr RB6.out rfl hf7 (fun k hk he => by have := R_ge RB.out hk; have := LT.out.2 k (.inl he); omega))
        have B7 := Aside0.mk (below_fr B6.out B6.out.size hf7 (fun k hk => Nat.le_trans HS1.out (GE.out.2 k (.inl hk))))
        have AP : Aside0 (∀ k, own (.slice A5 bs.length c5) k → ¬ foot g u0 u1 u2' u3' k ∧ ¬ allR gR X7 k ∧ w.heap.size ≤ k) := ⟨fun k hk => by
          have h1 := R_ge RB.out hk
          have h2 := R_lt' RB.out hk
          refine ⟨fun he => ?_, fun he => ?_, by have := BR.out.size; omega⟩
          · rcases FT6.out k he with he | he
            · have := LT.out.1 k he; omega
            · omega
          · rcases hX7 k he with he | he
            · have := LT.out.2 k he; omega
            · have := F6.out.size; omega⟩
        have HBL := Aside0.mk (show bs.length ≤ 9223372036854775807 from (Kd.R_reads' RB.out).2.2.2.1)
        clear hr7 hf7 hX7 k1'' D6 R6 RB6 F6 FT6 T5 B5 B6 RB
        go_wp2_with fail
        go_loopg [10] bs.length (fun q2 v10 wq => ∃ (k : Nat) (xs : List Int), v10 = .int .i64 k ∧ Aside0 (q2 + k = bs.length) ∧ Aside0 (Kd.R (Kd.int .u8) 5 wq wr.heap.size (fun _ => True) (.slice A5 bs.length c5) xs) ∧ Aside0 (Fr w7 wq (own (.slice A5 bs.length c5))))
        case atStart => exact ⟨0, bs, rfl, ⟨by omega⟩, RB7, ⟨Fr.refl _ _⟩⟩
        case round =>
          obtain ⟨k, xs, rfl, hq2, RX, FX⟩ := hrel
          by_cases hk : k < bs.length
          · have hk2 : (k : Int) < (bs.length : Int) := by omega
            have hk3 : (k : Int) + 1 ≤ 9223372036854775807 := by have := HBL.out; omega
            obtain ⟨gb, vv, hA5, hcell, hfz, hput⟩ := row_byte RX.out k hk
            subst hA5
            have HP := Aside0.mk (hput 99)
            clear hput
            go_wp2_with fail
            go_roundg (bs.length - (k + 1))
            case measure => have := hq2.out; omega
            case rel => exact ⟨k + 1, xs.set k 99, by have := HBL.out; first | rfl | (rw [show wrap64 ((k : Int) + 1) = ((k + 1 : Nat) : Int) from by unfold wrap64; omega]), ⟨by omega⟩, HP, ⟨FX.out.set (.inl rfl) _⟩⟩
          · have hk2 : ¬ (k : Int) < (bs.length : Int) := by omega
            have T8 := Aside0.mk (T7.out.keep FX.out (fun q hq he => (AP.out q he).1 hq) (fun q hq he => (AP.out q he).2.1 hq))
            have B8 := Aside0.mk (below_fr B7.out B7.out.size FX.out (fun k hk => (AP.out k hk).2.2))
            clear AP RB7 RX
            go_wp2_with fail
            go_roundg (l.length - (i + 1))
            case measure => have := hq.out; omega
            case rel => exact ⟨i + 1, _, _, _, _, X7, wrM m a1 bs, by have := HLL.out.1; first | rfl | (rw [show wrap64 ((i : Int) + 1) = ((i + 1 : Nat) : Int) from by unfold wrap64; omega]), ⟨by omega⟩, T8, ⟨BM.out.write a1 bs⟩, ⟨by rw [wrM_len]; exact N4.out⟩, B8⟩
      · have ha1 : decide (a0 ≤ 3) = false := decide_eq_false ha
        clear ha
        go_wp2_with fail
        go_roundg (l.length - (i + 1))
        case measure => have := hq.out; omega
        case rel => exact ⟨i + 1, _, _, _, _, Y, m, by have := HLL.out.1; first | rfl | (rw [show wrap64 ((i : Int) + 1) = ((i + 1 : Nat) : Int) from by unfold wrap64; omega]), ⟨by omega⟩, TW, ⟨BM.out.mono (Nat.le_succ i)⟩, N4, BR⟩
    · have hi1 : decide ((i : Int) < (l.length : Int)) = false := decide_eq_false (by omega)
      have GE := Aside0.mk TW.out.ge
      have LT := Aside0.mk TW.out.lt
      go_wp2_with fail
      refine (Crash_calls wr w1.heap.size g u0 u1 u2 u3 m TW.out.d (BM.out.sin (by have := HLL.out.1; have := hq.out; omega)) A1 c1 ch (Kd.C_below HC1.out BR.out) HL1.out HBY.out).mono ?_
      rintro e w5 ⟨g7, x0, x1, rfl, hd5, hb5⟩
      have D5 := Aside0.mk hd5
      have T5 := Aside0.mk (TW.out.below hb5)
      have B5 := Aside0.mk (below_step BR.out hb5)
      have S5 := Aside0.mk hb5.size
      clear hd5 hb5
      go_wp2_with fail
      refine (ones_calls 7 _).mono ?_
      rintro e w6 ⟨go, cap, rfl, hgo, hro, hrg, hb6⟩
      have D6 := Aside0.mk (D5.out.below hb6)
      have T6 := Aside0.mk (T5.out.below hb6)
      have B6 := Aside0.mk (below_step B5.out hb6)
      have S6 := Aside0.mk hb6.size
      have HW := Write_all w6 wr.heap.size g7 x0 x1 (.slice none 0 0) (.slice none 0 0) (crashed m ch) D6.out ((Bd.crash (i := 0) ch).ops (by decide)) ((Bd.crash (i := 0) ch).sin (by decide)) 0 (some ⟨go, 0, none⟩) cap (rep 7) (fun _ => ⟨go, rfl, hrg, fun he => by have := D5.out.foot_lt g7 (.inl rfl); omega⟩) (Nat.le_trans S5.out S6.out)
      rw [rep_len] at HW
      have HWA := Aside0.mk HW
      clear HW hgo hro hrg hb6
      go_wp2_with fail
      refine HWA.out.mono ?_
      rintro e w7 ⟨rfl, _, _, _, hf7, _⟩
      have T7 := Aside0.mk (T6.out.keep hf7 (fun q hq he => by have := D6.out.foot_ge q he; have := LT.out.1 q hq; omega) (fun q hq he => by have := D6.out.foot_ge q he; have := LT.out.2 q hq; omega))
      have B7 := Aside0.mk (below_fr B6.out B6.out.size hf7 (fun k hk => Nat.le_trans BR.out.size (D6.out.foot_ge k hk)))
      clear hf7 HWA
      go_wp2_with fail
      refine (Read_calls w7 w1.heap.size g u0 u1 u2 u3 m T7.out.d 1 (by rw [N4.out]; decide)).mono ?_
      rintro e w8 ⟨g2, rfl, hg2, hb2, hl2, hb8⟩
      have T8 := Aside0.mk (T7.out.below hb8)
      have B8 := Aside0.mk (below_step B7.out hb8)
      have R8 : Aside0 (Kd.R (Kd.int .u8) 89 w8 w7.heap.size (fun _ => True) (.slice (some ⟨g2, 0, none⟩) 64 64) (m.now.getD 1 zB)) := ⟨by have h_ := R_blk (enc := Value.int .u8) (h1 := fun _ => rfl) hb2 hg2 (by rw [hl2]; decide); rw [hl2] at h_; exact h_⟩
      have G2 := Aside0.mk hg2
      have LT7 := Aside0.mk T7.out.lt
      clear hg2 hb2 hl2 hb8
      go_wp2_with fail
      go_loopg [14] 64 (fun q2 v14 wq => ∃ (k : Nat) (xs : List Int), v14 = .int .i64 k ∧ Aside0 (q2 + k = 64) ∧ Aside0 (Kd.R (Kd.int .u8) 89 wq w7.heap.size (fun _ => True) (.slice (some ⟨g2, 0, none⟩) 64 64) xs) ∧ Aside0 (Fr w8 wq (fun j => j = g2)))
      case atStart => exact ⟨0, _, rfl, ⟨by omega⟩, R8, ⟨Fr.refl _ _⟩⟩
      case round =>
        obtain ⟨k, xs, rfl, hq2, RX, FX⟩ := hrel
        by_cases hk : k < 64
        · have hk2 : (k : Int) < 64 := by omega
          obtain ⟨gb, vv, hA5, hcell, hfz, hput⟩ := row_byte RX.out k hk
          injection hA5 with hA5
          injection hA5 with hA5
          subst hA5
          have HP := Aside0.mk (hput 98)
          clear hput
          go_wp2_with fail
          go_roundg (64 - (k + 1))
          case measure => have := hq2.out; omega
          case rel => exact ⟨k + 1, xs.set k 98, by first | rfl | (rw [show wrap64 ((k : Int) + 1) = ((k + 1 : Nat) : Int) from by unfold wrap64; omega]), ⟨by omega⟩, HP, ⟨FX.out.set (.inl rfl) _⟩⟩
        · have hk2 : ¬ (k : Int) < 64 := by omega
          have T9 := Aside0.mk (T8.out.keep FX.out (fun q hq he => by have := LT7.out.1 q hq; have := G2.out; omega) (fun q hq he => by have := LT7.out.2 q hq; have := G2.out; omega))
          have B9 := Aside0.mk (below_fr B8.out B8.out.size FX.out (fun k hk => by rw [hk]; exact Nat.le_trans B7.out.size G2.out))
          clear RX
          go_wp2_with fail
          refine (looks_calls _ w1.heap.size g u0 u1 u2 u3 m T9.out.d w1.heap.size gR Y T9.out.r).mono ?_
          rintro e wz ⟨rfl, hbz⟩
          have BZ := Aside0.mk (below_step B9.out hbz)
          clear hbz
          go_wp2_with fail
          go_ret
          exact ⟨rfl, BZ.out⟩
end Go.Proofs.Ytdnjjhdhldgcmaa.Sec
