/- StrandNever. -/
import Derived.Test.YtldddinebhopcaaStB
namespace Go.Proofs.Ytldddinebhopcaa.St
open Go.RowKit Go.Shelf Go.Proofs.YtldddinebhopcaaW.PrintWords Go.Proofs.YtldddinebhopcaaW.PrintLast Go.Proofs.YtldddinebhopcaaW.PrintMore Go.Proofs.Ytldddinebhopcaa.Bs Go.Proofs.Ytldddinebhopcaa.Fr Go.Proofs.Ytldddinebhopcaa.Oct Go.Proofs.Ytldddinebhopcaa.Sec Go.Proofs.Ytldddinebhopcaa.Rg Go.Proofs.Ytldddinebhopcaa.PStrandPlays
set_option linter.unusedVariables false
set_option linter.unusedSimpArgs false
/-- A strand and its disk behind i deeds. -/
structure NV (w0 : World) (base : Nat) (w : World) (g : Nat) (v0 v1 v2 v3 : Value) (d : DM) (gs : Nat) (u2 u3 : Value) (m : SM) (i : Nat) : Prop where
  sd : SD w base (fun _ => False) g v0 v1 v2 v3 d gs u2 u3 m
  bd : Bd d i
  rc : m.recs.length ≤ i
  bl : Below w0.heap.size w0 w
  hb : w0.heap.size ≤ base
section
variable {w0 w w' : World} {base : Nat} {g : Nat} {v0 v1 v2 v3 : Value} {d : DM} {gs : Nat} {u2 u3 : Value} {m : SM} {i : Nat}
theorem NV.below (h : NV w0 base w g v0 v1 v2 v3 d gs u2 u3 m i) (hb : Below w.heap.size w w') : NV w0 base w' g v0 v1 v2 v3 d gs u2 u3 m i := ⟨h.sd.below hb, h.bd, h.rc, below_step h.bl hb, h.hb⟩
theorem NV.drew (h : NV w0 base w g v0 v1 v2 v3 d gs u2 u3 m i) : NV w0 base w.drew g v0 v1 v2 v3 d gs u2 u3 m i := h.below (below_drew (Below.refl _ _))
theorem NV.next (h : NV w0 base w g v0 v1 v2 v3 d gs u2 u3 m i) : NV w0 base w g v0 v1 v2 v3 d gs u2 u3 m (i + 1) := ⟨h.sd, h.bd.mono (Nat.le_succ i), Nat.le_succ_of_le h.rc, h.bl, h.hb⟩
theorem NV.to (h : NV w0 base w g v0 v1 v2 v3 d gs u2 u3 m i) {v2' v3' u2' u3' : Value} {d' : DM} {m' : SM} (hs : SD w' base (fun _ => False) g v0 v1 v2' v3' d' gs u2' u3' m') (hf : Fr w w' (sfoot g v0 v1 v2 v3 gs u3)) (hd : Bd d' (i + 1)) (hr : m'.recs.length ≤ i + 1) : NV w0 base w' g v0 v1 v2' v3' d' gs u2' u3' m' (i + 1) :=
  ⟨hs, hd, hr, below_fr h.bl h.bl.size hf (fun k hk => Nat.le_trans h.hb (h.sd.lt k hk).2.1), h.hb⟩
theorem aD_Bd (h : Bd d i) (b : List Int) : Bd (aD m d b) (i + 1) := by
  unfold aD apD
  split
  · exact h.mono (Nat.le_succ i)
  · split
    · exact h.mono (Nat.le_succ i)
    · exact h.write _ _
theorem NV_append (h : NV w0 base w g v0 v1 v2 v3 d gs u2 u3 m i) (hi : i ≤ 1000) (A : Option Addr) (c : Nat) (b : List Int) (hC : Kd.C (Kd.int .u8) w0 A b.length b) (hc : b.length ≤ c) (hB : Byt b) :
    Calls Try.prog 14 #[.pointer (some ⟨gs, 0, none⟩), .slice A b.length c] w fun e w' => e = .returned (.int .i64 (aE m d b)) ∧ ∃ u2' u3' v2' v3', NV w0 base w' g v0 v1 v2' v3' (aD m d b) gs u2' u3' (aS m d b) (i + 1) := by
  refine (SD_append h.sd (h.bd.ops (by omega)) (h.bd.sin (by omega)) (by have := h.rc; omega) A c b (Kd.C_below hC h.bl) hc hB (arg_out hC h.sd h.hb)).mono ?_
  rintro e w' ⟨rfl, u2', u3', v2', v3', hs, hf, _⟩
  exact ⟨rfl, u2', u3', v2', v3', h.to hs hf (aD_Bd h.bd b) (by have := aS_recs m d b; have := h.rc; omega)⟩
theorem NV_sync (h : NV w0 base w g v0 v1 v2 v3 d gs u2 u3 m i) (hi : i ≤ 1000) :
    Calls Try.prog 23 #[.pointer (some ⟨gs, 0, none⟩)] w fun e w' => e = .returned (.int .i64 (tell (outc d))) ∧ ∃ u2' v2' v3', NV w0 base w' g v0 v1 v2' v3' (syM d) gs u2' u3 (sySM m (tell (outc d))) (i + 1) := by
  refine (SD_sync h.sd (h.bd.ops (by omega)) (h.bd.sin (by omega))).mono ?_
  rintro e w' ⟨rfl, u2', v2', v3', hs, hf, _⟩
  exact ⟨rfl, u2', v2', v3', h.to hs hf h.bd.sync (by rw [sySM_recs]; have := h.rc; omega)⟩
theorem NV_outcomes (h : NV w0 base w g v0 v1 v2 v3 d gs u2 u3 m i) (hi : i ≤ 1000) (A : Option Addr) (c : Nat) (b : List Int) (hC : Kd.C (Kd.int .u8) w0 A b.length b) (hl : b.length ≤ 1000) (hB : Byt b) :
    Calls Try.prog 24 #[.pointer (some ⟨g, 0, none⟩), .slice A b.length c] w fun e w' => e = .returned (.tuple #[]) ∧ ∃ v3', NV w0 base w' g v0 v1 v2 v3' (waits d (d.wait ++ b)) gs u2 u3 m (i + 1) := by
  refine (SD_outcomes h.sd A c b (Kd.C_below hC h.bl) (by have := h.bd.q; omega) hB).mono ?_
  rintro e w' ⟨rfl, v3', hs, hf, _⟩
  exact ⟨rfl, v3', h.to hs hf (h.bd.waits b hl) (by have := h.rc; omega)⟩
end
theorem bd0 (n : Nat) : Bd (m0 n) 0 := ⟨Int.le_refl _, Int.le_refl _, Nat.le_refl _, Nat.le_refl _⟩
/-- What Append says of the place. -/
theorem aS_at (m : SM) (d : DM) (b : List Int) : m.at_ ≤ (aS m d b).at_ ∧ (aE m d b = 8 → (aS m d b).ahead.length = 0) := by
  have hst : m.at_ ≤ (stM m d b).at_ := by
    unfold stM stepM
    split
    · show m.at_ ≤ m.at_ + 1; omega
    · exact Int.le_refl _
  unfold aS aE
  by_cases hb : b.length = 0 ∨ 56 < b.length
  · rw [if_pos hb, if_pos hb]
    refine ⟨Int.le_refl _, fun h => ?_⟩
    split at h <;> omega
  · rw [if_neg hb, if_neg hb]
    unfold apS apE
    by_cases hf : apFull m d b
    · rw [if_pos hf, if_pos hf]
      exact ⟨hst, fun h => by omega⟩
    · rw [if_neg hf, if_neg hf]
      by_cases ht : tell (outc d) ≠ 0
      · rw [if_pos ht]
        refine ⟨?_, fun _ => rfl⟩
        show m.at_ ≤ (stM m d b).at_ + 1
        omega
      · rw [if_neg ht]
        exact ⟨hst, fun h => by omega⟩
theorem sySM_at (m : SM) (e : Int) : m.at_ ≤ (sySM m e).at_ ∧ (e ≠ 0 → (sySM m e).ahead.length = 0) := by
  unfold sySM
  split
  · refine ⟨?_, fun _ => rfl⟩
    show m.at_ ≤ m.at_ + 1
    omega
  · rename_i hc
    exact ⟨Int.le_refl _, fun h => by by_cases h0 : m.ahead.length = 0; exact h0; exact absurd ⟨h, h0⟩ hc⟩
theorem aE_range (m : SM) (d : DM) (b : List Int) : 0 ≤ aE m d b ∧ aE m d b ≤ 8 := by
  unfold aE apE tell
  split
  · split <;> omega
  · split
    · omega
    · split <;> omega
set_option maxHeartbeats 4000000 in
set_option maxRecDepth 100000 in
theorem never_walk (w : World) (A : Option Addr) (c : Nat) (l : List S48) (hC : Kd.C k48 w A l.length l) (hc : l.length ≤ c) (hwf : ∀ x ∈ l, wfD x) :
    Calls Try.prog 6 #[.slice A l.length c] w fun e w' => e = .returned (.bool true) ∧ Below w.heap.size w w' := by
  have HC := Aside0.mk hC
  have HCC := Aside0.mk hc
  have HWF := Aside0.mk hwf
  clear hC hc hwf
  go_enter Try.func6, Try.ntmps6
  go_wp2_with fail
  refine (awake_calls w).mono ?_
  rintro e w0 ⟨rfl, hb0⟩
  have B0 := Aside0.mk hb0
  obtain ⟨r, hr, hroom⟩ := room_calls w0 A c l (Kd.C_below HC.out hb0) HCC.out
  have HRR := Aside0.mk hr
  clear hb0 hr
  go_wp2_with fail
  refine hroom.mono ?_
  rintro e w1 ⟨rfl, hb1⟩
  have B1 := Aside0.mk (below_step B0.out hb1)
  clear hb1 hroom B0
  by_cases hrt : r = true
  rotate_left
  · have hrf : r = false := by simpa using hrt
    subst hrf
    clear hrt
    go_wp2
    go_ret
    exact ⟨rfl, B1.out⟩
  subst hrt
  obtain ⟨hl200, hl1000⟩ := HRR.out rfl
  have HL200 := Aside0.mk hl200
  have HL1000 := Aside0.mk hl1000
  clear HRR hl1000
  go_wp2_with fail
  refine (both_calls w1 60 (by omega) (by omega)).mono ?_
  rintro e w2 ⟨g, v0, v1, gR, X, rfl, hT, hb2⟩
  have T2 := Aside0.mk hT
  have B2 := Aside0.mk (below_step B1.out hb2)
  clear hT hb2
  go_wp2_with fail
  refine (SD_open (fun _ => False) T2.out.d T2.out.bs (BM_m0 60) (fun _ h => h.elim) (fun _ _ h => h)).mono ?_
  rintro e w3 ⟨gs, u3, rfl, hS, hgs, hus, hb3⟩
  rw [open_m0] at hS
  obtain ⟨base, hbase⟩ : ∃ b, w1.heap.size = b := ⟨_, rfl⟩
  have N3 : Aside0 (NV w base w3 g v0 v1 (.slice none 0 0) (.slice none 0 0) (m0 60) gs (.slice none 0 0) u3 ⟨0, [], []⟩ 0) := ⟨⟨by rw [← hbase]; exact hS, bd0 60, Nat.le_refl _, below_step B2.out hb3, by rw [← hbase]; exact B1.out.size⟩⟩
  clear hS hgs hus hb3 hbase B2 B1 T2
  have hll : 0 ≤ (l.length : Int) ∧ (l.length : Int) ≤ 200 := by omega
  go_wp2_with fail
  go_loopg [7, 8] l.length (fun q x7 x8 wr => ∃ (i : Nat) (v2 v3 : Value) (d : DM) (u2 u3 : Value) (m : SM) (low : Int), x8 = .int .i64 (i : Int) ∧ x7 = .int .i64 low ∧ Aside0 (i + q = l.length) ∧ Aside0 (NV w base wr g v0 v1 v2 v3 d gs u2 u3 m i) ∧ Aside0 (low ≤ m.at_))
  case atStart => exact ⟨0, _, _, _, _, _, _, 0, rfl, rfl, ⟨by omega⟩, N3, ⟨Int.le_refl _⟩⟩
  case round =>
    clear N3
    obtain ⟨i, v2, v3, d, u2, u3, m, low, rfl, rfl, hq, NI, HLOW⟩ := hrel
    cases gk with
    | zero =>
      have hlt : ¬ ((i : Int) < (l.length : Int)) := by have := hq.out; omega
      have hlb := decide_eq_false hlt
      go_wp2
      go_ret
      exact ⟨rfl, NI.out.bl⟩
    | succ q =>
      have hlt : (i : Int) < (l.length : Int) := by have := hq.out; omega
      have hlb := decide_eq_true hlt
      have hi0 : (0 : Int) ≤ i ∧ (i : Int) < (l.length : Int) := ⟨by omega, hlt⟩
      have hil : (i : Int) ≤ 200 := by omega
      have HIL : Aside0 (i ≤ 1000) := ⟨by omega⟩
      obtain ⟨ad, A4, c4, hA, e0, e1, hl4, hc4⟩ := at_T48 HC.out (i : Int) (by omega) hlt
      subst hA
      have HWX := Aside0.mk (HWF.out _ (rd_T48_mem (l := l) (i := i) (by omega)))
      have H1000 := Aside0.mk (HL1000.out i (by omega))
      rw [Int.toNat_natCast] at e0 e1
      generalize rd_T48 l (i : Int) = dd at *
      obtain ⟨a0, a1⟩ := dd
      simp only at e0 e1 hl4 hc4 H1000
      have HCA := Aside0.mk hc4
      have HLA := Aside0.mk hl4
      have HBA : Aside0 (Byt a1) := ⟨bytes_wf HWX.out.2.1⟩
      have k0 := pw_cell_below NI.out.bl e0
      have k1 := pw_cell_below NI.out.bl e1
      clear e0 e1 hl4 hc4 HWX
      have HLM := Aside0.mk NI.out.sd.sv
      go_wp2_with fail
      refine (Place_calls wr base gs g _ u2 u3 m NI.out.sd.sv).mono ?_
      rintro e w4 ⟨rfl, rfl⟩
      have N4 := Aside0.mk NI.out.drew
      have k0' : wr.drew.cell? (ad.add (i * 2)) = some (.int .i64 a0) := k0
      have k1' : wr.drew.cell? ⟨(ad.add (i * 2)).block, (ad.add (i * 2)).off + 1, none⟩ = some (.slice A4 a1.length c4) := k1
      clear NI HLM k0 k1
      generalize wr.drew = w4 at *
      by_cases h4 : a0 ≤ 4
      · have h4b := decide_eq_true h4
        clear h4
        go_wp2_with fail
        refine (NV_append N4.out HIL.out A4 c4 a1 HCA.out HLA.out HBA.out).mono ?_
        rintro e w5 ⟨rfl, u5, x5, y2, y3, hN5⟩
        have N5 := Aside0.mk hN5
        obtain ⟨hat, hbd⟩ := aS_at m d a1
        have HAT := Aside0.mk hat
        have HBD0 := Aside0.mk hbd
        have her := aE_range m d a1
        obtain ⟨ev, hev⟩ : ∃ ev, aE m d a1 = ev := ⟨_, rfl⟩
        rw [hev] at HBD0 her ⊢
        obtain ⟨m5, hm5⟩ : ∃ m5, aS m d a1 = m5 := ⟨_, rfl⟩
        rw [hm5] at HBD0 HAT N5
        clear hN5 hat hbd hev hm5 k0' k1' h4b
        by_cases he8 : ev = 8
        · subst he8
          have HBAD := Aside0.mk (HBD0.out rfl)
          have HB5 := Aside0.mk (N5.out.sd.i)
          go_wp2_with fail
          refine (Place_calls w5 base gs g _ u5 x5 m5 N5.out.sd.sv).mono ?_
          rintro e w6 ⟨rfl, rfl⟩
          have N6 := Aside0.mk (N5.out.drew)
          generalize w5.drew = w7 at *
          have hlb1 : decide (m5.at_ < low) = false := decide_eq_false (by have h1 := HLOW.out; have h2 := HAT.out; omega)
          have hlb2 : decide (m5.at_ < m.at_) = false := decide_eq_false (by have h2 := HAT.out; omega)
          have hz0 : m5.ahead.length = 0 := HBAD.out
          rw [hz0]
          go_wp2
          go_roundg q
          case measure => omega
          case rel => exact ⟨i + 1, _, _, _, _, _, m5, m5.at_, by go_num, rfl, ⟨by have := hq.out; omega⟩, N6, ⟨Int.le_refl _⟩⟩
        · have he8b : (ev == 8) = false := beq_eq_false_iff_ne.mpr he8
          clear he8
          have HB5 := Aside0.mk (N5.out.sd.i)
          go_wp2_with fail
          refine (Place_calls w5 base gs g _ u5 x5 m5 N5.out.sd.sv).mono ?_
          rintro e w6 ⟨rfl, rfl⟩
          have N6 := Aside0.mk (N5.out.drew)
          generalize w5.drew = w7 at *
          have hlb1 : decide (m5.at_ < low) = false := decide_eq_false (by have h1 := HLOW.out; have h2 := HAT.out; omega)
          have hlb2 : decide (m5.at_ < m.at_) = false := decide_eq_false (by have h2 := HAT.out; omega)

          go_wp2
          go_roundg q
          case measure => omega
          case rel => exact ⟨i + 1, _, _, _, _, _, m5, low, by go_num, rfl, ⟨by have := hq.out; omega⟩, N6, ⟨by have h1 := HLOW.out; have h2 := HAT.out; omega⟩⟩
      · have h4b := decide_eq_false h4
        by_cases h5 : a0 = 5
        · subst h5
          clear h4
          go_wp2_with fail
          refine (NV_sync N4.out HIL.out).mono ?_
          rintro e w5 ⟨rfl, u5, y2, y3, hN5⟩
          have N5 := Aside0.mk hN5
          obtain ⟨hat, hbd⟩ := sySM_at m (tell (outc d))
          have HAT := Aside0.mk hat
          have HBD0 := Aside0.mk hbd
          obtain ⟨m5, hm5⟩ : ∃ m5, sySM m (tell (outc d)) = m5 := ⟨_, rfl⟩
          rw [hm5] at HBD0 HAT N5
          obtain ⟨ev, hev⟩ : ∃ ev, tell (outc d) = ev := ⟨_, rfl⟩
          rw [hev] at HBD0 ⊢
          obtain ⟨x5, hx5⟩ : ∃ x, u3 = x := ⟨_, rfl⟩
          rw [hx5] at N5
          clear hN5 hat hbd hev hm5 hx5 k0' k1' h4b
          by_cases he0 : ev = 0
          · subst he0
            have HB5 := Aside0.mk (N5.out.sd.i)
            go_wp2_with fail
            refine (Place_calls w5 base gs g _ u5 x5 m5 N5.out.sd.sv).mono ?_
            rintro e w6 ⟨rfl, rfl⟩
            have N6 := Aside0.mk (N5.out.drew)
            generalize w5.drew = w7 at *
            have hlb1 : decide (m5.at_ < low) = false := decide_eq_false (by have h1 := HLOW.out; have h2 := HAT.out; omega)
            have hlb2 : decide (m5.at_ < m.at_) = false := decide_eq_false (by have h2 := HAT.out; omega)

            go_wp2
            go_roundg q
            case measure => omega
            case rel => exact ⟨i + 1, _, _, _, _, _, m5, low, by go_num, rfl, ⟨by have := hq.out; omega⟩, N6, ⟨by have h1 := HLOW.out; have h2 := HAT.out; omega⟩⟩
          · have he0b : (ev != 0) = true := bne_iff_ne.mpr he0
            have HBAD := Aside0.mk (HBD0.out he0)
            clear he0
            have HB5 := Aside0.mk (N5.out.sd.i)
            go_wp2_with fail
            refine (Place_calls w5 base gs g _ u5 x5 m5 N5.out.sd.sv).mono ?_
            rintro e w6 ⟨rfl, rfl⟩
            have N6 := Aside0.mk (N5.out.drew)
            generalize w5.drew = w7 at *
            have hlb1 : decide (m5.at_ < low) = false := decide_eq_false (by have h1 := HLOW.out; have h2 := HAT.out; omega)
            have hlb2 : decide (m5.at_ < m.at_) = false := decide_eq_false (by have h2 := HAT.out; omega)
            have hz0 : m5.ahead.length = 0 := HBAD.out
            rw [hz0]
            go_wp2
            go_roundg q
            case measure => omega
            case rel => exact ⟨i + 1, _, _, _, _, _, m5, m5.at_, by go_num, rfl, ⟨by have := hq.out; omega⟩, N6, ⟨Int.le_refl _⟩⟩
        · have h5b : (a0 == 5) = false := beq_eq_false_iff_ne.mpr h5
          by_cases h6 : a0 = 6
          · subst h6
            clear h4 h5
            go_wp2_with fail
            refine (NV_outcomes N4.out HIL.out A4 c4 a1 HCA.out H1000.out HBA.out).mono ?_
            rintro e w5 ⟨rfl, y3, hN5⟩
            have N5 := Aside0.mk hN5
            have HAT : Aside0 (m.at_ ≤ m.at_) := ⟨Int.le_refl _⟩
            obtain ⟨m5, hm5⟩ : ∃ m5, m = m5 := ⟨_, rfl⟩
            obtain ⟨x5, hx5⟩ : ∃ x, u3 = x := ⟨_, rfl⟩
            obtain ⟨u5, hu5⟩ : ∃ x, u2 = x := ⟨_, rfl⟩
            have N5' : Aside0 (NV w base w5 g v0 v1 v2 y3 (waits d (d.wait ++ a1)) gs u5 x5 m5 (i + 1)) := ⟨by rw [← hm5, ← hx5, ← hu5]; exact N5.out⟩
            have HAT' : Aside0 (m.at_ ≤ m5.at_) := ⟨by rw [← hm5]; exact Int.le_refl _⟩
            clear hN5 hm5 hx5 hu5 N5 HAT k0' k1' h4b h5b
            have N5 := N5'
            have HAT := HAT'
            clear N5' HAT'
            have HB5 := Aside0.mk (N5.out.sd.i)
            go_wp2_with fail
            refine (Place_calls w5 base gs g _ u5 x5 m5 N5.out.sd.sv).mono ?_
            rintro e w6 ⟨rfl, rfl⟩
            have N6 := Aside0.mk (N5.out.drew)
            generalize w5.drew = w7 at *
            have hlb1 : decide (m5.at_ < low) = false := decide_eq_false (by have h1 := HLOW.out; have h2 := HAT.out; omega)
            have hlb2 : decide (m5.at_ < m.at_) = false := decide_eq_false (by have h2 := HAT.out; omega)

            go_wp2
            go_roundg q
            case measure => omega
            case rel => exact ⟨i + 1, _, _, _, _, _, m5, low, by go_num, rfl, ⟨by have := hq.out; omega⟩, N6, ⟨by have h1 := HLOW.out; have h2 := HAT.out; omega⟩⟩
          · have h6b : (a0 == 6) = false := beq_eq_false_iff_ne.mpr h6
            clear h4 h5 h6
            obtain ⟨m5, hm5⟩ : ∃ m5, m = m5 := ⟨_, rfl⟩
            obtain ⟨x5, hx5⟩ : ∃ x, u3 = x := ⟨_, rfl⟩
            obtain ⟨u5, hu5⟩ : ∃ x, u2 = x := ⟨_, rfl⟩
            have N5 : Aside0 (NV w base w4 g v0 v1 v2 v3 d gs u5 x5 m5 (i + 1)) := ⟨by rw [← hm5, ← hx5, ← hu5]; exact N4.out.next⟩
            have HAT : Aside0 (m.at_ ≤ m5.at_) := ⟨by rw [← hm5]; exact Int.le_refl _⟩
            clear hm5 hx5 hu5
            generalize w4 = w5 at *
            have HB5 := Aside0.mk (N5.out.sd.i)
            go_wp2_with fail
            refine (Place_calls w5 base gs g _ u5 x5 m5 N5.out.sd.sv).mono ?_
            rintro e w6 ⟨rfl, rfl⟩
            have N6 := Aside0.mk (N5.out.drew)
            generalize w5.drew = w7 at *
            have hlb1 : decide (m5.at_ < low) = false := decide_eq_false (by have h1 := HLOW.out; have h2 := HAT.out; omega)
            have hlb2 : decide (m5.at_ < m.at_) = false := decide_eq_false (by have h2 := HAT.out; omega)

            go_wp2
            go_roundg q
            case measure => omega
            case rel => exact ⟨i + 1, _, _, _, _, _, m5, low, by go_num, rfl, ⟨by have := hq.out; omega⟩, N6, ⟨by have h1 := HLOW.out; have h2 := HAT.out; omega⟩⟩
end Go.Proofs.Ytldddinebhopcaa.St
