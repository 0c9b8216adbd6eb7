/- SectorPlays: the walk. -/
import Derived.Test.YtdnjjhdhldgcmaaRd11
import Derived.Test.YtdnjjhdhldgcmaaRd10
namespace Go.Proofs.Ytdnjjhdhldgcmaa.Sec
open Go.RowKit Go.Proofs.YtdnjjhdhldgcmaaW.PrintWords Go.Proofs.YtdnjjhdhldgcmaaW.PrintLast Go.Proofs.YtdnjjhdhldgcmaaW.PrintMore Go.Proofs.Ytdnjjhdhldgcmaa.Bs Go.Proofs.Ytdnjjhdhldgcmaa.Fr
open Go.Proofs.Ytdnjjhdhldgcmaa.PSectorTorn Go.Proofs.Ytdnjjhdhldgcmaa.PSectorSynced
set_option linter.unusedVariables false
set_option linter.unusedSimpArgs false
set_option maxHeartbeats 1000000 in
set_option maxRecDepth 100000 in
theorem New_out (w : World) (n : Int) (h : n < 1 ∨ n > 4096) : Calls Try.prog 28 #[.int .i64 n] w fun e w' => e = .returned (.tuple #[.pointer none, .int .i64 1]) ∧ w = w' := by
  by_cases h0 : n < 1
  · go_enter Try.func28, Try.ntmps28
    go_wp2_with fail
    go_ret2
    exact ⟨rfl, rfl⟩
  · have h1 : n > 4096 := by omega
    have h2 : (4096 : Int) < n := by omega
    go_enter Try.func28, Try.ntmps28
    go_wp2_with fail
    go_ret2
    exact ⟨rfl, rfl⟩
theorem RV.lower {w : World} {base base' g : Nat} {X : RX} {m : DM} (h : RV w base g X m) (hb : base' ≤ base) : RV w base' g X m :=
  { h with sure := Kd.R_lower h.sure hb, now := Kd.R_lower h.now hb, since := Kd.R_lower h.since hb, wait := Kd.Q_lower h.wait hb, ge := Nat.le_trans hb h.ge,
           bods := fun j p hp => by obtain ⟨gb, cap, h1, h2, h3, h4, h5, h6, h7⟩ := h.bods j p hp; exact ⟨gb, cap, h1, h2, h3, h4, Nat.le_trans hb h5, h6, h7⟩ }
theorem arg_ne {w w' : World} {g : Nat} {v0 v1 v2 v3 : Value} {A : Option Addr} {n c : Nat} {b : List Int} (hr : Kd.R (Kd.int .u8) 5 w' w.heap.size (fun _ => True) (.slice A n c) b) (hF : ∀ k, foot g v0 v1 v2 v3 k → k < w.heap.size) : b.length = 64 → ∃ gb, A = some ⟨gb, 0, none⟩ ∧ w'.rangeAt gb 0 (encs (Value.int .u8) b) ∧ gb ≠ g := fun h => by
  obtain ⟨gb, h1, h2, h3⟩ := arg_row hr hF h
  exact ⟨gb, h1, h2, fun he => h3 (.inl he)⟩
theorem Two.ltR {w w' : World} {base g gR : Nat} {v0 v1 v2 v3 : Value} {X : RX} {m : DM} (h : Two w base g v0 v1 v2 v3 gR X m) (hs : w.heap.size ≤ w'.heap.size) : ∀ k, footR gR X k → k < w'.heap.size := fun k hk => Nat.lt_of_lt_of_le (h.lt.2 k (.inl hk)) hs
theorem bytes_wf {l : List Int} (h : ∀ n ∈ l, (Lit.int .u8 n).wf = true) : ∀ x ∈ l, 0 ≤ x ∧ x ≤ 255 := fun x hx => by
  have := h x hx
  simp only [Lit.wf, Bool.and_eq_true, decide_eq_true_eq] at this
  exact ⟨this.1, this.2⟩
theorem rd_T32_mem {l : List S32} {i : Nat} (hi : i < l.length) : rd_T32 l (i : Int) ∈ l := by
  unfold rd_T32
  rw [Int.toNat_natCast, List.getD_eq_getElem?_getD, List.getElem?_eq_getElem hi]
  exact List.getElem_mem hi
set_option maxHeartbeats 8000000 in
set_option maxRecDepth 100000 in
theorem plays_walk (w : World) (n : Int) (wn : (Lit.int .i64 n).wf = true) (A : Option Addr) (c : Nat) (l : List S32) (hC : Kd.C k32 w A l.length l) (hc : l.length ≤ c) (hwf : ∀ x ∈ l, wfD x) :
    Calls Try.prog 8 #[.int .i64 n, .slice A l.length c] w fun e w' => e = .returned (.bool true) ∧ Below w.heap.size w w' := by
  have HC := Aside0.mk hC
  have HL := Aside0.mk hc
  have HWF := Aside0.mk hwf
  obtain ⟨r, hr, hrt⟩ := room_f l
  have HR := Aside0.mk hr
  have HRT := Aside0.mk hrt
  clear hC hc hwf hr hrt wn
  go_enter Try.func8, Try.ntmps8
  go_wp2_with fail
  refine (awake_calls w).mono ?_
  rintro e w0 ⟨rfl, hb0⟩
  have B0 := Aside0.mk hb0
  clear hb0
  by_cases hmid : n > 40 ∧ n ≤ 4096
  · have h1 : n > 40 := hmid.1
    have h2 : n ≤ 4096 := hmid.2
    have h3 : decide (n > 40) = true := decide_eq_true h1
    have h4 : decide (n ≤ 4096) = true := decide_eq_true h2
    clear hmid
    go_wp2_with fail
    go_ret
    exact ⟨rfl, B0.out⟩
  have HR1 := Aside0.mk (bailiwicklaw7_room.calls (l.length + 1) A c l r w0 (Kd.C_below HC.out B0.out) HL.out HR.out)
  have hmid2 : n ≤ 40 ∨ n > 4096 := by omega
  clear hmid
  by_cases hbig : n > 4096
  · have h1 : n > 40 := by omega
    have h2 : ¬ n ≤ 4096 := by omega
    clear hmid2
    go_wp2_with fail
    refine HR1.out.mono ?_
    rintro e w1 ⟨rfl, hd1⟩
    have B1 := Aside0.mk (below_step B0.out hd1.below)
    clear hd1
    cases r with
    | false =>
      go_wp2
      go_ret
      exact ⟨rfl, B1.out⟩
    | true =>
      go_wp2_with fail
      refine (New_out w1 n (.inr hbig)).mono ?_
      rintro e w2 ⟨rfl, rfl⟩
      go_wp2_with fail
      refine (RNew_bad _ n (.inr hbig)).mono ?_
      rintro e w2 ⟨rfl, rfl⟩
      go_wp2_with fail
      go_ret
      exact ⟨rfl, B1.out⟩
  have h40 : ¬ n > 40 := by omega
  clear hmid2
  go_wp2_with fail
  refine HR1.out.mono ?_
  rintro e w1 ⟨rfl, hd1⟩
  have B1 := Aside0.mk (below_step B0.out hd1.below)
  clear hd1 HR1
  cases r with
  | false =>
    go_wp2
    go_ret
    exact ⟨rfl, B1.out⟩
  | true =>
  have HLL := Aside0.mk (HRT.out rfl)
  by_cases hsm : n < 1
  · go_wp2_with fail
    refine (New_out w1 n (.inl hsm)).mono ?_
    rintro e w2 ⟨rfl, rfl⟩
    go_wp2_with fail
    refine (RNew_bad _ n (.inl hsm)).mono ?_
    rintro e w2 ⟨rfl, rfl⟩
    go_wp2_with fail
    go_ret
    exact ⟨rfl, B1.out⟩
  obtain ⟨N, rfl⟩ : ∃ N : Nat, n = (N : Int) := ⟨n.toNat, by omega⟩
  have hN1 : 1 ≤ N := by omega
  have hN2 : N ≤ 4096 := by omega
  go_wp2_with fail
  refine (New_calls w1 N hN1 hN2).mono ?_
  rintro e w2 ⟨g, v0, v1, rfl, hd2, hb2⟩
  have S1 := Aside0.mk B1.out.size
  have D2 : Aside0 (DV w2 w1.heap.size g v0 v1 (.slice none 0 0) (.slice none 0 0) (m0 N)) := ⟨hd2⟩
  have B2 := Aside0.mk (below_step B1.out hb2)
  have S12 := Aside0.mk hb2.size
  clear hd2 hb2
  go_wp2_with fail
  refine (RNew_calls w2 N hN1 hN2).mono ?_
  rintro e w3 ⟨gR, X, rfl, hr3, _, hb3⟩
  have T3 : Aside0 (Two w3 w.heap.size g v0 v1 (.slice none 0 0) (.slice none 0 0) gR X (m0 N)) := ⟨⟨(D2.out.below hb3).lower S1.out, hr3.lower (Nat.le_trans S1.out S12.out), fun k hk he => by have := D2.out.foot_lt k hk; have := hr3.foot_ge k he; omega, Nat.le_trans S1.out (Nat.le_trans S12.out hb3.size)⟩⟩
  have B3 := Aside0.mk (below_step B2.out hb3)
  clear hr3 hb3 D2 h40 hbig hsm
  go_wp2_with fail
  go_loopg [5, 7, 9] l.length (fun q v5 v7 v9 wr => ∃ (i g gR : Nat) (v0 v1 v2 v3 : Value) (X : RX) (m : DM), v5 = .pointer (some ⟨g, 0, none⟩) ∧ v7 = .pointer (some ⟨gR, 0, none⟩) ∧ v9 = .int .i64 i ∧ Aside0 (q + i = l.length) ∧ Aside0 (Two wr w.heap.size g v0 v1 v2 v3 gR X m) ∧ Aside0 (Bd m i) ∧ Aside0 (Below w.heap.size w wr))
  case atStart => exact ⟨0, g, gR, _, _, _, _, X, m0 N, rfl, rfl, rfl, ⟨by omega⟩, T3, ⟨bd0 N⟩, B3⟩
  case round =>
    clear T3 B3 S1 S12 B2 B1 B0
    obtain ⟨i, g, gR, u0, u1, u2, u3, Y, m, rfl, rfl, rfl, hq, TW, BM, BR⟩ := hrel
    by_cases hi : i < l.length
    · have hi1 : decide ((i : Int) < (l.length : Int)) = true := decide_eq_true (by omega)
      have hi2 : (i : Int) < (l.length : Int) := by omega
      have hi3 : (0 : Int) ≤ (i : Int) := by omega
      have hi4 : i ≤ 300 := by have := HLL.out.1; omega
      obtain ⟨ad, A4, c4, hA, e0, e1, e2, e3, e4, hl4, hc4⟩ := at_T32 HC.out (i : Int) hi3 hi2
      subst hA
      have h1000 := HLL.out.2 i hi
      have HWX := HWF.out _ (rd_T32_mem hi)
      rw [Int.toNat_natCast] at e0 e1 e2 e3 e4
      generalize rd_T32 l (i : Int) = dd at *
      obtain ⟨a0, a1, a2, a3, a4⟩ := dd
      simp only at e0 e1 e2 e3 e4 hl4 hc4 h1000
      have E := Aside0.mk (And.intro e0 (And.intro e1 (And.intro e2 (And.intro e3 e4))))
      obtain ⟨bs, hbs, hbl⟩ := body_f a0 a1 a2 a3 a4 h1000 2000 (by decide)
      have HL4 := Aside0.mk hl4
      have HC4 := Aside0.mk hc4
      have HBS := Aside0.mk hbs
      have HBY : Aside0 (∀ x ∈ a4, 0 ≤ x ∧ x ≤ 255) := ⟨bytes_wf HWX.2.2.2.2.1⟩
      have H1000 := Aside0.mk h1000
      have k0 := pw_cell_below BR.out e0
      clear hl4 hc4 hbs hbl h1000 e0 e1 e2 e3 e4 HWX
      by_cases ha : a0 ≤ 3
      · have ha1 : decide (a0 ≤ 3) = true := decide_eq_true ha
        clear ha
        go_upto_region 17 with fail
        refine start_ (n := 13) (S := fun w' => w'.cell? (ad.add (i * 5)) = some (.int .i64 a0) ∧ w'.cell? ⟨(ad.add (i * 5)).block, (ad.add (i * 5)).off + 1, none⟩ = some (.int .i64 a1) ∧ w'.cell? ⟨(ad.add (i * 5)).block, (ad.add (i * 5)).off + 2, none⟩ = some (.int .i64 a2) ∧ w'.cell? ⟨(ad.add (i * 5)).block, (ad.add (i * 5)).off + 3, none⟩ = some (.int .u8 a3) ∧ w'.cell? ⟨(ad.add (i * 5)).block, (ad.add (i * 5)).off + 4, none⟩ = some (.slice A4 a4.length c4)) (ds := []) #[false, false, false, false, false, false, false, false, false, false, false, false, false] (by kernel_rfl) rfl rfl ⟨(pw_cell_below BR.out E.out.1), (pw_cell_below BR.out E.out.2.1), (pw_cell_below BR.out E.out.2.2.1), (pw_cell_below BR.out E.out.2.2.2.1), (pw_cell_below BR.out E.out.2.2.2.2)⟩ (fun hHeld => ?_)
        refine pure_ (i := 0) (N := some 69) (v := ?_) (a' := ?_) #[true, false, false, false, false, false, false, false, false, false, false, false, false] rfl rfl (by kernel_rfl) (fun _ _ _ h => h) (Or.inl ⟨by rfl, ?_⟩) ?_ ?_
        rotate_left
        · intro w'
          go_simp
          with_reducible rfl
        rotate_left
        · simp only [Act.put, List.setIfInBounds_toArray, List.set_cons_zero, List.set_cons_succ, i64_w, i32_w]
          rfl
        refine pure_ (i := 1) (N := some 70) (v := ?_) (a' := ?_) #[true, true, false, false, false, false, false, false, false, false, false, false, false] rfl rfl (by kernel_rfl) (fun _ _ _ h => h) (Or.inl ⟨by rfl, ?_⟩) ?_ ?_
        rotate_left
        · intro w'
          go_simp
          with_reducible rfl
        rotate_left
        · simp only [Act.put, List.setIfInBounds_toArray, List.set_cons_zero, List.set_cons_succ, i64_w, i32_w]
          rfl
        refine pure_ (i := 2) (N := some 71) (v := ?_) (a' := ?_) #[true, true, true, false, false, false, false, false, false, false, false, false, false] rfl rfl (by kernel_rfl) (fun _ _ _ h => h) (Or.inl ⟨by rfl, ?_⟩) ?_ ?_
        rotate_left
        · intro w'
          go_simp
          with_reducible rfl
        rotate_left
        · simp only [Act.put, List.setIfInBounds_toArray, List.set_cons_zero, List.set_cons_succ, i64_w, i32_w]
          rfl
        refine pure_ (i := 3) (N := some 72) (v := ?_) (a' := ?_) #[true, true, true, true, false, false, false, false, false, false, false, false, false] rfl rfl (by kernel_rfl) (fun _ _ _ h => h) (Or.inl ⟨by rfl, ?_⟩) ?_ ?_
        rotate_left
        · intro w'
          go_simp
          with_reducible rfl
        rotate_left
        · simp only [Act.put, List.setIfInBounds_toArray, List.set_cons_zero, List.set_cons_succ, i64_w, i32_w]
          rfl
        refine pure_ (i := 4) (N := some 73) (v := ?_) (a' := ?_) #[true, true, true, true, true, false, false, false, false, false, false, false, false] rfl rfl (by kernel_rfl) (fun _ _ _ h => h) (Or.inl ⟨by rfl, ?_⟩) ?_ ?_
        rotate_left
        · intro w'
          go_simp
          with_reducible rfl
        rotate_left
        · simp only [Act.put, List.setIfInBounds_toArray, List.set_cons_zero, List.set_cons_succ, i64_w, i32_w]
          rfl
        refine pure_ (i := 6) (N := some 75) (v := ?_) (a' := ?_) #[true, true, true, true, true, false, true, false, false, false, false, false, false] rfl rfl (by kernel_rfl) (fun _ _ _ h => h) (Or.inl ⟨by rfl, ?_⟩) ?_ ?_
        rotate_left
        · intro w'
          go_simp
          with_reducible rfl
        rotate_left
        · simp only [Act.put, List.setIfInBounds_toArray, List.set_cons_zero, List.set_cons_succ, i64_w, i32_w]
          rfl
        refine pure_ (i := 7) (N := some 76) (v := ?_) (a' := ?_) #[true, true, true, true, true, false, true, true, false, false, false, false, false] rfl rfl (by kernel_rfl) (fun _ _ _ h => h) (Or.inl ⟨by rfl, ?_⟩) ?_ ?_
        rotate_left
        · intro w'
          go_simp
          with_reducible rfl
        rotate_left
        · simp only [Act.put, List.setIfInBounds_toArray, List.set_cons_zero, List.set_cons_succ, i64_w, i32_w]
          rfl
        refine pure_ (i := 8) (N := some 77) (v := ?_) (a' := ?_) #[true, true, true, true, true, false, true, true, true, false, false, false, false] rfl rfl (by kernel_rfl) (fun _ _ _ h => h) (Or.inl ⟨by rfl, ?_⟩) ?_ ?_
        rotate_left
        · intro w'
          go_simp
          with_reducible rfl
        rotate_left
        · simp only [Act.put, List.setIfInBounds_toArray, List.set_cons_zero, List.set_cons_succ, i64_w, i32_w]
          rfl
        refine take_ (i := 5) (N := some 74) (v := ?_) (a' := ?_) #[true, true, true, true, true, true, true, true, true, false, false, false, false] rfl rfl (by kernel_rfl) (fun _ _ _ h => h) (Or.inl ⟨by rfl, ?_⟩) hHeld ?_ ?_
        rotate_left
        · rintro w' ⟨s0, s1, s2, s3, s4⟩
          go_simp
          with_reducible rfl
        rotate_left
        · simp only [Act.put, List.setIfInBounds_toArray, List.set_cons_zero, List.set_cons_succ, i64_w, i32_w]
          rfl
        refine take_ (i := 9) (N := some 78) (v := ?_) (a' := ?_) #[true, true, true, true, true, true, true, true, true, true, false, false, false] rfl rfl (by kernel_rfl) (fun _ _ _ h => h) (Or.inl ⟨by rfl, ?_⟩) hHeld ?_ ?_
        rotate_left
        · rintro w' ⟨s0, s1, s2, s3, s4⟩
          go_simp
          with_reducible rfl
        rotate_left
        · simp only [Act.put, List.setIfInBounds_toArray, List.set_cons_zero, List.set_cons_succ, i64_w, i32_w]
          rfl
        refine one_ (i := 10) (N := some 79) #[true, true, true, true, true, true, true, true, true, true, true, false, false] rfl rfl (by kernel_rfl) (by decide) (fun K hK => ?_)
        refine goes_ Try.func19 (by kernel_rfl) rfl #[.agg #[.int .i64 a0, .int .i64 a1, .int .i64 a2, .int .u8 a3, .slice A4 a4.length c4]] (by rfl) rfl rfl (by simp only [List.map_toArray, List.map_cons, List.map_nil]; rfl) ?_
        with_reducible refine (bailiwicklaw7_body.calls 2000 a0 a1 a2 a3 A4 c4 a4 bs _ (Kd.C_below HC4.out BR.out.drew) HL4.out HBS.out).mono ?_
        rintro e w5 ⟨vb, rfl, hrb, hb⟩
        refine ⟨_, rfl, ?_⟩
        obtain ⟨A5, c5, hvb⟩ := Kd.R_slice hrb
        subst hvb
        have RB5 := Aside0.mk hrb
        have B5 := Aside0.mk (below_step BR.out.drew hb)
        have T5 := Aside0.mk (TW.out.below (below_step (Below.refl wr.heap.size wr).drew hb))
        clear hrb hb
        refine hK.out _ _ ⟨(pw_cell_below B5.out E.out.1), (pw_cell_below B5.out E.out.2.1), (pw_cell_below B5.out E.out.2.2.1), (pw_cell_below B5.out E.out.2.2.2.1), (pw_cell_below B5.out E.out.2.2.2.2)⟩ (fun hHeld => ?_)
        clear hK K
        refine norm_ (a' := ?_) ?_ ?_
        rotate_left
        · show Act.put _ (some 79) _ = _
          simp only [Act.put, List.setIfInBounds_toArray, List.set_cons_zero, List.set_cons_succ, i64_w, i32_w]
          rfl
        refine one_ (i := 11) (N := some 80) #[true, true, true, true, true, true, true, true, true, true, true, true, false] rfl rfl (by kernel_rfl) (by decide) (fun K hK => ?_)
        refine goes_ Try.func20 (by kernel_rfl) rfl #[.pointer (some ⟨g, 0, none⟩), .int .i64 a1, .slice A5 bs.length c5] (by rfl) rfl rfl (by simp only [List.map_toArray, List.map_cons, List.map_nil]; rfl) ?_
        with_reducible refine (Write_all w5 w.heap.size g u0 u1 u2 u3 m T5.out.d (BM.out.ops (by omega)) (BM.out.sin (by omega)) a1 A5 c5 bs (arg_ne (w := wr.drew) RB5.out TW.out.lt.1) T5.out.bs).mono ?_
        rintro e w6 ⟨rfl, u2', u3', hd6, hf6, hft6⟩
        refine ⟨_, rfl, ?_⟩
        have D6 := Aside0.mk hd6
        have F6 := Aside0.mk hf6
        have FT6 := Aside0.mk hft6
        have R6 := Aside0.mk (T5.out.r.keep hf6 (fun q hq he => T5.out.sep q he hq))
        have B6 := Aside0.mk (below_fr B5.out B5.out.size hf6 (fun k hk => TW.out.ge.1 k hk))
        clear hd6 hf6 hft6
        refine hK.out _ _ ⟨(pw_cell_below B6.out E.out.1), (pw_cell_below B6.out E.out.2.1), (pw_cell_below B6.out E.out.2.2.1), (pw_cell_below B6.out E.out.2.2.2.1), (pw_cell_below B6.out E.out.2.2.2.2)⟩ (fun hHeld => ?_)
        clear hK K
        refine norm_ (a' := ?_) ?_ ?_
        rotate_left
        · show Act.put _ (some 80) _ = _
          simp only [Act.put, List.setIfInBounds_toArray, List.set_cons_zero, List.set_cons_succ, i64_w, i32_w]
          rfl
        refine pure_ (i := 12) (N := some 10) (v := ?_) (a' := ?_) #[true, true, true, true, true, true, true, true, true, true, true, true, true] rfl rfl (by kernel_rfl) (fun _ _ _ h => h) (Or.inl ⟨by rfl, ?_⟩) ?_ ?_
        rotate_left
        · intro w'
          go_simp
          with_reducible rfl
        rotate_left
        · simp only [Act.put, List.setIfInBounds_toArray, List.set_cons_zero, List.set_cons_succ, i64_w, i32_w]
          rfl
        refine done_ (by kernel_rfl) ?_
        clear hHeld
        go_upto_region 18 with fail
        refine start_ (n := 14) (S := fun w' => w'.cell? (ad.add (i * 5)) = some (.int .i64 a0) ∧ w'.cell? ⟨(ad.add (i * 5)).block, (ad.add (i * 5)).off + 1, none⟩ = some (.int .i64 a1) ∧ w'.cell? ⟨(ad.add (i * 5)).block, (ad.add (i * 5)).off + 2, none⟩ = some (.int .i64 a2) ∧ w'.cell? ⟨(ad.add (i * 5)).block, (ad.add (i * 5)).off + 3, none⟩ = some (.int .u8 a3) ∧ w'.cell? ⟨(ad.add (i * 5)).block, (ad.add (i * 5)).off + 4, none⟩ = some (.slice A4 a4.length c4)) (ds := []) #[false, false, false, false, false, false, false, false, false, false, false, false, false, false] (by kernel_rfl) rfl rfl ⟨(pw_cell_below B6.out E.out.1), (pw_cell_below B6.out E.out.2.1), (pw_cell_below B6.out E.out.2.2.1), (pw_cell_below B6.out E.out.2.2.2.1), (pw_cell_below B6.out E.out.2.2.2.2)⟩ (fun hHeld => ?_)
        refine pure_ (i := 0) (N := some 81) (v := ?_) (a' := ?_) #[true, false, false, false, false, false, false, false, false, false, false, false, false, false] rfl rfl (by kernel_rfl) (fun _ _ _ h => h) (Or.inl ⟨by rfl, ?_⟩) ?_ ?_
        rotate_left
        · intro w'
          go_simp
          with_reducible rfl
        rotate_left
        · simp only [Act.put, List.setIfInBounds_toArray, List.set_cons_zero, List.set_cons_succ, i64_w, i32_w]
          rfl
        refine pure_ (i := 1) (N := some 82) (v := ?_) (a' := ?_) #[true, true, false, false, false, false, false, false, false, false, false, false, false, false] rfl rfl (by kernel_rfl) (fun _ _ _ h => h) (Or.inl ⟨by rfl, ?_⟩) ?_ ?_
        rotate_left
        · intro w'
          go_simp
          with_reducible rfl
        rotate_left
        · simp only [Act.put, List.setIfInBounds_toArray, List.set_cons_zero, List.set_cons_succ, i64_w, i32_w]
          rfl
        refine pure_ (i := 2) (N := some 83) (v := ?_) (a' := ?_) #[true, true, true, false, false, false, false, false, false, false, false, false, false, false] rfl rfl (by kernel_rfl) (fun _ _ _ h => h) (Or.inl ⟨by rfl, ?_⟩) ?_ ?_
        rotate_left
        · intro w'
          go_simp
          with_reducible rfl
        rotate_left
        · simp only [Act.put, List.setIfInBounds_toArray, List.set_cons_zero, List.set_cons_succ, i64_w, i32_w]
          rfl
        refine pure_ (i := 3) (N := some 84) (v := ?_) (a' := ?_) #[true, true, true, true, false, false, false, false, false, false, false, false, false, false] rfl rfl (by kernel_rfl) (fun _ _ _ h => h) (Or.inl ⟨by rfl, ?_⟩) ?_ ?_
        rotate_left
        · intro w'
          go_simp
          with_reducible rfl
        rotate_left
        · simp only [Act.put, List.setIfInBounds_toArray, List.set_cons_zero, List.set_cons_succ, i64_w, i32_w]
          rfl
        refine pure_ (i := 4) (N := some 85) (v := ?_) (a' := ?_) #[true, true, true, true, true, false, false, false, false, false, false, false, false, false] rfl rfl (by kernel_rfl) (fun _ _ _ h => h) (Or.inl ⟨by rfl, ?_⟩) ?_ ?_
        rotate_left
        · intro w'
          go_simp
          with_reducible rfl
        rotate_left
        · simp only [Act.put, List.setIfInBounds_toArray, List.set_cons_zero, List.set_cons_succ, i64_w, i32_w]
          rfl
        refine pure_ (i := 5) (N := some 86) (v := ?_) (a' := ?_) #[true, true, true, true, true, true, false, false, false, false, false, false, false, false] rfl rfl (by kernel_rfl) (fun _ _ _ h => h) (Or.inl ⟨by rfl, ?_⟩) ?_ ?_
        rotate_left
        · intro w'
          go_simp
          with_reducible rfl
        rotate_left
        · simp only [Act.put, List.setIfInBounds_toArray, List.set_cons_zero, List.set_cons_succ, i64_w, i32_w]
          rfl
        refine pure_ (i := 7) (N := some 88) (v := ?_) (a' := ?_) #[true, true, true, true, true, true, false, true, false, false, false, false, false, false] rfl rfl (by kernel_rfl) (fun _ _ _ h => h) (Or.inl ⟨by rfl, ?_⟩) ?_ ?_
        rotate_left
        · intro w'
          go_simp
          with_reducible rfl
        rotate_left
        · simp only [Act.put, List.setIfInBounds_toArray, List.set_cons_zero, List.set_cons_succ, i64_w, i32_w]
          rfl
        refine pure_ (i := 8) (N := some 89) (v := ?_) (a' := ?_) #[true, true, true, true, true, true, false, true, true, false, false, false, false, false] rfl rfl (by kernel_rfl) (fun _ _ _ h => h) (Or.inl ⟨by rfl, ?_⟩) ?_ ?_
        rotate_left
        · intro w'
          go_simp
          with_reducible rfl
        rotate_left
        · simp only [Act.put, List.setIfInBounds_toArray, List.set_cons_zero, List.set_cons_succ, i64_w, i32_w]
          rfl
        refine pure_ (i := 9) (N := some 90) (v := ?_) (a' := ?_) #[true, true, true, true, true, true, false, true, true, true, false, false, false, false] rfl rfl (by kernel_rfl) (fun _ _ _ h => h) (Or.inl ⟨by rfl, ?_⟩) ?_ ?_
        rotate_left
        · intro w'
          go_simp
          with_reducible rfl
        rotate_left
        · simp only [Act.put, List.setIfInBounds_toArray, List.set_cons_zero, List.set_cons_succ, i64_w, i32_w]
          rfl
        refine take_ (i := 6) (N := some 87) (v := ?_) (a' := ?_) #[true, true, true, true, true, true, true, true, true, true, false, false, false, false] rfl rfl (by kernel_rfl) (fun _ _ _ h => h) (Or.inl ⟨by rfl, ?_⟩) hHeld ?_ ?_
        rotate_left
        · rintro w' ⟨s0, s1, s2, s3, s4⟩
          go_simp
          with_reducible rfl
        rotate_left
        · simp only [Act.put, List.setIfInBounds_toArray, List.set_cons_zero, List.set_cons_succ, i64_w, i32_w]
          rfl
        refine take_ (i := 10) (N := some 91) (v := ?_) (a' := ?_) #[true, true, true, true, true, true, true, true, true, true, true, false, false, false] rfl rfl (by kernel_rfl) (fun _ _ _ h => h) (Or.inl ⟨by rfl, ?_⟩) hHeld ?_ ?_
        rotate_left
        · rintro w' ⟨s0, s1, s2, s3, s4⟩
          go_simp
          with_reducible rfl
        rotate_left
        · simp only [Act.put, List.setIfInBounds_toArray, List.set_cons_zero, List.set_cons_succ, i64_w, i32_w]
          rfl
        refine one_ (i := 11) (N := some 92) #[true, true, true, true, true, true, true, true, true, true, true, true, false, false] rfl rfl (by kernel_rfl) (by decide) (fun K hK => ?_)
        refine goes_ Try.func19 (by kernel_rfl) rfl #[.agg #[.int .i64 a0, .int .i64 a1, .int .i64 a2, .int .u8 a3, .slice A4 a4.length c4]] (by rfl) rfl rfl (by simp only [List.map_toArray, List.map_cons, List.map_nil]; rfl) ?_
        with_reducible refine (bailiwicklaw7_body.calls 2000 a0 a1 a2 a3 A4 c4 a4 bs _ (Kd.C_below HC4.out B6.out.drew) HL4.out HBS.out).mono ?_
        rintro e w8 ⟨vb, rfl, hrb, hb⟩
        refine ⟨_, rfl, ?_⟩
        obtain ⟨A8, c8, hvb⟩ := Kd.R_slice hrb
        subst hvb
        have RB8 := Aside0.mk hrb
        have B8 := Aside0.mk (below_step B6.out.drew hb)
        have BB8 := Aside0.mk (below_step (Below.refl w6.heap.size w6).drew hb)
        have D8 := Aside0.mk (D6.out.below BB8.out)
        have R8 := Aside0.mk (R6.out.below BB8.out)
        have F8 := Aside0.mk (F6.out.below BB8.out)
        clear hrb hb
        refine hK.out _ _ ⟨(pw_cell_below B8.out E.out.1), (pw_cell_below B8.out E.out.2.1), (pw_cell_below B8.out E.out.2.2.1), (pw_cell_below B8.out E.out.2.2.2.1), (pw_cell_below B8.out E.out.2.2.2.2)⟩ (fun hHeld => ?_)
        clear hK K
        refine norm_ (a' := ?_) ?_ ?_
        rotate_left
        · show Act.put _ (some 92) _ = _
          simp only [Act.put, List.setIfInBounds_toArray, List.set_cons_zero, List.set_cons_succ, i64_w, i32_w]
          rfl
        refine one_ (i := 12) (N := some 93) #[true, true, true, true, true, true, true, true, true, true, true, true, true, false] rfl rfl (by kernel_rfl) (by decide) (fun K hK => ?_)
        refine goes_ Try.func21 (by kernel_rfl) rfl #[.pointer (some ⟨gR, 0, none⟩), .int .i64 a1, .slice A8 bs.length c8] (by rfl) rfl rfl (by simp only [List.map_toArray, List.map_cons, List.map_nil]; rfl) ?_
        with_reducible refine (RWrite_all w8 w.heap.size gR Y m R8.out (BM.out.ops (by omega)) (BM.out.sin (by omega)) a1 A8 c8 bs (arg_row (w := w6.drew) (F := footR gR Y) RB8.out (T5.out.ltR (w' := w6.drew) F6.out.drew.size)) (Nat.le_trans T5.out.bs F8.out.size)).mono ?_
        rintro e w9 ⟨rfl, X9, hr9, hf9, hX9⟩
        refine ⟨_, rfl, ?_⟩
        have T9 := Aside0.mk (T5.out.both D8.out F8.out FT6.out hr9 hf9 hX9)
        have B9 := Aside0.mk (below_fr B8.out B8.out.size hf9 (fun k hk => TW.out.ge.2 k (.inl hk)))
        clear hr9 hf9 hX9
        refine hK.out _ _ ⟨(pw_cell_below B9.out E.out.1), (pw_cell_below B9.out E.out.2.1), (pw_cell_below B9.out E.out.2.2.1), (pw_cell_below B9.out E.out.2.2.2.1), (pw_cell_below B9.out E.out.2.2.2.2)⟩ (fun hHeld => ?_)
        clear hK K
        refine norm_ (a' := ?_) ?_ ?_
        rotate_left
        · show Act.put _ (some 93) _ = _
          simp only [Act.put, List.setIfInBounds_toArray, List.set_cons_zero, List.set_cons_succ, i64_w, i32_w]
          rfl
        refine pure_ (i := 13) (N := some 94) (v := (.bool false)) (a' := ?aa_1) #[true, true, true, true, true, true, true, true, true, true, true, true, true, true] rfl rfl (by kernel_rfl) (fun _ _ _ h => h) ?hy_1 ?ha_1 ?h_1
        case hy_1 => exact Or.inl ⟨by rfl, fun w' => by go_simp⟩
        case ha_1 => simp only [Act.put, List.setIfInBounds_toArray, List.set_cons_zero, List.set_cons_succ, i64_w, i32_w]; rfl
        refine done_ (by kernel_rfl) ?_
        clear hHeld D8 R8 F8 FT6
        go_wp2_with fail
        refine (looks_calls _ w.heap.size g _ _ _ _ _ T9.out.d w.heap.size gR X9 T9.out.r).mono ?_
        rintro e wz ⟨rfl, hbz⟩
        have TZ := Aside0.mk (T9.out.below hbz)
        have BZ := Aside0.mk (below_step B9.out hbz)
        clear hbz
        go_wp2_with fail
        go_roundg (l.length - (i + 1))
        case measure => have := hq.out; omega
        case rel => exact ⟨i + 1, g, gR, _, _, _, _, X9, wrM m a1 bs, rfl, rfl, by first | rfl | (rw [show wrap64 ((i : Int) + 1) = ((i + 1 : Nat) : Int) from by unfold wrap64; omega]), ⟨by omega⟩, TZ, ⟨BM.out.write a1 bs⟩, BZ⟩
      · have ha1 : decide (a0 ≤ 3) = false := decide_eq_false ha
        by_cases ha4 : a0 = 4
        · have ha2 : (a0 == 4) = true := by rw [ha4]; rfl
          clear ha ha4
          go_wp2_with fail
          refine (Sync_all wr w.heap.size g u0 u1 u2 u3 m TW.out.d (BM.out.ops (by omega)) (BM.out.sin (by omega)) TW.out.bs).mono ?_
          rintro e w5 ⟨rfl, v2', v3', hd5, hf5, hft5⟩
          have R5 := Aside0.mk (TW.out.r.keep hf5 (fun q hq he => TW.out.sep q he hq))
          have D5 := Aside0.mk hd5
          have F5 := Aside0.mk hf5
          have FT5 := Aside0.mk hft5
          have B5 := Aside0.mk (below_fr BR.out BR.out.size hf5 (fun k hk => TW.out.ge.1 k hk))
          clear hd5 hf5 hft5 k0
          go_wp2_with fail
          refine (RSync_calls w5 w.heap.size gR Y m R5.out (BM.out.ops (by omega))).mono ?_
          rintro e w6 ⟨rfl, X6, hr6, hf6, hX6⟩
          have T6 := Aside0.mk (TW.out.both D5.out F5.out FT5.out hr6 hf6 hX6)
          have B6 := Aside0.mk (below_fr B5.out B5.out.size hf6 (fun k hk => TW.out.ge.2 k (.inl hk)))
          clear hr6 hf6 hX6 D5 R5 F5 FT5
          go_wp2_with fail
          refine (looks_calls _ w.heap.size g _ _ _ _ _ T6.out.d w.heap.size gR X6 T6.out.r).mono ?_
          rintro e wz ⟨rfl, hbz⟩
          have TZ := Aside0.mk (T6.out.below hbz)
          have BZ := Aside0.mk (below_step B6.out hbz)
          clear hbz
          go_wp2_with fail
          go_roundg (l.length - (i + 1))
          case measure => have := hq.out; omega
          case rel => exact ⟨i + 1, g, gR, _, _, _, _, X6, syM m, rfl, rfl, by first | rfl | (rw [show wrap64 ((i : Int) + 1) = ((i + 1 : Nat) : Int) from by unfold wrap64; omega]), ⟨by omega⟩, TZ, ⟨BM.out.sync⟩, BZ⟩
        · have ha2 : (a0 == 4) = false := beq_eq_false_iff_ne.mpr ha4
          by_cases ha5 : a0 = 5
          · have ha3 : (a0 == 5) = true := by rw [ha5]; rfl
            clear ha ha4 ha5
            have k4 := pw_cell_below BR.out E.out.2.2.2.2
            go_wp2_with fail
            refine (Outcomes_calls wr w.heap.size g u0 u1 u2 u3 m TW.out.d A4 c4 a4 (Kd.C_below HC4.out BR.out) (by have := BM.out.q; have := H1000.out; omega) HBY.out TW.out.bs).mono ?_
            rintro e w5 ⟨rfl, v3', hd5, hf5, hft5⟩
            have R5 := Aside0.mk (TW.out.r.keep hf5 (fun q hq he => TW.out.sep q he hq))
            have D5 := Aside0.mk hd5
            have F5 := Aside0.mk hf5
            have FT5 := Aside0.mk hft5
            have B5 := Aside0.mk (below_fr BR.out BR.out.size hf5 (fun k hk => TW.out.ge.1 k hk))
            have k4' := pw_cell_below B5.out E.out.2.2.2.2
            have HAF : Aside0 (∀ a, A4 = some a → 0 < a4.length → ¬ footR gR Y a.block) := ⟨fun a hA hlen he => by
              obtain ⟨ad4, h1, h2⟩ := Kd.at_int HC4.out 0 (by omega) (by omega)
              rw [hA] at h1
              obtain rfl := Option.some.inj h1
              have h3 := World.block_lt_of_cell? w _ h2
              rw [add_block] at h3
              have := TW.out.ge.2 _ (.inl he)
              omega⟩
            clear hd5 hf5 hft5 k0 k4
            go_wp2_with fail
            refine (RAdd_calls w5 w.heap.size gR Y m R5.out A4 c4 a4 (Kd.C_below HC4.out B5.out) HAF.out (by have := BM.out.q; have := H1000.out; omega) HBY.out (Nat.le_trans TW.out.bs F5.out.size)).mono ?_
            rintro e w6 ⟨rfl, x3, hr6, hf6, hX6⟩
            have hX7 : ∀ k, allR gR (setR3 Y x3) k → allR gR Y k ∨ w5.heap.size ≤ k := by
              rintro k (hk | hk)
              · rcases R5.out.foot3 hX6 k hk with hk | hk
                · exact .inl (.inl hk)
                · exact .inr hk
              · exact .inl (.inr hk)
            have T6 := Aside0.mk (TW.out.both D5.out F5.out FT5.out hr6 hf6 hX7)
            have B6 := Aside0.mk (below_fr B5.out B5.out.size hf6 (fun k hk => TW.out.ge.2 k (.inl hk)))
            clear hr6 hf6 hX6 hX7 D5 R5 F5 FT5 k4'
            go_wp2_with fail
            refine (looks_calls _ w.heap.size g _ _ _ _ _ T6.out.d w.heap.size gR _ T6.out.r).mono ?_
            rintro e wz ⟨rfl, hbz⟩
            have TZ := Aside0.mk (T6.out.below hbz)
            have BZ := Aside0.mk (below_step B6.out hbz)
            clear hbz
            go_wp2_with fail
            go_roundg (l.length - (i + 1))
            case measure => have := hq.out; omega
            case rel => exact ⟨i + 1, g, gR, _, _, _, _, _, waits m (m.wait ++ a4), rfl, rfl, by first | rfl | (rw [show wrap64 ((i : Int) + 1) = ((i + 1 : Nat) : Int) from by unfold wrap64; omega]), ⟨by omega⟩, TZ, ⟨BM.out.waits a4 H1000.out⟩, BZ⟩
          · have ha3 : (a0 == 5) = false := beq_eq_false_iff_ne.mpr ha5
            clear ha ha4 ha5
            have k4 := pw_cell_below BR.out E.out.2.2.2.2
            go_wp2_with fail
            refine (Crash_calls wr w.heap.size g u0 u1 u2 u3 m TW.out.d (BM.out.sin (by omega)) A4 c4 a4 (Kd.C_below HC4.out BR.out) HL4.out HBY.out).mono ?_
            rintro e w5 ⟨g', x0, x1, rfl, hd5, hb5⟩
            have D5 := Aside0.mk hd5
            have T5 := Aside0.mk (TW.out.below hb5)
            have B5 := Aside0.mk (below_step BR.out hb5)
            have S5 := Aside0.mk hb5.size
            have k4' := pw_cell_below B5.out E.out.2.2.2.2
            clear hd5 hb5 k0 k4
            go_wp2_with fail
            refine (RCrash_calls w5 w.heap.size gR Y m T5.out.r (BM.out.sin (by omega)) A4 c4 a4 (Kd.C_below HC4.out B5.out) HBY.out).mono ?_
            rintro e w6 ⟨gR', X6, rfl, hr6, hb6⟩
            have T6 : Aside0 (Two w6 w.heap.size g' x0 x1 (.slice none 0 0) (.slice none 0 0) gR' X6 (crashed m a4)) := ⟨⟨(D5.out.below hb6).lower BR.out.size, hr6.lower B5.out.size, fun k hk he => by have := D5.out.foot_lt k hk; have := hr6.foot_ge k he; omega, Nat.le_trans T5.out.bs hb6.size⟩⟩
            have B6 := Aside0.mk (below_step B5.out hb6)
            clear hr6 hb6 D5 T5 k4'
            go_wp2_with fail
            refine (looks_calls _ w.heap.size g' _ _ _ _ _ T6.out.d w.heap.size gR' _ T6.out.r).mono ?_
            rintro e wz ⟨rfl, hbz⟩
            have TZ := Aside0.mk (T6.out.below hbz)
            have BZ := Aside0.mk (below_step B6.out hbz)
            clear hbz
            go_wp2_with fail
            go_roundg (l.length - (i + 1))
            case measure => have := hq.out; omega
            case rel => exact ⟨i + 1, g', gR', _, _, _, _, _, crashed m a4, rfl, rfl, by first | rfl | (rw [show wrap64 ((i : Int) + 1) = ((i + 1 : Nat) : Int) from by unfold wrap64; omega]), ⟨by omega⟩, TZ, ⟨Bd.crash a4⟩, BZ⟩
    · have hi1 : decide ((i : Int) < (l.length : Int)) = false := decide_eq_false (by omega)
      go_wp2_with fail
      go_ret
      exact ⟨rfl, BR.out⟩
end Go.Proofs.Ytdnjjhdhldgcmaa.Sec
