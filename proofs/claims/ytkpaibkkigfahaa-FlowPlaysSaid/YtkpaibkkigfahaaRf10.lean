/- FlowPlays: deeds in a row; the walk. -/
import Derived.Test.YtkpaibkkigfahaaRf9
namespace Go.Proofs.Ytkpaibkkigfahaa.Fl
open Go.RowKit Go.Proofs.YtkpaibkkigfahaaW.PrintWords Go.Proofs.YtkpaibkkigfahaaW.PrintLast Go.Proofs.YtkpaibkkigfahaaW.PrintMore Go.Proofs.Ytkpaibkkigfahaa.Bs Go.Proofs.Ytkpaibkkigfahaa.Fr Go.Proofs.Ytkpaibkkigfahaa.Mp Go.Proofs.Ytkpaibkkigfahaa.Srt
open Go.Proofs.Ytkpaibkkigfahaa.PFlowPlays Go.Proofs.Ytkpaibkkigfahaa.FlP
set_option linter.unusedVariables false
set_option linter.unusedSimpArgs false
/-- A deed: what is done, with which session. -/
structure SD where
  f0 : Int
  f1 : S46
def zD : SD := ⟨(0 : Int), z46⟩
def kD : Kd SD := Kd.iso (Kd.pair (Kd.int .i64) k46) (fun x : SD => (x.f0, x.f1))
def encD (x : SD) : List Value := [.int .i64 x.f0, .int .i64 x.f1.f0, .int .u32 x.f1.f1.f0, .int .i64 x.f1.f1.f1, .int .u32 x.f1.f2.f0, .int .i64 x.f1.f2.f1, .int .i64 x.f1.f3, .int .i64 x.f1.f4, .int .i64 x.f1.f5]
theorem kD_open {w : World} {x : SD} {cs : List Value} (h : kD.K w x cs) : cs = encD x := by
  obtain ⟨_, _, rfl, rfl, s1⟩ := h
  obtain rfl := k46_open s1
  exact rfl
theorem kD_mk (w : World) (x : SD) : kD.K w x (encD x) := ⟨[.int .i64 x.f0], _, rfl, rfl, k46_mk w x.f1⟩
def rd_D (xs : List SD) (i : Int) : SD := xs.getD i.toNat zD
theorem at_D {w : World} {A : Option Addr} {n : Nat} {xs : List SD} (h : Kd.C kD w A n xs) (i : Int) (h0 : 0 ≤ i) (h1 : i < n) : ∃ ad, A = some ad ∧ w.cell? (ad.add (i.toNat * 9)) = some (.int .i64 (rd_D xs i).f0) ∧ w.cell? ⟨(ad.add (i.toNat * 9)).block, (ad.add (i.toNat * 9)).off + 1, none⟩ = some (.int .i64 (rd_D xs i).f1.f0) ∧ w.cell? ⟨(ad.add (i.toNat * 9)).block, (ad.add (i.toNat * 9)).off + 2, none⟩ = some (.int .u32 (rd_D xs i).f1.f1.f0) ∧ w.cell? ⟨(ad.add (i.toNat * 9)).block, (ad.add (i.toNat * 9)).off + 3, none⟩ = some (.int .i64 (rd_D xs i).f1.f1.f1) ∧ w.cell? ⟨(ad.add (i.toNat * 9)).block, (ad.add (i.toNat * 9)).off + 4, none⟩ = some (.int .u32 (rd_D xs i).f1.f2.f0) ∧ w.cell? ⟨(ad.add (i.toNat * 9)).block, (ad.add (i.toNat * 9)).off + 5, none⟩ = some (.int .i64 (rd_D xs i).f1.f2.f1) ∧ w.cell? ⟨(ad.add (i.toNat * 9)).block, (ad.add (i.toNat * 9)).off + 6, none⟩ = some (.int .i64 (rd_D xs i).f1.f3) ∧ w.cell? ⟨(ad.add (i.toNat * 9)).block, (ad.add (i.toNat * 9)).off + 7, none⟩ = some (.int .i64 (rd_D xs i).f1.f4) ∧ w.cell? ⟨(ad.add (i.toNat * 9)).block, (ad.add (i.toNat * 9)).off + 8, none⟩ = some (.int .i64 (rd_D xs i).f1.f5) := by
  obtain ⟨ad, c, e, _, hK, hc0⟩ := Kd.C_get h zD i h0 h1
  have hc : ∀ j u, c[j]? = some u → w.cell? (ad.add (i.toNat * 9 + j)) = some u := hc0
  obtain rfl := kD_open hK
  exact ⟨ad, e, hc 0 _ rfl, by rw [← add_field _ _ 1 (by omega)]; exact hc 1 _ rfl, by rw [← add_field _ _ 2 (by omega)]; exact hc 2 _ rfl, by rw [← add_field _ _ 3 (by omega)]; exact hc 3 _ rfl, by rw [← add_field _ _ 4 (by omega)]; exact hc 4 _ rfl, by rw [← add_field _ _ 5 (by omega)]; exact hc 5 _ rfl, by rw [← add_field _ _ 6 (by omega)]; exact hc 6 _ rfl, by rw [← add_field _ _ 7 (by omega)]; exact hc 7 _ rfl, by rw [← add_field _ _ 8 (by omega)]; exact hc 8 _ rfl⟩
theorem rdD_mem {l : List SD} {i : Nat} (hi : i < l.length) : rd_D l (i : Int) ∈ l := by
  unfold rd_D
  rw [Int.toNat_natCast, List.getD_eq_getElem?_getD, List.getElem?_eq_getElem hi]
  exact List.getElem_mem hi
def okD (x : SD) : Prop := (Lit.int .i64 x.f0).wf = true ∧ (Lit.int .i64 x.f1.f0).wf = true ∧ (Lit.int .u32 x.f1.f1.f0).wf = true ∧ (Lit.int .i64 x.f1.f1.f1).wf = true ∧ (Lit.int .u32 x.f1.f2.f0).wf = true ∧ (Lit.int .i64 x.f1.f2.f1).wf = true ∧ (Lit.int .i64 x.f1.f3).wf = true ∧ (Lit.int .i64 x.f1.f4).wf = true ∧ (Lit.int .i64 x.f1.f5).wf = true ∧ True
theorem okD_K {x : SD} (h : okD x) : okK (keyF x.f1) := ⟨h.2.1, h.2.2.1, h.2.2.2.1, h.2.2.2.2.1, h.2.2.2.2.2.1⟩
theorem delM_len (M : List S46) (k : Key) : (delM M k).length ≤ M.length := List.length_filter_le _ _
theorem FT.old {w w' : World} {base g b : Nat} {M : List S46} (h : FT w base g b M) {B : Nat} (hb : Below B w w') (h1 : g < B) (h2 : b < B) : FT w' base g b M where
  blk := by rw [hb.block g h1]; exact h.blk
  map := by obtain ⟨l, hp, hm⟩ := h.map; exact ⟨l, hp, hm.move (hb.block b h2)⟩
  srt := h.srt
  ge := h.ge
  geb := h.geb
theorem RF.new (w : World) : RF (w.alloc (.cells #[.slice none 0 0] 57)) w.heap.size w.heap.size [] where
  row := ⟨_, blk_new w _, Kd.R_nil _ _ _ _ _, fun k hk => by cases hk⟩
  ge := Nat.le_refl _
theorem looks_agg (w : World) (B0 g b B1 gR : Nat) (M : List S46) (hF : FT w B0 g b M) (hR : RF w B1 gR M) (hM : M.length ≤ 10000) (x : S46) (hok : okK (keyF x)) :
    Calls Try.prog 34 #[.pointer (some ⟨g, 0, none⟩), .pointer (some ⟨gR, 0, none⟩), .agg #[.int .i64 x.f0, .int .u32 x.f1.f0, .int .i64 x.f1.f1, .int .u32 x.f2.f0, .int .i64 x.f2.f1, .int .i64 x.f3, .int .i64 x.f4, .int .i64 x.f5]] w fun e w' => e = .returned (.bool true) ∧ Below w.heap.size w w' := looks_calls w B0 g b B1 gR M hF hR hM x hok
set_option maxHeartbeats 8000000 in
set_option maxRecDepth 100000 in
theorem plays_walk (W : World) (A : Option Addr) (cap : Nat) (l : List SD) (hC : kD.C W A l.length l) (hcap : l.length ≤ cap) (hw : ∀ x ∈ l, okD x) :
    Calls Try.prog 9 #[.slice A l.length cap] W fun e w' => e = .returned (.bool true) ∧ Below W.heap.size W w' := by
  have HC := Aside0.mk hC
  have HW := Aside0.mk hw
  clear hC hw hcap
  go_enter Try.func9, Try.ntmps9
  go_wp2_with fail
  refine (awake_calls W).mono ?_
  rintro e w0 ⟨rfl, hb0⟩
  have B0 := Aside0.mk hb0
  clear hb0
  by_cases h150 : (l.length : Int) > 150
  · have g1 : decide ((l.length : Int) > 150) = true := decide_eq_true h150
    go_wp2_with fail
    go_ret
    exact ⟨rfl, B0.out⟩
  have g1 : decide ((l.length : Int) > 150) = false := decide_eq_false h150
  have HL := Aside0.mk (show l.length ≤ 150 by omega)
  go_wp2_with fail
  refine (New_calls w0).mono ?_
  rintro e w1 ⟨g, b, rfl, hf1, hb1⟩
  have F1 := Aside0.mk hf1
  have B1 := Aside0.mk (below_step B0.out hb1)
  have GE := Aside0.mk (Nat.le_trans B0.out.size F1.out.geb)
  have S01 := Aside0.mk hb1.size
  have LT := Aside0.mk (show g < w1.heap.size ∧ b < w1.heap.size from ⟨F1.out.lt, F1.out.ltb⟩)
  clear hf1 hb1 g1
  have F2 := Aside0.mk (F1.out.below (below_alloc (Below.refl w1.heap.size w1) (.cells #[.slice none 0 0] 57)))
  have R2 := Aside0.mk (RF.new w1)
  have B2 := Aside0.mk (below_alloc B1.out (.cells #[.slice none 0 0] 57))
  have S2 := Aside0.mk (show w1.heap.size ≤ (w1.alloc (.cells #[.slice none 0 0] 57)).heap.size by simp)
  obtain ⟨gR, hgR⟩ : ∃ gR, gR = w1.heap.size := ⟨_, rfl⟩
  go_wp2_with fail
  rw [← hgR] at R2 S2 LT ⊢
  have SL := Aside0.mk (show w0.heap.size ≤ gR by rw [hgR]; exact S01.out)
  have GW := Aside0.mk (show W.heap.size ≤ gR by rw [hgR]; exact B1.out.size)
  have HGR := Aside0.mk hgR
  clear hgR
  go_loopg [5] l.length (fun r v5 wr => ∃ (i : Nat) (M : List S46), v5 = .int .i64 i ∧ Aside0 (r + i = l.length) ∧ Aside0 (FT wr w0.heap.size g b M) ∧ Aside0 (RF wr gR gR M) ∧ Aside0 (M.length ≤ i) ∧ Aside0 (Below W.heap.size W wr) ∧ Aside0 (gR ≤ wr.heap.size))
  case atStart => exact ⟨0, [], rfl, ⟨by omega⟩, F2, R2, ⟨Nat.le_refl _⟩, B2, S2⟩
  case round =>
    obtain ⟨i, M, rfl, hr, FR, RR, HM, BR, SR⟩ := hrel
    by_cases hi : i < l.length
    · have hi1 : decide ((i : Int) < (l.length : Int)) = true := decide_eq_true (by omega)
      have hi2 : (i : Int) < (l.length : Int) := by omega
      have hi3 : (0 : Int) ≤ (i : Int) := by omega
      obtain ⟨ad0, hA0, p0, p1, p2, p3, p4, p5, p6, p7, p8⟩ := at_D (Kd.C_below HC.out BR.out) (i : Int) hi3 hi2
      subst hA0
      rw [Int.toNat_natCast] at p0 p1 p2 p3 p4 p5 p6 p7 p8
      have HX := Aside0.mk (HW.out _ (rdD_mem hi))
      generalize rd_D l (i : Int) = y at *
      obtain ⟨d, x⟩ := y
      have HK := Aside0.mk (show okK (keyF x) from okD_K HX.out)
      have p0 : wr.cell? (ad0.add (i * 9)) = some (.int .i64 d) := p0
      have p1 : wr.cell? ⟨(ad0.add (i * 9)).block, (ad0.add (i * 9)).off + 1, none⟩ = some (.int .i64 x.f0) := p1
      have p2 : wr.cell? ⟨(ad0.add (i * 9)).block, (ad0.add (i * 9)).off + 2, none⟩ = some (.int .u32 x.f1.f0) := p2
      have p3 : wr.cell? ⟨(ad0.add (i * 9)).block, (ad0.add (i * 9)).off + 3, none⟩ = some (.int .i64 x.f1.f1) := p3
      have p4 : wr.cell? ⟨(ad0.add (i * 9)).block, (ad0.add (i * 9)).off + 4, none⟩ = some (.int .u32 x.f2.f0) := p4
      have p5 : wr.cell? ⟨(ad0.add (i * 9)).block, (ad0.add (i * 9)).off + 5, none⟩ = some (.int .i64 x.f2.f1) := p5
      have p6 : wr.cell? ⟨(ad0.add (i * 9)).block, (ad0.add (i * 9)).off + 6, none⟩ = some (.int .i64 x.f3) := p6
      have p7 : wr.cell? ⟨(ad0.add (i * 9)).block, (ad0.add (i * 9)).off + 7, none⟩ = some (.int .i64 x.f4) := p7
      have p8 : wr.cell? ⟨(ad0.add (i * 9)).block, (ad0.add (i * 9)).off + 8, none⟩ = some (.int .i64 x.f5) := p8
      have HQ := Aside0.mk (cell_alloc_old p0 (.cells #[.int .i64 x.f0, .int .u32 x.f1.f0, .int .i64 x.f1.f1, .int .u32 x.f2.f0, .int .i64 x.f2.f1, .int .i64 x.f3, .int .i64 x.f4, .int .i64 x.f5] 46))
      have FA := Aside0.mk (FR.out.below (below_alloc (Below.refl wr.heap.size wr) (.cells #[.int .i64 x.f0, .int .u32 x.f1.f0, .int .i64 x.f1.f1, .int .u32 x.f2.f0, .int .i64 x.f2.f1, .int .i64 x.f3, .int .i64 x.f4, .int .i64 x.f5] 46)))
      have RA := Aside0.mk (RR.out.below (below_alloc (Below.refl wr.heap.size wr) (.cells #[.int .i64 x.f0, .int .u32 x.f1.f0, .int .i64 x.f1.f1, .int .u32 x.f2.f0, .int .i64 x.f2.f1, .int .i64 x.f3, .int .i64 x.f4, .int .i64 x.f5] 46)))
      have BA := Aside0.mk (below_alloc BR.out (.cells #[.int .i64 x.f0, .int .u32 x.f1.f0, .int .i64 x.f1.f1, .int .u32 x.f2.f0, .int .i64 x.f2.f1, .int .i64 x.f3, .int .i64 x.f4, .int .i64 x.f5] 46))
      have XA := Aside0.mk (blk_new wr (.cells #[.int .i64 x.f0, .int .u32 x.f1.f0, .int .i64 x.f1.f1, .int .u32 x.f2.f0, .int .i64 x.f2.f1, .int .i64 x.f3, .int .i64 x.f4, .int .i64 x.f5] 46))
      have SA := Aside0.mk (show gR ≤ (wr.alloc (.cells #[.int .i64 x.f0, .int .u32 x.f1.f0, .int .i64 x.f1.f1, .int .u32 x.f2.f0, .int .i64 x.f2.f1, .int .i64 x.f3, .int .i64 x.f4, .int .i64 x.f5] 46)).heap.size by have := SR.out; simp; omega)
      go_upto_region 13 with fail
      have HCK : Aside0 (∀ W', Calls Try.prog 32 #[.agg #[.int .i64 x.f0, .int .u32 x.f1.f0, .int .i64 x.f1.f1, .int .u32 x.f2.f0, .int .i64 x.f2.f1, .int .i64 x.f3, .int .i64 x.f4, .int .i64 x.f5]] W' fun e w' => e = .returned (.int .i64 (chk x)) ∧ Below W'.heap.size W' w') := ⟨fun W' => Check_calls x W'⟩
      have HRK : Aside0 (∀ W', Calls Try.prog 33 #[.agg #[.int .i64 x.f0, .int .u32 x.f1.f0, .int .i64 x.f1.f1, .int .u32 x.f2.f0, .int .i64 x.f2.f1, .int .i64 x.f3, .int .i64 x.f4, .int .i64 x.f5]] W' fun e w' => e = .returned (.int .i64 (chk x)) ∧ Below W'.heap.size W' w') := ⟨fun W' => RCheck_calls x W'⟩
      obtain ⟨v0, hv0, hvo⟩ := RR.out.mark
      have HV := Aside0.mk (blk_alloc hv0 (.cells #[.int .i64 x.f0, .int .u32 x.f1.f0, .int .i64 x.f1.f1, .int .u32 x.f2.f0, .int .i64 x.f2.f1, .int .i64 x.f3, .int .i64 x.f4, .int .i64 x.f5] 46))
      have HVO := Aside0.mk (hvo wr.heap.size (Nat.le_refl _))
      have HNB := Aside0.mk (show ¬ gR = b ∧ ¬ wr.heap.size = b ∧ wr.heap.size ≠ gR from ⟨by have := LT.out; omega, by have := LT.out; have := SR.out; omega, by have := RR.out.lt; omega⟩)
      have HML := Aside0.mk (show M.length ≤ 10000 by have := HM.out; have := HL.out; omega)
      have HMi := Aside0.mk (show M.length ≤ i from HM.out)
      have SRT := Aside0.mk FR.out.srt
      clear hv0 hvo p0 p1 p2 p3 p4 p5 p6 p7 p8
      generalize wr.alloc (.cells #[.int .i64 x.f0, .int .u32 x.f1.f0, .int .i64 x.f1.f1, .int .u32 x.f2.f0, .int .i64 x.f2.f1, .int .i64 x.f3, .int .i64 x.f4, .int .i64 x.f5] 46) = wA at *
      generalize wr.heap.size = q6 at *
      have hq := HQ.out
      by_cases hd3 : d ≤ 3
      · have hd3' : decide (d ≤ 3) = true := decide_eq_true hd3
        have c0 : wA.cell? ⟨q6, 0, none⟩ = some (.int .i64 x.f0) := blk_cell XA.out 0
        have c1 : wA.cell? ⟨q6, 1, none⟩ = some (.int .u32 x.f1.f0) := blk_cell XA.out 1
        have c2 : wA.cell? ⟨q6, 2, none⟩ = some (.int .i64 x.f1.f1) := blk_cell XA.out 2
        have c3 : wA.cell? ⟨q6, 3, none⟩ = some (.int .u32 x.f2.f0) := blk_cell XA.out 3
        have c4 : wA.cell? ⟨q6, 4, none⟩ = some (.int .i64 x.f2.f1) := blk_cell XA.out 4
        have c5 : wA.cell? ⟨q6, 5, none⟩ = some (.int .i64 x.f3) := blk_cell XA.out 5
        have c6 : wA.cell? ⟨q6, 6, none⟩ = some (.int .i64 x.f4) := blk_cell XA.out 6
        have c7 : wA.cell? ⟨q6, 7, none⟩ = some (.int .i64 x.f5) := blk_cell XA.out 7
        go_wp2_with fail
        refine (Put_calls _ w0.heap.size g b M FA.out x HK.out (Nat.le_trans SL.out SA.out)).mono ?_
        rintro e w3 ⟨rfl, hf3, hr3⟩
        have F3 := Aside0.mk hf3
        have R3 := Aside0.mk (RA.out.fr hr3 (fun k hk => by rw [hk]; exact LT.out.2))
        have B3 := Aside0.mk (below_fr BA.out BA.out.size hr3 (fun k hk => by rw [hk]; exact GE.out))
        have S3 := Aside0.mk (Nat.le_trans SA.out hr3.size)
        have X3 := Aside0.mk (hr3.blk XA.out HNB.out.2.1)
        have V3 := Aside0.mk (hr3.blk HV.out HNB.out.1)
        clear hf3 hr3 c0 c1 c2 c3 c4 c5 c6 c7 hq
        have c0 : w3.cell? ⟨q6, 0, none⟩ = some (.int .i64 x.f0) := blk_cell X3.out 0
        have c1 : w3.cell? ⟨q6, 1, none⟩ = some (.int .u32 x.f1.f0) := blk_cell X3.out 1
        have c2 : w3.cell? ⟨q6, 2, none⟩ = some (.int .i64 x.f1.f1) := blk_cell X3.out 2
        have c3 : w3.cell? ⟨q6, 3, none⟩ = some (.int .u32 x.f2.f0) := blk_cell X3.out 3
        have c4 : w3.cell? ⟨q6, 4, none⟩ = some (.int .i64 x.f2.f1) := blk_cell X3.out 4
        have c5 : w3.cell? ⟨q6, 5, none⟩ = some (.int .i64 x.f3) := blk_cell X3.out 5
        have c6 : w3.cell? ⟨q6, 6, none⟩ = some (.int .i64 x.f4) := blk_cell X3.out 6
        have c7 : w3.cell? ⟨q6, 7, none⟩ = some (.int .i64 x.f5) := blk_cell X3.out 7
        go_wp2_with fail
        refine (RPut_calls _ gR gR M R3.out HML.out SRT.out x S3.out).mono ?_
        rintro e w4 ⟨rfl, hr4, hk4⟩
        have HM5 : Aside0 ((layM M x false).length ≤ i + 1) := ⟨by have := layM_len M x false; have := HMi.out; omega⟩
        have R4 := Aside0.mk hr4
        have hk5 := hk4.below R3.out S3.out
        have F4 := Aside0.mk (F3.out.old hk5 LT.out.1 LT.out.2)
        have B4 := Aside0.mk (B3.out.trans (hk5.mono GW.out))
        have S4 := Aside0.mk (Nat.le_trans S3.out hk5.size)
        have X4 := Aside0.mk (hk4.blk X3.out HNB.out.2.2 V3.out HVO.out)
        clear hr4 hk4 hk5 c0 c1 c2 c3 c4 c5 c6 c7
        go_upto_region 22 with fail
        generalize layM M x false = MM at *
        have HM4 := Aside0.mk (show MM.length ≤ 10000 by have := HM5.out; have := HL.out; omega)
        have Ds := Aside0.mk (Below.refl w4.heap.size w4).drew
        refine start_ (n := 16) (S := fun w' => w'.cell? ⟨q6, 0, none⟩ = some (.int .i64 x.f0) ∧ w'.cell? ⟨q6, 1, none⟩ = some (.int .u32 x.f1.f0) ∧ w'.cell? ⟨q6, 2, none⟩ = some (.int .i64 x.f1.f1) ∧ w'.cell? ⟨q6, 3, none⟩ = some (.int .u32 x.f2.f0) ∧ w'.cell? ⟨q6, 4, none⟩ = some (.int .i64 x.f2.f1) ∧ w'.cell? ⟨q6, 5, none⟩ = some (.int .i64 x.f3) ∧ w'.cell? ⟨q6, 6, none⟩ = some (.int .i64 x.f4) ∧ w'.cell? ⟨q6, 7, none⟩ = some (.int .i64 x.f5)) (ds := []) #[false, false, false, false, false, false, false, false, false, false, false, false, false, false, false, false] (by kernel_rfl) rfl rfl ⟨(blk_cell X4.out 0), (blk_cell X4.out 1), (blk_cell X4.out 2), (blk_cell X4.out 3), (blk_cell X4.out 4), (blk_cell X4.out 5), (blk_cell X4.out 6), (blk_cell X4.out 7)⟩ (fun hHeld => ?_)
        refine pure_ (i := 0) (N := some 80) (v := ?_) (a' := ?_) #[true, false, false, false, false, false, false, false, false, false, false, false, false, false, false, false] rfl rfl (by kernel_rfl) (fun _ _ _ h => h) (Or.inl ⟨by rfl, ?_⟩) ?_ ?_
        rotate_left
        · intro w'
          go_simp
          with_reducible rfl
        rotate_left
        · simp only [Act.put, List.setIfInBounds_toArray, List.set_cons_zero, List.set_cons_succ, i64_w, i32_w]
          rfl
        refine pure_ (i := 1) (N := some 81) (v := ?_) (a' := ?_) #[true, true, false, false, false, false, false, false, false, false, false, false, false, false, false, false] rfl rfl (by kernel_rfl) (fun _ _ _ h => h) (Or.inl ⟨by rfl, ?_⟩) ?_ ?_
        rotate_left
        · intro w'
          go_simp
          with_reducible rfl
        rotate_left
        · simp only [Act.put, List.setIfInBounds_toArray, List.set_cons_zero, List.set_cons_succ, i64_w, i32_w]
          rfl
        refine pure_ (i := 2) (N := some 82) (v := ?_) (a' := ?_) #[true, true, true, false, false, false, false, false, false, false, false, false, false, false, false, false] rfl rfl (by kernel_rfl) (fun _ _ _ h => h) (Or.inl ⟨by rfl, ?_⟩) ?_ ?_
        rotate_left
        · intro w'
          go_simp
          with_reducible rfl
        rotate_left
        · simp only [Act.put, List.setIfInBounds_toArray, List.set_cons_zero, List.set_cons_succ, i64_w, i32_w]
          rfl
        refine take_ (i := 3) (N := some 83) (v := ?_) (a' := ?_) #[true, true, true, true, false, false, false, false, false, false, false, false, false, false, false, false] rfl rfl (by kernel_rfl) (fun _ _ _ h => h) (Or.inl ⟨by rfl, ?_⟩) hHeld ?_ ?_
        rotate_left
        · rintro w' ⟨s0, s1, s2, s3, s4, s5, s6, s7⟩
          go_simp
          with_reducible rfl
        rotate_left
        · simp only [Act.put, List.setIfInBounds_toArray, List.set_cons_zero, List.set_cons_succ, i64_w, i32_w]
          rfl
        refine take_ (i := 5) (N := some 85) (v := ?_) (a' := ?_) #[true, true, true, true, false, true, false, false, false, false, false, false, false, false, false, false] rfl rfl (by kernel_rfl) (fun _ _ _ h => h) (Or.inl ⟨by rfl, ?_⟩) hHeld ?_ ?_
        rotate_left
        · rintro w' ⟨s0, s1, s2, s3, s4, s5, s6, s7⟩
          go_simp
          with_reducible rfl
        rotate_left
        · simp only [Act.put, List.setIfInBounds_toArray, List.set_cons_zero, List.set_cons_succ, i64_w, i32_w]
          rfl
        refine one_ (i := 4) (N := some 84) #[true, true, true, true, true, true, false, false, false, false, false, false, false, false, false, false] rfl rfl (by kernel_rfl) (by decide) (fun K hK => ?_)
        refine goes_ Try.func32 (by kernel_rfl) rfl #[.agg #[.int .i64 x.f0, .int .u32 x.f1.f0, .int .i64 x.f1.f1, .int .u32 x.f2.f0, .int .i64 x.f2.f1, .int .i64 x.f3, .int .i64 x.f4, .int .i64 x.f5]] (by rfl) rfl rfl (by simp only [List.map_toArray, List.map_cons, List.map_nil]; rfl) ?_
        with_reducible refine (HCK.out _).mono ?_
        rintro e wa ⟨rfl, hb⟩
        refine ⟨_, rfl, ?_⟩
        have Da := Aside0.mk (below_step Ds.out hb)
        clear hb
        refine hK.out _ _ ⟨(blk_cell (blk_below X4.out Da.out) 0), (blk_cell (blk_below X4.out Da.out) 1), (blk_cell (blk_below X4.out Da.out) 2), (blk_cell (blk_below X4.out Da.out) 3), (blk_cell (blk_below X4.out Da.out) 4), (blk_cell (blk_below X4.out Da.out) 5), (blk_cell (blk_below X4.out Da.out) 6), (blk_cell (blk_below X4.out Da.out) 7)⟩ (fun hHeld => ?_)
        clear hK K
        refine norm_ (a' := ?_) ?_ ?_
        rotate_left
        · show Act.put _ (some 84) _ = _
          simp only [Act.put, List.setIfInBounds_toArray, List.set_cons_zero, List.set_cons_succ, i64_w, i32_w]
          rfl
        refine one_ (i := 6) (N := some 86) #[true, true, true, true, true, true, true, false, false, false, false, false, false, false, false, false] rfl rfl (by kernel_rfl) (by decide) (fun K hK => ?_)
        refine goes_ Try.func33 (by kernel_rfl) rfl #[.agg #[.int .i64 x.f0, .int .u32 x.f1.f0, .int .i64 x.f1.f1, .int .u32 x.f2.f0, .int .i64 x.f2.f1, .int .i64 x.f3, .int .i64 x.f4, .int .i64 x.f5]] (by rfl) rfl rfl (by simp only [List.map_toArray, List.map_cons, List.map_nil]; rfl) ?_
        with_reducible refine (HRK.out _).mono ?_
        rintro e wb ⟨rfl, hb⟩
        refine ⟨_, rfl, ?_⟩
        have Db := Aside0.mk (below_step Da.out hb)
        clear hb
        refine hK.out _ _ ⟨(blk_cell (blk_below X4.out Db.out) 0), (blk_cell (blk_below X4.out Db.out) 1), (blk_cell (blk_below X4.out Db.out) 2), (blk_cell (blk_below X4.out Db.out) 3), (blk_cell (blk_below X4.out Db.out) 4), (blk_cell (blk_below X4.out Db.out) 5), (blk_cell (blk_below X4.out Db.out) 6), (blk_cell (blk_below X4.out Db.out) 7)⟩ (fun hHeld => ?_)
        clear hK K
        refine norm_ (a' := ?_) ?_ ?_
        rotate_left
        · show Act.put _ (some 86) _ = _
          simp only [Act.put, List.setIfInBounds_toArray, List.set_cons_zero, List.set_cons_succ, i64_w, i32_w]
          rfl
        refine pure_ (i := 7) (N := some 87) (v := (.bool false)) (a' := ?aa_1) #[true, true, true, true, true, true, true, true, false, false, false, false, false, false, false, false] rfl rfl (by kernel_rfl) (fun _ _ _ h => h) ?hy_1 ?ha_1 ?h_1
        case hy_1 => exact Or.inl ⟨by rfl, fun w' => by go_simp⟩
        case ha_1 => simp only [Act.put, List.setIfInBounds_toArray, List.set_cons_zero, List.set_cons_succ, i64_w, i32_w]; rfl
        refine pure_ (i := 8) (N := some 88) (v := ?_) (a' := ?_) #[true, true, true, true, true, true, true, true, true, false, false, false, false, false, false, false] rfl rfl (by kernel_rfl) (fun _ _ _ h => h) (Or.inl ⟨by rfl, ?_⟩) ?_ ?_
        rotate_left
        · intro w'
          go_simp
          with_reducible rfl
        rotate_left
        · simp only [Act.put, List.setIfInBounds_toArray, List.set_cons_zero, List.set_cons_succ, i64_w, i32_w]
          rfl
        refine pure_ (i := 9) (N := some 89) (v := ?_) (a' := ?_) #[true, true, true, true, true, true, true, true, true, true, false, false, false, false, false, false] rfl rfl (by kernel_rfl) (fun _ _ _ h => h) (Or.inl ⟨by rfl, ?_⟩) ?_ ?_
        rotate_left
        · intro w'
          go_simp
          with_reducible rfl
        rotate_left
        · simp only [Act.put, List.setIfInBounds_toArray, List.set_cons_zero, List.set_cons_succ, i64_w, i32_w]
          rfl
        refine pure_ (i := 10) (N := some 90) (v := ?_) (a' := ?_) #[true, true, true, true, true, true, true, true, true, true, true, false, false, false, false, false] rfl rfl (by kernel_rfl) (fun _ _ _ h => h) (Or.inl ⟨by rfl, ?_⟩) ?_ ?_
        rotate_left
        · intro w'
          go_simp
          with_reducible rfl
        rotate_left
        · simp only [Act.put, List.setIfInBounds_toArray, List.set_cons_zero, List.set_cons_succ, i64_w, i32_w]
          rfl
        refine pure_ (i := 11) (N := some 91) (v := ?_) (a' := ?_) #[true, true, true, true, true, true, true, true, true, true, true, true, false, false, false, false] rfl rfl (by kernel_rfl) (fun _ _ _ h => h) (Or.inl ⟨by rfl, ?_⟩) ?_ ?_
        rotate_left
        · intro w'
          go_simp
          with_reducible rfl
        rotate_left
        · simp only [Act.put, List.setIfInBounds_toArray, List.set_cons_zero, List.set_cons_succ, i64_w, i32_w]
          rfl
        refine take_ (i := 12) (N := some 92) (v := ?_) (a' := ?_) #[true, true, true, true, true, true, true, true, true, true, true, true, true, false, false, false] rfl rfl (by kernel_rfl) (fun _ _ _ h => h) (Or.inl ⟨by rfl, ?_⟩) hHeld ?_ ?_
        rotate_left
        · rintro w' ⟨s0, s1, s2, s3, s4, s5, s6, s7⟩
          go_simp
          with_reducible rfl
        rotate_left
        · simp only [Act.put, List.setIfInBounds_toArray, List.set_cons_zero, List.set_cons_succ, i64_w, i32_w]
          rfl
        refine one_ (i := 13) (N := some 93) #[true, true, true, true, true, true, true, true, true, true, true, true, true, true, false, false] rfl rfl (by kernel_rfl) (by decide) (fun K hK => ?_)
        refine goes_ Try.func34 (by kernel_rfl) rfl #[.pointer (some ⟨g, 0, none⟩), .pointer (some ⟨gR, 0, none⟩), .agg #[.int .i64 x.f0, .int .u32 x.f1.f0, .int .i64 x.f1.f1, .int .u32 x.f2.f0, .int .i64 x.f2.f1, .int .i64 x.f3, .int .i64 x.f4, .int .i64 x.f5]] (by rfl) rfl rfl (by simp only [List.map_toArray, List.map_cons, List.map_nil]; rfl) ?_
        with_reducible refine (looks_agg _ w0.heap.size g b gR gR MM (F4.out.below Db.out) (R4.out.below Db.out) HM4.out x HK.out).mono ?_
        rintro e wc ⟨rfl, hb⟩
        refine ⟨_, rfl, ?_⟩
        have Dc := Aside0.mk (below_step Db.out hb)
        clear hb
        refine hK.out _ _ ⟨(blk_cell (blk_below X4.out Dc.out) 0), (blk_cell (blk_below X4.out Dc.out) 1), (blk_cell (blk_below X4.out Dc.out) 2), (blk_cell (blk_below X4.out Dc.out) 3), (blk_cell (blk_below X4.out Dc.out) 4), (blk_cell (blk_below X4.out Dc.out) 5), (blk_cell (blk_below X4.out Dc.out) 6), (blk_cell (blk_below X4.out Dc.out) 7)⟩ (fun hHeld => ?_)
        clear hK K
        refine norm_ (a' := ?_) ?_ ?_
        rotate_left
        · show Act.put _ (some 93) _ = _
          simp only [Act.put, List.setIfInBounds_toArray, List.set_cons_zero, List.set_cons_succ, i64_w, i32_w]
          rfl
        refine pure_ (i := 14) (N := some 94) (v := ?_) (a' := ?_) #[true, true, true, true, true, true, true, true, true, true, true, true, true, true, true, false] rfl rfl (by kernel_rfl) (fun _ _ _ h => h) (Or.inl ⟨by rfl, ?_⟩) ?_ ?_
        rotate_left
        · intro w'
          go_simp
          with_reducible rfl
        rotate_left
        · simp only [Act.put, List.setIfInBounds_toArray, List.set_cons_zero, List.set_cons_succ, i64_w, i32_w]
          rfl
        refine pure_ (i := 15) (N := some 95) (v := ?_) (a' := ?_) #[true, true, true, true, true, true, true, true, true, true, true, true, true, true, true, true] rfl rfl (by kernel_rfl) (fun _ _ _ h => h) (Or.inl ⟨by rfl, ?_⟩) ?_ ?_
        rotate_left
        · intro w'
          go_simp
          with_reducible rfl
        rotate_left
        · simp only [Act.put, List.setIfInBounds_toArray, List.set_cons_zero, List.set_cons_succ, i64_w, i32_w]
          rfl
        refine done_ (by kernel_rfl) ?_
        go_wp2_with fail
        go_roundg (l.length - (i + 1))
        case measure => have := hr.out; omega
        case rel => exact ⟨i + 1, MM, by rfl, ⟨by have := hr.out; omega⟩, ⟨F4.out.below Dc.out⟩, ⟨R4.out.below Dc.out⟩, HM5, ⟨below_step B4.out Dc.out⟩, ⟨Nat.le_trans S4.out Dc.out.size⟩⟩
      have hd3' : decide (d ≤ 3) = false := decide_eq_false hd3
      by_cases hd4 : d = 4
      · have hd4' : (d == 4) = true := by rw [hd4]; rfl
        clear hd3
        have HD4 := Aside0.mk hd4
        clear hd4
        have c0 : wA.cell? ⟨q6, 0, none⟩ = some (.int .i64 x.f0) := blk_cell XA.out 0
        have c1 : wA.cell? ⟨q6, 1, none⟩ = some (.int .u32 x.f1.f0) := blk_cell XA.out 1
        have c2 : wA.cell? ⟨q6, 2, none⟩ = some (.int .i64 x.f1.f1) := blk_cell XA.out 2
        have c3 : wA.cell? ⟨q6, 3, none⟩ = some (.int .u32 x.f2.f0) := blk_cell XA.out 3
        have c4 : wA.cell? ⟨q6, 4, none⟩ = some (.int .i64 x.f2.f1) := blk_cell XA.out 4
        have c5 : wA.cell? ⟨q6, 5, none⟩ = some (.int .i64 x.f3) := blk_cell XA.out 5
        have c6 : wA.cell? ⟨q6, 6, none⟩ = some (.int .i64 x.f4) := blk_cell XA.out 6
        have c7 : wA.cell? ⟨q6, 7, none⟩ = some (.int .i64 x.f5) := blk_cell XA.out 7
        go_wp2_with fail
        refine (Set_calls _ w0.heap.size g b M FA.out x HK.out (Nat.le_trans SL.out SA.out)).mono ?_
        rintro e w3 ⟨rfl, hf3, hr3⟩
        have F3 := Aside0.mk hf3
        have R3 := Aside0.mk (RA.out.fr hr3 (fun k hk => by rw [hk]; exact LT.out.2))
        have B3 := Aside0.mk (below_fr BA.out BA.out.size hr3 (fun k hk => by rw [hk]; exact GE.out))
        have S3 := Aside0.mk (Nat.le_trans SA.out hr3.size)
        have X3 := Aside0.mk (hr3.blk XA.out HNB.out.2.1)
        have V3 := Aside0.mk (hr3.blk HV.out HNB.out.1)
        clear hf3 hr3 c0 c1 c2 c3 c4 c5 c6 c7 hq
        have c0 : w3.cell? ⟨q6, 0, none⟩ = some (.int .i64 x.f0) := blk_cell X3.out 0
        have c1 : w3.cell? ⟨q6, 1, none⟩ = some (.int .u32 x.f1.f0) := blk_cell X3.out 1
        have c2 : w3.cell? ⟨q6, 2, none⟩ = some (.int .i64 x.f1.f1) := blk_cell X3.out 2
        have c3 : w3.cell? ⟨q6, 3, none⟩ = some (.int .u32 x.f2.f0) := blk_cell X3.out 3
        have c4 : w3.cell? ⟨q6, 4, none⟩ = some (.int .i64 x.f2.f1) := blk_cell X3.out 4
        have c5 : w3.cell? ⟨q6, 5, none⟩ = some (.int .i64 x.f3) := blk_cell X3.out 5
        have c6 : w3.cell? ⟨q6, 6, none⟩ = some (.int .i64 x.f4) := blk_cell X3.out 6
        have c7 : w3.cell? ⟨q6, 7, none⟩ = some (.int .i64 x.f5) := blk_cell X3.out 7
        go_wp2_with fail
        refine (RSet_calls _ gR gR M R3.out HML.out SRT.out x S3.out).mono ?_
        rintro e w4 ⟨rfl, hr4, hk4⟩
        have HM5 : Aside0 ((layM M x true).length ≤ i + 1) := ⟨by have := layM_len M x true; have := HMi.out; omega⟩
        have R4 := Aside0.mk hr4
        have hk5 := hk4.below R3.out S3.out
        have F4 := Aside0.mk (F3.out.old hk5 LT.out.1 LT.out.2)
        have B4 := Aside0.mk (B3.out.trans (hk5.mono GW.out))
        have S4 := Aside0.mk (Nat.le_trans S3.out hk5.size)
        have X4 := Aside0.mk (hk4.blk X3.out HNB.out.2.2 V3.out HVO.out)
        clear hr4 hk4 hk5 c0 c1 c2 c3 c4 c5 c6 c7
        go_upto_region 22 with fail
        generalize layM M x true = MM at *
        have HM4 := Aside0.mk (show MM.length ≤ 10000 by have := HM5.out; have := HL.out; omega)
        have Ds := Aside0.mk (Below.refl w4.heap.size w4).drew
        refine start_ (n := 16) (S := fun w' => w'.cell? ⟨q6, 0, none⟩ = some (.int .i64 x.f0) ∧ w'.cell? ⟨q6, 1, none⟩ = some (.int .u32 x.f1.f0) ∧ w'.cell? ⟨q6, 2, none⟩ = some (.int .i64 x.f1.f1) ∧ w'.cell? ⟨q6, 3, none⟩ = some (.int .u32 x.f2.f0) ∧ w'.cell? ⟨q6, 4, none⟩ = some (.int .i64 x.f2.f1) ∧ w'.cell? ⟨q6, 5, none⟩ = some (.int .i64 x.f3) ∧ w'.cell? ⟨q6, 6, none⟩ = some (.int .i64 x.f4) ∧ w'.cell? ⟨q6, 7, none⟩ = some (.int .i64 x.f5)) (ds := []) #[false, false, false, false, false, false, false, false, false, false, false, false, false, false, false, false] (by kernel_rfl) rfl rfl ⟨(blk_cell X4.out 0), (blk_cell X4.out 1), (blk_cell X4.out 2), (blk_cell X4.out 3), (blk_cell X4.out 4), (blk_cell X4.out 5), (blk_cell X4.out 6), (blk_cell X4.out 7)⟩ (fun hHeld => ?_)
        refine pure_ (i := 0) (N := some 80) (v := ?_) (a' := ?_) #[true, false, false, false, false, false, false, false, false, false, false, false, false, false, false, false] rfl rfl (by kernel_rfl) (fun _ _ _ h => h) (Or.inl ⟨by rfl, ?_⟩) ?_ ?_
        rotate_left
        · intro w'
          go_simp
          with_reducible rfl
        rotate_left
        · simp only [Act.put, List.setIfInBounds_toArray, List.set_cons_zero, List.set_cons_succ, i64_w, i32_w]
          rfl
        refine pure_ (i := 1) (N := some 81) (v := ?_) (a' := ?_) #[true, true, false, false, false, false, false, false, false, false, false, false, false, false, false, false] rfl rfl (by kernel_rfl) (fun _ _ _ h => h) (Or.inl ⟨by rfl, ?_⟩) ?_ ?_
        rotate_left
        · intro w'
          go_simp
          with_reducible rfl
        rotate_left
        · simp only [Act.put, List.setIfInBounds_toArray, List.set_cons_zero, List.set_cons_succ, i64_w, i32_w]
          rfl
        refine pure_ (i := 2) (N := some 82) (v := ?_) (a' := ?_) #[true, true, true, false, false, false, false, false, false, false, false, false, false, false, false, false] rfl rfl (by kernel_rfl) (fun _ _ _ h => h) (Or.inl ⟨by rfl, ?_⟩) ?_ ?_
        rotate_left
        · intro w'
          go_simp
          with_reducible rfl
        rotate_left
        · simp only [Act.put, List.setIfInBounds_toArray, List.set_cons_zero, List.set_cons_succ, i64_w, i32_w]
          rfl
        refine take_ (i := 3) (N := some 83) (v := ?_) (a' := ?_) #[true, true, true, true, false, false, false, false, false, false, false, false, false, false, false, false] rfl rfl (by kernel_rfl) (fun _ _ _ h => h) (Or.inl ⟨by rfl, ?_⟩) hHeld ?_ ?_
        rotate_left
        · rintro w' ⟨s0, s1, s2, s3, s4, s5, s6, s7⟩
          go_simp
          with_reducible rfl
        rotate_left
        · simp only [Act.put, List.setIfInBounds_toArray, List.set_cons_zero, List.set_cons_succ, i64_w, i32_w]
          rfl
        refine take_ (i := 5) (N := some 85) (v := ?_) (a' := ?_) #[true, true, true, true, false, true, false, false, false, false, false, false, false, false, false, false] rfl rfl (by kernel_rfl) (fun _ _ _ h => h) (Or.inl ⟨by rfl, ?_⟩) hHeld ?_ ?_
        rotate_left
        · rintro w' ⟨s0, s1, s2, s3, s4, s5, s6, s7⟩
          go_simp
          with_reducible rfl
        rotate_left
        · simp only [Act.put, List.setIfInBounds_toArray, List.set_cons_zero, List.set_cons_succ, i64_w, i32_w]
          rfl
        refine one_ (i := 4) (N := some 84) #[true, true, true, true, true, true, false, false, false, false, false, false, false, false, false, false] rfl rfl (by kernel_rfl) (by decide) (fun K hK => ?_)
        refine goes_ Try.func32 (by kernel_rfl) rfl #[.agg #[.int .i64 x.f0, .int .u32 x.f1.f0, .int .i64 x.f1.f1, .int .u32 x.f2.f0, .int .i64 x.f2.f1, .int .i64 x.f3, .int .i64 x.f4, .int .i64 x.f5]] (by rfl) rfl rfl (by simp only [List.map_toArray, List.map_cons, List.map_nil]; rfl) ?_
        with_reducible refine (HCK.out _).mono ?_
        rintro e wa ⟨rfl, hb⟩
        refine ⟨_, rfl, ?_⟩
        have Da := Aside0.mk (below_step Ds.out hb)
        clear hb
        refine hK.out _ _ ⟨(blk_cell (blk_below X4.out Da.out) 0), (blk_cell (blk_below X4.out Da.out) 1), (blk_cell (blk_below X4.out Da.out) 2), (blk_cell (blk_below X4.out Da.out) 3), (blk_cell (blk_below X4.out Da.out) 4), (blk_cell (blk_below X4.out Da.out) 5), (blk_cell (blk_below X4.out Da.out) 6), (blk_cell (blk_below X4.out Da.out) 7)⟩ (fun hHeld => ?_)
        clear hK K
        refine norm_ (a' := ?_) ?_ ?_
        rotate_left
        · show Act.put _ (some 84) _ = _
          simp only [Act.put, List.setIfInBounds_toArray, List.set_cons_zero, List.set_cons_succ, i64_w, i32_w]
          rfl
        refine one_ (i := 6) (N := some 86) #[true, true, true, true, true, true, true, false, false, false, false, false, false, false, false, false] rfl rfl (by kernel_rfl) (by decide) (fun K hK => ?_)
        refine goes_ Try.func33 (by kernel_rfl) rfl #[.agg #[.int .i64 x.f0, .int .u32 x.f1.f0, .int .i64 x.f1.f1, .int .u32 x.f2.f0, .int .i64 x.f2.f1, .int .i64 x.f3, .int .i64 x.f4, .int .i64 x.f5]] (by rfl) rfl rfl (by simp only [List.map_toArray, List.map_cons, List.map_nil]; rfl) ?_
        with_reducible refine (HRK.out _).mono ?_
        rintro e wb ⟨rfl, hb⟩
        refine ⟨_, rfl, ?_⟩
        have Db := Aside0.mk (below_step Da.out hb)
        clear hb
        refine hK.out _ _ ⟨(blk_cell (blk_below X4.out Db.out) 0), (blk_cell (blk_below X4.out Db.out) 1), (blk_cell (blk_below X4.out Db.out) 2), (blk_cell (blk_below X4.out Db.out) 3), (blk_cell (blk_below X4.out Db.out) 4), (blk_cell (blk_below X4.out Db.out) 5), (blk_cell (blk_below X4.out Db.out) 6), (blk_cell (blk_below X4.out Db.out) 7)⟩ (fun hHeld => ?_)
        clear hK K
        refine norm_ (a' := ?_) ?_ ?_
        rotate_left
        · show Act.put _ (some 86) _ = _
          simp only [Act.put, List.setIfInBounds_toArray, List.set_cons_zero, List.set_cons_succ, i64_w, i32_w]
          rfl
        refine pure_ (i := 7) (N := some 87) (v := (.bool false)) (a' := ?aa_2) #[true, true, true, true, true, true, true, true, false, false, false, false, false, false, false, false] rfl rfl (by kernel_rfl) (fun _ _ _ h => h) ?hy_2 ?ha_2 ?h_2
        case hy_2 => exact Or.inl ⟨by rfl, fun w' => by go_simp⟩
        case ha_2 => simp only [Act.put, List.setIfInBounds_toArray, List.set_cons_zero, List.set_cons_succ, i64_w, i32_w]; rfl
        refine pure_ (i := 8) (N := some 88) (v := ?_) (a' := ?_) #[true, true, true, true, true, true, true, true, true, false, false, false, false, false, false, false] rfl rfl (by kernel_rfl) (fun _ _ _ h => h) (Or.inl ⟨by rfl, ?_⟩) ?_ ?_
        rotate_left
        · intro w'
          go_simp
          with_reducible rfl
        rotate_left
        · simp only [Act.put, List.setIfInBounds_toArray, List.set_cons_zero, List.set_cons_succ, i64_w, i32_w]
          rfl
        refine pure_ (i := 9) (N := some 89) (v := ?_) (a' := ?_) #[true, true, true, true, true, true, true, true, true, true, false, false, false, false, false, false] rfl rfl (by kernel_rfl) (fun _ _ _ h => h) (Or.inl ⟨by rfl, ?_⟩) ?_ ?_
        rotate_left
        · intro w'
          go_simp
          with_reducible rfl
        rotate_left
        · simp only [Act.put, List.setIfInBounds_toArray, List.set_cons_zero, List.set_cons_succ, i64_w, i32_w]
          rfl
        refine pure_ (i := 10) (N := some 90) (v := ?_) (a' := ?_) #[true, true, true, true, true, true, true, true, true, true, true, false, false, false, false, false] rfl rfl (by kernel_rfl) (fun _ _ _ h => h) (Or.inl ⟨by rfl, ?_⟩) ?_ ?_
        rotate_left
        · intro w'
          go_simp
          with_reducible rfl
        rotate_left
        · simp only [Act.put, List.setIfInBounds_toArray, List.set_cons_zero, List.set_cons_succ, i64_w, i32_w]
          rfl
        refine pure_ (i := 11) (N := some 91) (v := ?_) (a' := ?_) #[true, true, true, true, true, true, true, true, true, true, true, true, false, false, false, false] rfl rfl (by kernel_rfl) (fun _ _ _ h => h) (Or.inl ⟨by rfl, ?_⟩) ?_ ?_
        rotate_left
        · intro w'
          go_simp
          with_reducible rfl
        rotate_left
        · simp only [Act.put, List.setIfInBounds_toArray, List.set_cons_zero, List.set_cons_succ, i64_w, i32_w]
          rfl
        refine take_ (i := 12) (N := some 92) (v := ?_) (a' := ?_) #[true, true, true, true, true, true, true, true, true, true, true, true, true, false, false, false] rfl rfl (by kernel_rfl) (fun _ _ _ h => h) (Or.inl ⟨by rfl, ?_⟩) hHeld ?_ ?_
        rotate_left
        · rintro w' ⟨s0, s1, s2, s3, s4, s5, s6, s7⟩
          go_simp
          with_reducible rfl
        rotate_left
        · simp only [Act.put, List.setIfInBounds_toArray, List.set_cons_zero, List.set_cons_succ, i64_w, i32_w]
          rfl
        refine one_ (i := 13) (N := some 93) #[true, true, true, true, true, true, true, true, true, true, true, true, true, true, false, false] rfl rfl (by kernel_rfl) (by decide) (fun K hK => ?_)
        refine goes_ Try.func34 (by kernel_rfl) rfl #[.pointer (some ⟨g, 0, none⟩), .pointer (some ⟨gR, 0, none⟩), .agg #[.int .i64 x.f0, .int .u32 x.f1.f0, .int .i64 x.f1.f1, .int .u32 x.f2.f0, .int .i64 x.f2.f1, .int .i64 x.f3, .int .i64 x.f4, .int .i64 x.f5]] (by rfl) rfl rfl (by simp only [List.map_toArray, List.map_cons, List.map_nil]; rfl) ?_
        with_reducible refine (looks_agg _ w0.heap.size g b gR gR MM (F4.out.below Db.out) (R4.out.below Db.out) HM4.out x HK.out).mono ?_
        rintro e wc ⟨rfl, hb⟩
        refine ⟨_, rfl, ?_⟩
        have Dc := Aside0.mk (below_step Db.out hb)
        clear hb
        refine hK.out _ _ ⟨(blk_cell (blk_below X4.out Dc.out) 0), (blk_cell (blk_below X4.out Dc.out) 1), (blk_cell (blk_below X4.out Dc.out) 2), (blk_cell (blk_below X4.out Dc.out) 3), (blk_cell (blk_below X4.out Dc.out) 4), (blk_cell (blk_below X4.out Dc.out) 5), (blk_cell (blk_below X4.out Dc.out) 6), (blk_cell (blk_below X4.out Dc.out) 7)⟩ (fun hHeld => ?_)
        clear hK K
        refine norm_ (a' := ?_) ?_ ?_
        rotate_left
        · show Act.put _ (some 93) _ = _
          simp only [Act.put, List.setIfInBounds_toArray, List.set_cons_zero, List.set_cons_succ, i64_w, i32_w]
          rfl
        refine pure_ (i := 14) (N := some 94) (v := ?_) (a' := ?_) #[true, true, true, true, true, true, true, true, true, true, true, true, true, true, true, false] rfl rfl (by kernel_rfl) (fun _ _ _ h => h) (Or.inl ⟨by rfl, ?_⟩) ?_ ?_
        rotate_left
        · intro w'
          go_simp
          with_reducible rfl
        rotate_left
        · simp only [Act.put, List.setIfInBounds_toArray, List.set_cons_zero, List.set_cons_succ, i64_w, i32_w]
          rfl
        refine pure_ (i := 15) (N := some 95) (v := ?_) (a' := ?_) #[true, true, true, true, true, true, true, true, true, true, true, true, true, true, true, true] rfl rfl (by kernel_rfl) (fun _ _ _ h => h) (Or.inl ⟨by rfl, ?_⟩) ?_ ?_
        rotate_left
        · intro w'
          go_simp
          with_reducible rfl
        rotate_left
        · simp only [Act.put, List.setIfInBounds_toArray, List.set_cons_zero, List.set_cons_succ, i64_w, i32_w]
          rfl
        refine done_ (by kernel_rfl) ?_
        go_wp2_with fail
        go_roundg (l.length - (i + 1))
        case measure => have := hr.out; omega
        case rel => exact ⟨i + 1, MM, by rfl, ⟨by have := hr.out; omega⟩, ⟨F4.out.below Dc.out⟩, ⟨R4.out.below Dc.out⟩, HM5, ⟨below_step B4.out Dc.out⟩, ⟨Nat.le_trans S4.out Dc.out.size⟩⟩
      · have hd4' : (d == 4) = false := by simpa using hd4
        clear hd3 hd4
        have c0 : wA.cell? ⟨q6, 0, none⟩ = some (.int .i64 x.f0) := blk_cell XA.out 0
        have c1 : wA.cell? ⟨q6, 1, none⟩ = some (.int .u32 x.f1.f0) := blk_cell XA.out 1
        have c2 : wA.cell? ⟨q6, 2, none⟩ = some (.int .i64 x.f1.f1) := blk_cell XA.out 2
        have c3 : wA.cell? ⟨q6, 3, none⟩ = some (.int .u32 x.f2.f0) := blk_cell XA.out 3
        have c4 : wA.cell? ⟨q6, 4, none⟩ = some (.int .i64 x.f2.f1) := blk_cell XA.out 4
        have c5 : wA.cell? ⟨q6, 5, none⟩ = some (.int .i64 x.f3) := blk_cell XA.out 5
        have c6 : wA.cell? ⟨q6, 6, none⟩ = some (.int .i64 x.f4) := blk_cell XA.out 6
        have c7 : wA.cell? ⟨q6, 7, none⟩ = some (.int .i64 x.f5) := blk_cell XA.out 7
        go_wp2_with fail
        refine (Drop_calls _ w0.heap.size g b M FA.out x.f0 x.f1.f0 x.f1.f1 x.f2.f0 x.f2.f1 HK.out).mono ?_
        rintro e w3 ⟨rfl, hf3, hr3⟩
        have F3 := Aside0.mk hf3
        have R3 := Aside0.mk (RA.out.fr hr3 (fun k hk => by rw [hk]; exact LT.out.2))
        have B3 := Aside0.mk (below_fr BA.out BA.out.size hr3 (fun k hk => by rw [hk]; exact GE.out))
        have S3 := Aside0.mk (Nat.le_trans SA.out hr3.size)
        have X3 := Aside0.mk (hr3.blk XA.out HNB.out.2.1)
        have V3 := Aside0.mk (hr3.blk HV.out HNB.out.1)
        clear hf3 hr3 c0 c1 c2 c3 c4 c5 c6 c7 hq
        have c0 : w3.cell? ⟨q6, 0, none⟩ = some (.int .i64 x.f0) := blk_cell X3.out 0
        have c1 : w3.cell? ⟨q6, 1, none⟩ = some (.int .u32 x.f1.f0) := blk_cell X3.out 1
        have c2 : w3.cell? ⟨q6, 2, none⟩ = some (.int .i64 x.f1.f1) := blk_cell X3.out 2
        have c3 : w3.cell? ⟨q6, 3, none⟩ = some (.int .u32 x.f2.f0) := blk_cell X3.out 3
        have c4 : w3.cell? ⟨q6, 4, none⟩ = some (.int .i64 x.f2.f1) := blk_cell X3.out 4
        have c5 : w3.cell? ⟨q6, 5, none⟩ = some (.int .i64 x.f3) := blk_cell X3.out 5
        have c6 : w3.cell? ⟨q6, 6, none⟩ = some (.int .i64 x.f4) := blk_cell X3.out 6
        have c7 : w3.cell? ⟨q6, 7, none⟩ = some (.int .i64 x.f5) := blk_cell X3.out 7
        go_wp2_with fail
        refine (RDrop_calls _ gR gR M R3.out HML.out SRT.out x.f0 x.f1.f0 x.f1.f1 x.f2.f0 x.f2.f1 S3.out).mono ?_
        rintro e w4 ⟨rfl, hr4, hk4⟩
        have HM5 : Aside0 ((delM M (x.f0, x.f1.f0, x.f1.f1, x.f2.f0, x.f2.f1)).length ≤ i + 1) := ⟨by have := delM_len M (x.f0, x.f1.f0, x.f1.f1, x.f2.f0, x.f2.f1); have := HMi.out; omega⟩
        have R4 := Aside0.mk hr4
        have hk5 := hk4.below R3.out S3.out
        have F4 := Aside0.mk (F3.out.old hk5 LT.out.1 LT.out.2)
        have B4 := Aside0.mk (B3.out.trans (hk5.mono GW.out))
        have S4 := Aside0.mk (Nat.le_trans S3.out hk5.size)
        have X4 := Aside0.mk (hk4.blk X3.out HNB.out.2.2 V3.out HVO.out)
        clear hr4 hk4 hk5 c0 c1 c2 c3 c4 c5 c6 c7
        go_upto_region 22 with fail
        generalize delM M (x.f0, x.f1.f0, x.f1.f1, x.f2.f0, x.f2.f1) = MM at *
        have HM4 := Aside0.mk (show MM.length ≤ 10000 by have := HM5.out; have := HL.out; omega)
        have Ds := Aside0.mk (Below.refl w4.heap.size w4).drew
        refine start_ (n := 16) (S := fun w' => w'.cell? ⟨q6, 0, none⟩ = some (.int .i64 x.f0) ∧ w'.cell? ⟨q6, 1, none⟩ = some (.int .u32 x.f1.f0) ∧ w'.cell? ⟨q6, 2, none⟩ = some (.int .i64 x.f1.f1) ∧ w'.cell? ⟨q6, 3, none⟩ = some (.int .u32 x.f2.f0) ∧ w'.cell? ⟨q6, 4, none⟩ = some (.int .i64 x.f2.f1) ∧ w'.cell? ⟨q6, 5, none⟩ = some (.int .i64 x.f3) ∧ w'.cell? ⟨q6, 6, none⟩ = some (.int .i64 x.f4) ∧ w'.cell? ⟨q6, 7, none⟩ = some (.int .i64 x.f5)) (ds := []) #[false, false, false, false, false, false, false, false, false, false, false, false, false, false, false, false] (by kernel_rfl) rfl rfl ⟨(blk_cell X4.out 0), (blk_cell X4.out 1), (blk_cell X4.out 2), (blk_cell X4.out 3), (blk_cell X4.out 4), (blk_cell X4.out 5), (blk_cell X4.out 6), (blk_cell X4.out 7)⟩ (fun hHeld => ?_)
        refine pure_ (i := 0) (N := some 80) (v := ?_) (a' := ?_) #[true, false, false, false, false, false, false, false, false, false, false, false, false, false, false, false] rfl rfl (by kernel_rfl) (fun _ _ _ h => h) (Or.inl ⟨by rfl, ?_⟩) ?_ ?_
        rotate_left
        · intro w'
          go_simp
          with_reducible rfl
        rotate_left
        · simp only [Act.put, List.setIfInBounds_toArray, List.set_cons_zero, List.set_cons_succ, i64_w, i32_w]
          rfl
        refine pure_ (i := 1) (N := some 81) (v := ?_) (a' := ?_) #[true, true, false, false, false, false, false, false, false, false, false, false, false, false, false, false] rfl rfl (by kernel_rfl) (fun _ _ _ h => h) (Or.inl ⟨by rfl, ?_⟩) ?_ ?_
        rotate_left
        · intro w'
          go_simp
          with_reducible rfl
        rotate_left
        · simp only [Act.put, List.setIfInBounds_toArray, List.set_cons_zero, List.set_cons_succ, i64_w, i32_w]
          rfl
        refine pure_ (i := 2) (N := some 82) (v := ?_) (a' := ?_) #[true, true, true, false, false, false, false, false, false, false, false, false, false, false, false, false] rfl rfl (by kernel_rfl) (fun _ _ _ h => h) (Or.inl ⟨by rfl, ?_⟩) ?_ ?_
        rotate_left
        · intro w'
          go_simp
          with_reducible rfl
        rotate_left
        · simp only [Act.put, List.setIfInBounds_toArray, List.set_cons_zero, List.set_cons_succ, i64_w, i32_w]
          rfl
        refine take_ (i := 3) (N := some 83) (v := ?_) (a' := ?_) #[true, true, true, true, false, false, false, false, false, false, false, false, false, false, false, false] rfl rfl (by kernel_rfl) (fun _ _ _ h => h) (Or.inl ⟨by rfl, ?_⟩) hHeld ?_ ?_
        rotate_left
        · rintro w' ⟨s0, s1, s2, s3, s4, s5, s6, s7⟩
          go_simp
          with_reducible rfl
        rotate_left
        · simp only [Act.put, List.setIfInBounds_toArray, List.set_cons_zero, List.set_cons_succ, i64_w, i32_w]
          rfl
        refine take_ (i := 5) (N := some 85) (v := ?_) (a' := ?_) #[true, true, true, true, false, true, false, false, false, false, false, false, false, false, false, false] rfl rfl (by kernel_rfl) (fun _ _ _ h => h) (Or.inl ⟨by rfl, ?_⟩) hHeld ?_ ?_
        rotate_left
        · rintro w' ⟨s0, s1, s2, s3, s4, s5, s6, s7⟩
          go_simp
          with_reducible rfl
        rotate_left
        · simp only [Act.put, List.setIfInBounds_toArray, List.set_cons_zero, List.set_cons_succ, i64_w, i32_w]
          rfl
        refine one_ (i := 4) (N := some 84) #[true, true, true, true, true, true, false, false, false, false, false, false, false, false, false, false] rfl rfl (by kernel_rfl) (by decide) (fun K hK => ?_)
        refine goes_ Try.func32 (by kernel_rfl) rfl #[.agg #[.int .i64 x.f0, .int .u32 x.f1.f0, .int .i64 x.f1.f1, .int .u32 x.f2.f0, .int .i64 x.f2.f1, .int .i64 x.f3, .int .i64 x.f4, .int .i64 x.f5]] (by rfl) rfl rfl (by simp only [List.map_toArray, List.map_cons, List.map_nil]; rfl) ?_
        with_reducible refine (HCK.out _).mono ?_
        rintro e wa ⟨rfl, hb⟩
        refine ⟨_, rfl, ?_⟩
        have Da := Aside0.mk (below_step Ds.out hb)
        clear hb
        refine hK.out _ _ ⟨(blk_cell (blk_below X4.out Da.out) 0), (blk_cell (blk_below X4.out Da.out) 1), (blk_cell (blk_below X4.out Da.out) 2), (blk_cell (blk_below X4.out Da.out) 3), (blk_cell (blk_below X4.out Da.out) 4), (blk_cell (blk_below X4.out Da.out) 5), (blk_cell (blk_below X4.out Da.out) 6), (blk_cell (blk_below X4.out Da.out) 7)⟩ (fun hHeld => ?_)
        clear hK K
        refine norm_ (a' := ?_) ?_ ?_
        rotate_left
        · show Act.put _ (some 84) _ = _
          simp only [Act.put, List.setIfInBounds_toArray, List.set_cons_zero, List.set_cons_succ, i64_w, i32_w]
          rfl
        refine one_ (i := 6) (N := some 86) #[true, true, true, true, true, true, true, false, false, false, false, false, false, false, false, false] rfl rfl (by kernel_rfl) (by decide) (fun K hK => ?_)
        refine goes_ Try.func33 (by kernel_rfl) rfl #[.agg #[.int .i64 x.f0, .int .u32 x.f1.f0, .int .i64 x.f1.f1, .int .u32 x.f2.f0, .int .i64 x.f2.f1, .int .i64 x.f3, .int .i64 x.f4, .int .i64 x.f5]] (by rfl) rfl rfl (by simp only [List.map_toArray, List.map_cons, List.map_nil]; rfl) ?_
        with_reducible refine (HRK.out _).mono ?_
        rintro e wb ⟨rfl, hb⟩
        refine ⟨_, rfl, ?_⟩
        have Db := Aside0.mk (below_step Da.out hb)
        clear hb
        refine hK.out _ _ ⟨(blk_cell (blk_below X4.out Db.out) 0), (blk_cell (blk_below X4.out Db.out) 1), (blk_cell (blk_below X4.out Db.out) 2), (blk_cell (blk_below X4.out Db.out) 3), (blk_cell (blk_below X4.out Db.out) 4), (blk_cell (blk_below X4.out Db.out) 5), (blk_cell (blk_below X4.out Db.out) 6), (blk_cell (blk_below X4.out Db.out) 7)⟩ (fun hHeld => ?_)
        clear hK K
        refine norm_ (a' := ?_) ?_ ?_
        rotate_left
        · show Act.put _ (some 86) _ = _
          simp only [Act.put, List.setIfInBounds_toArray, List.set_cons_zero, List.set_cons_succ, i64_w, i32_w]
          rfl
        refine pure_ (i := 7) (N := some 87) (v := (.bool false)) (a' := ?aa_3) #[true, true, true, true, true, true, true, true, false, false, false, false, false, false, false, false] rfl rfl (by kernel_rfl) (fun _ _ _ h => h) ?hy_3 ?ha_3 ?h_3
        case hy_3 => exact Or.inl ⟨by rfl, fun w' => by go_simp⟩
        case ha_3 => simp only [Act.put, List.setIfInBounds_toArray, List.set_cons_zero, List.set_cons_succ, i64_w, i32_w]; rfl
        refine pure_ (i := 8) (N := some 88) (v := ?_) (a' := ?_) #[true, true, true, true, true, true, true, true, true, false, false, false, false, false, false, false] rfl rfl (by kernel_rfl) (fun _ _ _ h => h) (Or.inl ⟨by rfl, ?_⟩) ?_ ?_
        rotate_left
        · intro w'
          go_simp
          with_reducible rfl
        rotate_left
        · simp only [Act.put, List.setIfInBounds_toArray, List.set_cons_zero, List.set_cons_succ, i64_w, i32_w]
          rfl
        refine pure_ (i := 9) (N := some 89) (v := ?_) (a' := ?_) #[true, true, true, true, true, true, true, true, true, true, false, false, false, false, false, false] rfl rfl (by kernel_rfl) (fun _ _ _ h => h) (Or.inl ⟨by rfl, ?_⟩) ?_ ?_
        rotate_left
        · intro w'
          go_simp
          with_reducible rfl
        rotate_left
        · simp only [Act.put, List.setIfInBounds_toArray, List.set_cons_zero, List.set_cons_succ, i64_w, i32_w]
          rfl
        refine pure_ (i := 10) (N := some 90) (v := ?_) (a' := ?_) #[true, true, true, true, true, true, true, true, true, true, true, false, false, false, false, false] rfl rfl (by kernel_rfl) (fun _ _ _ h => h) (Or.inl ⟨by rfl, ?_⟩) ?_ ?_
        rotate_left
        · intro w'
          go_simp
          with_reducible rfl
        rotate_left
        · simp only [Act.put, List.setIfInBounds_toArray, List.set_cons_zero, List.set_cons_succ, i64_w, i32_w]
          rfl
        refine pure_ (i := 11) (N := some 91) (v := ?_) (a' := ?_) #[true, true, true, true, true, true, true, true, true, true, true, true, false, false, false, false] rfl rfl (by kernel_rfl) (fun _ _ _ h => h) (Or.inl ⟨by rfl, ?_⟩) ?_ ?_
        rotate_left
        · intro w'
          go_simp
          with_reducible rfl
        rotate_left
        · simp only [Act.put, List.setIfInBounds_toArray, List.set_cons_zero, List.set_cons_succ, i64_w, i32_w]
          rfl
        refine take_ (i := 12) (N := some 92) (v := ?_) (a' := ?_) #[true, true, true, true, true, true, true, true, true, true, true, true, true, false, false, false] rfl rfl (by kernel_rfl) (fun _ _ _ h => h) (Or.inl ⟨by rfl, ?_⟩) hHeld ?_ ?_
        rotate_left
        · rintro w' ⟨s0, s1, s2, s3, s4, s5, s6, s7⟩
          go_simp
          with_reducible rfl
        rotate_left
        · simp only [Act.put, List.setIfInBounds_toArray, List.set_cons_zero, List.set_cons_succ, i64_w, i32_w]
          rfl
        refine one_ (i := 13) (N := some 93) #[true, true, true, true, true, true, true, true, true, true, true, true, true, true, false, false] rfl rfl (by kernel_rfl) (by decide) (fun K hK => ?_)
        refine goes_ Try.func34 (by kernel_rfl) rfl #[.pointer (some ⟨g, 0, none⟩), .pointer (some ⟨gR, 0, none⟩), .agg #[.int .i64 x.f0, .int .u32 x.f1.f0, .int .i64 x.f1.f1, .int .u32 x.f2.f0, .int .i64 x.f2.f1, .int .i64 x.f3, .int .i64 x.f4, .int .i64 x.f5]] (by rfl) rfl rfl (by simp only [List.map_toArray, List.map_cons, List.map_nil]; rfl) ?_
        with_reducible refine (looks_agg _ w0.heap.size g b gR gR MM (F4.out.below Db.out) (R4.out.below Db.out) HM4.out x HK.out).mono ?_
        rintro e wc ⟨rfl, hb⟩
        refine ⟨_, rfl, ?_⟩
        have Dc := Aside0.mk (below_step Db.out hb)
        clear hb
        refine hK.out _ _ ⟨(blk_cell (blk_below X4.out Dc.out) 0), (blk_cell (blk_below X4.out Dc.out) 1), (blk_cell (blk_below X4.out Dc.out) 2), (blk_cell (blk_below X4.out Dc.out) 3), (blk_cell (blk_below X4.out Dc.out) 4), (blk_cell (blk_below X4.out Dc.out) 5), (blk_cell (blk_below X4.out Dc.out) 6), (blk_cell (blk_below X4.out Dc.out) 7)⟩ (fun hHeld => ?_)
        clear hK K
        refine norm_ (a' := ?_) ?_ ?_
        rotate_left
        · show Act.put _ (some 93) _ = _
          simp only [Act.put, List.setIfInBounds_toArray, List.set_cons_zero, List.set_cons_succ, i64_w, i32_w]
          rfl
        refine pure_ (i := 14) (N := some 94) (v := ?_) (a' := ?_) #[true, true, true, true, true, true, true, true, true, true, true, true, true, true, true, false] rfl rfl (by kernel_rfl) (fun _ _ _ h => h) (Or.inl ⟨by rfl, ?_⟩) ?_ ?_
        rotate_left
        · intro w'
          go_simp
          with_reducible rfl
        rotate_left
        · simp only [Act.put, List.setIfInBounds_toArray, List.set_cons_zero, List.set_cons_succ, i64_w, i32_w]
          rfl
        refine pure_ (i := 15) (N := some 95) (v := ?_) (a' := ?_) #[true, true, true, true, true, true, true, true, true, true, true, true, true, true, true, true] rfl rfl (by kernel_rfl) (fun _ _ _ h => h) (Or.inl ⟨by rfl, ?_⟩) ?_ ?_
        rotate_left
        · intro w'
          go_simp
          with_reducible rfl
        rotate_left
        · simp only [Act.put, List.setIfInBounds_toArray, List.set_cons_zero, List.set_cons_succ, i64_w, i32_w]
          rfl
        refine done_ (by kernel_rfl) ?_
        go_wp2_with fail
        go_roundg (l.length - (i + 1))
        case measure => have := hr.out; omega
        case rel => exact ⟨i + 1, MM, by rfl, ⟨by have := hr.out; omega⟩, ⟨F4.out.below Dc.out⟩, ⟨R4.out.below Dc.out⟩, HM5, ⟨below_step B4.out Dc.out⟩, ⟨Nat.le_trans S4.out Dc.out.size⟩⟩
    · have hi1 : decide ((i : Int) < (l.length : Int)) = false := decide_eq_false (by omega)
      go_wp2_with fail
      go_ret
      exact ⟨rfl, BR.out⟩
end Go.Proofs.Ytkpaibkkigfahaa.Fl
