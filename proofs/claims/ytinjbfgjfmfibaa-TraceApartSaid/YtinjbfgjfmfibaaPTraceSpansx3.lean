-- PRINTED BY print.sh 35421559b90ae4d0a3588c463048766b98c2df88dd9212a6774a882060cdf62d: not written by this session
import Derived.Test.YtinjbfgjfmfibaaPTraceSpansx0
import Derived.Test.YtinjbfgjfmfibaaPTraceSpansx2
namespace Go.Proofs.Ytinjbfgjfmfibaa.PTraceSpans
open Go.RowKit Go.Proofs.YtinjbfgjfmfibaaW.PrintWords Go.Proofs.YtinjbfgjfmfibaaW.PrintLast Go.Proofs.YtinjbfgjfmfibaaW.PrintMore
attribute [local go_sem] max2_int min2_int max_two min_two max_three min_three max_four min_four   -- for this text's walks alone
set_option linter.unusedVariables false
set_option linter.unusedSimpArgs false

/-! ### bailiwickref10_Spans: function 19 -/
mutual
def bailiwickref10_Spans.l0 : Nat → List (S32) → List (S61) → Int → Option ((List (S61)))
  | 0, _, _, _ => none
  | k + 1, x0, x3, x4 => if x4 < (x0.length : Int) then (if 0 ≤ x4 then (if ((rd_T32 x0 x4).f0) = 2 then (bailiwickref10_Spans.j1 k x0 x3 x4 false ((rd_T32 x0 x4).f0) ((rd_T32 x0 x4).f1) ((rd_T32 x0 x4).f2) ((rd_T32 x0 x4).f3) ((rd_T32 x0 x4).f4)) else (bailiwickref10_Spans.j1 k x0 x3 x4 (((rd_T32 x0 x4).f0) != 3) ((rd_T32 x0 x4).f0) ((rd_T32 x0 x4).f1) ((rd_T32 x0 x4).f2) ((rd_T32 x0 x4).f3) ((rd_T32 x0 x4).f4))) else (none)) else (some x3)
def bailiwickref10_Spans.j1 : Nat → List (S32) → List (S61) → Int → Bool → Int → Int → Int → Int → Int → Option ((List (S61)))
  | 0, _, _, _, _, _, _, _, _, _ => none
  | k + 1, x0, x3, x4, x25, x115000, x115001, x115002, x115003, x115004 => if x25 = true then (bailiwickref10_Spans.l0 k x0 x3 (wrap64 (x4 + 1))) else ((bailiwickref10_open.f k x3 x115003 x115004).bind fun t115 => (if t115 ≥ 0 then (if x115000 = 2 then (bailiwickref10_Spans.j2 k x0 x3 x4 t115 x115001 (decide (x115001 > (-9223372036854775808))) x115000 x115001 x115002 x115003 x115004) else (bailiwickref10_Spans.j2 k x0 x3 x4 t115 x115001 false x115000 x115001 x115002 x115003 x115004)) else (if x115000 = 2 then (if x3.length < 3518437208883 then (bailiwickref10_Spans.l0 k x0 (x3 ++ [(⟨x115002, x115003, x115004, x115001, 0, true⟩ : S61)]) (wrap64 (x4 + 1))) else (none)) else (bailiwickref10_Spans.l0 k x0 x3 (wrap64 (x4 + 1))))))
def bailiwickref10_Spans.j2 : Nat → List (S32) → List (S61) → Int → Int → Int → Bool → Int → Int → Int → Int → Int → Option ((List (S61)))
  | 0, _, _, _, _, _, _, _, _, _, _, _ => none
  | k + 1, x0, x3, x4, x6, x7, x42, x115000, x115001, x115002, x115003, x115004 => if x42 = true then (if 0 ≤ x6 then (if x6 < (x3.length : Int) then ((some (x3.set (x6 : Int).toNat (⟨(rd_T61 x3 x6).f0, (rd_T61 x3 x6).f1, (rd_T61 x3 x6).f2, (rd_T61 x3 x6).f3, mx (wrap64 (x7 - 1)) ((rd_T61 x3 x6).f3), (rd_T61 x3 x6).f5⟩ : S61) : List (S61))).bind fun y117 => ((some (y117.set (x6 : Int).toNat (⟨(rd_T61 y117 x6).f0, (rd_T61 y117 x6).f1, (rd_T61 y117 x6).f2, (rd_T61 y117 x6).f3, (rd_T61 y117 x6).f4, false⟩ : S61) : List (S61))).bind fun y118 => (if x115000 = 2 then (if y118.length < 3518437208883 then (bailiwickref10_Spans.l0 k x0 (y118 ++ [(⟨x115002, x115003, x115004, x115001, 0, true⟩ : S61)]) (wrap64 (x4 + 1))) else (none)) else (bailiwickref10_Spans.l0 k x0 y118 (wrap64 (x4 + 1)))))) else (none)) else (none)) else (if 0 ≤ x6 then (if x6 < (x3.length : Int) then ((some (x3.set (x6 : Int).toNat (⟨(rd_T61 x3 x6).f0, (rd_T61 x3 x6).f1, (rd_T61 x3 x6).f2, (rd_T61 x3 x6).f3, mx x7 ((rd_T61 x3 x6).f3), (rd_T61 x3 x6).f5⟩ : S61) : List (S61))).bind fun y123 => ((some (y123.set (x6 : Int).toNat (⟨(rd_T61 y123 x6).f0, (rd_T61 y123 x6).f1, (rd_T61 y123 x6).f2, (rd_T61 y123 x6).f3, (rd_T61 y123 x6).f4, false⟩ : S61) : List (S61))).bind fun y124 => (if x115000 = 2 then (if y124.length < 3518437208883 then (bailiwickref10_Spans.l0 k x0 (y124 ++ [(⟨x115002, x115003, x115004, x115001, 0, true⟩ : S61)]) (wrap64 (x4 + 1))) else (none)) else (bailiwickref10_Spans.l0 k x0 y124 (wrap64 (x4 + 1)))))) else (none)) else (none))
end
def bailiwickref10_Spans.f (k : Nat) (l0 : List (S32)) : Option ((List (S61))) := bailiwickref10_Spans.l0 k l0 ([] : List (S61)) 0
theorem bailiwickref10_Spans.mono_l : ∀ k, (∀ y0 y1 y2, LeO (bailiwickref10_Spans.l0 k y0 y1 y2) (bailiwickref10_Spans.l0 (k + 1) y0 y1 y2)) ∧ (∀ y0 y1 y2 y3 y4 y5 y6 y7 y8, LeO (bailiwickref10_Spans.j1 k y0 y1 y2 y3 y4 y5 y6 y7 y8) (bailiwickref10_Spans.j1 (k + 1) y0 y1 y2 y3 y4 y5 y6 y7 y8)) ∧ (∀ y0 y1 y2 y3 y4 y5 y6 y7 y8 y9 y10, LeO (bailiwickref10_Spans.j2 k y0 y1 y2 y3 y4 y5 y6 y7 y8 y9 y10) (bailiwickref10_Spans.j2 (k + 1) y0 y1 y2 y3 y4 y5 y6 y7 y8 y9 y10))
  | 0 => ⟨fun _ _ _ r h => by simp [bailiwickref10_Spans.l0] at h, fun _ _ _ _ _ _ _ _ _ r h => by simp [bailiwickref10_Spans.j1] at h, fun _ _ _ _ _ _ _ _ _ _ _ r h => by simp [bailiwickref10_Spans.j2] at h⟩
  | k + 1 => by
    obtain ⟨ih0, ih1, ih2⟩ := bailiwickref10_Spans.mono_l k
    refine ⟨?_, ?_, ?_⟩
    · intro y0 y1 y2
      unfold bailiwickref10_Spans.l0
      repeat' first
      | (with_reducible exact ih0 _ _ _)
      | (with_reducible exact ih1 _ _ _ _ _ _ _ _ _)
      | (with_reducible exact ih2 _ _ _ _ _ _ _ _ _ _ _)
      | (with_reducible exact bailiwickref10_open.mono _ _ _ _)
      | (with_reducible exact LeO.refl _)
      | (with_reducible exact LeO.none _)
      | (with_reducible refine LeO.ite ?_ ?_)
      | (with_reducible refine LeO.bind ?_ (fun _ => ?_))
      | exact ih0 _ _ _
      | exact ih1 _ _ _ _ _ _ _ _ _
      | exact ih2 _ _ _ _ _ _ _ _ _ _ _
      | exact bailiwickref10_open.mono _ _ _ _
      | exact LeO.none _
      | refine LeO.ite ?_ ?_
      | refine LeO.bind ?_ (fun _ => ?_)
    · intro y0 y1 y2 y3 y4 y5 y6 y7 y8
      unfold bailiwickref10_Spans.j1
      repeat' first
      | (with_reducible exact ih0 _ _ _)
      | (with_reducible exact ih1 _ _ _ _ _ _ _ _ _)
      | (with_reducible exact ih2 _ _ _ _ _ _ _ _ _ _ _)
      | (with_reducible exact bailiwickref10_open.mono _ _ _ _)
      | (with_reducible exact LeO.refl _)
      | (with_reducible exact LeO.none _)
      | (with_reducible refine LeO.ite ?_ ?_)
      | (with_reducible refine LeO.bind ?_ (fun _ => ?_))
      | exact ih0 _ _ _
      | exact ih1 _ _ _ _ _ _ _ _ _
      | exact ih2 _ _ _ _ _ _ _ _ _ _ _
      | exact bailiwickref10_open.mono _ _ _ _
      | exact LeO.none _
      | refine LeO.ite ?_ ?_
      | refine LeO.bind ?_ (fun _ => ?_)
    · intro y0 y1 y2 y3 y4 y5 y6 y7 y8 y9 y10
      unfold bailiwickref10_Spans.j2
      repeat' first
      | (with_reducible exact ih0 _ _ _)
      | (with_reducible exact ih1 _ _ _ _ _ _ _ _ _)
      | (with_reducible exact ih2 _ _ _ _ _ _ _ _ _ _ _)
      | (with_reducible exact bailiwickref10_open.mono _ _ _ _)
      | (with_reducible exact LeO.refl _)
      | (with_reducible exact LeO.none _)
      | (with_reducible refine LeO.ite ?_ ?_)
      | (with_reducible refine LeO.bind ?_ (fun _ => ?_))
      | exact ih0 _ _ _
      | exact ih1 _ _ _ _ _ _ _ _ _
      | exact ih2 _ _ _ _ _ _ _ _ _ _ _
      | exact bailiwickref10_open.mono _ _ _ _
      | exact LeO.none _
      | refine LeO.ite ?_ ?_
      | refine LeO.bind ?_ (fun _ => ?_)
theorem bailiwickref10_Spans.mono : ∀ a0 k, LeO (bailiwickref10_Spans.f k a0) (bailiwickref10_Spans.f (k + 1) a0) := by
  intro a0 k
  obtain ⟨ih0, ih1, ih2⟩ := bailiwickref10_Spans.mono_l k
  unfold bailiwickref10_Spans.f
  repeat' first
      | (with_reducible exact ih0 _ _ _)
      | (with_reducible exact ih1 _ _ _ _ _ _ _ _ _)
      | (with_reducible exact ih2 _ _ _ _ _ _ _ _ _ _ _)
      | (with_reducible exact bailiwickref10_open.mono _ _ _ _)
      | (with_reducible exact LeO.refl _)
      | (with_reducible exact LeO.none _)
      | (with_reducible refine LeO.ite ?_ ?_)
      | (with_reducible refine LeO.bind ?_ (fun _ => ?_))
      | exact ih0 _ _ _
      | exact ih1 _ _ _ _ _ _ _ _ _
      | exact ih2 _ _ _ _ _ _ _ _ _ _ _
      | exact bailiwickref10_open.mono _ _ _ _
      | exact LeO.none _
      | refine LeO.ite ?_ ?_
      | refine LeO.bind ?_ (fun _ => ?_)
set_option maxHeartbeats 8000000 in
set_option maxRecDepth 100000 in
theorem bailiwickref10_Spans.calls (k : Nat) (A0 : Option Addr) (c0 : Nat) (l0 : List (S32)) (r : List (S61)) (w : World) (hr0 : Kd.C k32 w A0 l0.length l0) (hc0 : l0.length ≤ c0) (h : bailiwickref10_Spans.f k l0 = some r) :
    Calls Try.prog 19 #[.slice A0 l0.length c0] w fun e w' => ∃ v0_ : Value, e = .returned (v0_) ∧ Kd.R k61 61 w' w.heap.size (fun _ => True) v0_ r ∧ Below w.heap.size w w' := by
  have hu32 := Try.underlying32
  have hu61 := Try.underlying61
  have HR0 := Aside0.mk hr0
  have HC0 := Aside0.mk hc0
  clear hr0 hc0
  have HB := Aside0.mk (Below.refl w.heap.size w)
  have H : (bailiwickref10_Spans.l0 k l0 ([] : List (S61)) 0) = some r := h
  clear h
  have H' := Aside0.mk H
  clear H
  go_enter Try.func19, Try.ntmps19
  go_wp2
  go_loopg [3, 4] k (fun kq v3 v4 w' => ∃ (x3_1 : List (S61)) (x4_1 : Int), v4 = .int .i64 x4_1 ∧ Aside0 (bailiwickref10_Spans.l0 kq l0 x3_1 x4_1 = some r) ∧ Aside0 (kq ≤ k) ∧ Aside0 (Kd.R k61 61 w' w.heap.size (fun _ => True) v3 x3_1) ∧ Aside0 (Below w.heap.size w w'))
  case atStart => exact ⟨(([] : List (S61))), (0), (by first | rfl | (simp; done) | (simp [*]; done)), H', ⟨Nat.le_refl _⟩, ⟨by first | exact Kd.R_nil _ _ _ _ _ | exact Kd.N_nil _ _ _ _ _ | exact Kd.V_nil _ _ _ _ _ | exact Kd.Q_nil _ _ _ _ _ | exact Kd.S_nil _ _ _ _ _⟩, ⟨by repeat (first | (with_reducible first | exact HB.out | apply below_alloc | apply pw_below_drewN | apply below_drew1) | exact HB.out)⟩⟩
  case round =>
    clear H'
    try clear c1
    obtain ⟨x3_1, x4_1, rfl, HA, HK1, HO_3, HB⟩ := hrel
    cases gk with
    | zero => exact absurd HA.out (by simp [bailiwickref10_Spans.l0])
    | succ k1 =>
      have H := HA.out
      clear HA
      simp only [bailiwickref10_Spans.l0] at H
      by_cases c2 : x4_1 < (l0.length : Int)
      · rw [if_pos c2] at H
        have c2b0 : decide (x4_1 < (l0.length : Int)) = true := decide_eq_true c2
        clear c2
        by_cases c3 : 0 ≤ x4_1
        · rw [if_pos c3] at H
          have c3b0 : decide (0 ≤ x4_1) = true := decide_eq_true c3
          clear c3
          have HC4 := Aside0.mk H
          clear H
          have p113 : 0 ≤ (x4_1 : Int) := of_decide_eq_true (by first | (with_reducible assumption) | assumption)
          have q113 : x4_1 < (l0.length : Int) := of_decide_eq_true (by first | (with_reducible assumption) | assumption)
          obtain ⟨ad113, e113, hx113_0, hx113_1, hx113_2, hx113_3, hx113_4⟩ := at_T32 HR0.out x4_1 p113 q113
          cases e113
          replace hx113_0 := (HB.out.cell (World.block_lt_of_cell? w _ hx113_0)).trans hx113_0
          replace hx113_1 := (HB.out.cell (World.block_lt_of_cell? w _ hx113_1)).trans hx113_1
          replace hx113_2 := (HB.out.cell (World.block_lt_of_cell? w _ hx113_2)).trans hx113_2
          replace hx113_3 := (HB.out.cell (World.block_lt_of_cell? w _ hx113_3)).trans hx113_3
          replace hx113_4 := (HB.out.cell (World.block_lt_of_cell? w _ hx113_4)).trans hx113_4
          replace p113 := eq_true p113
          replace q113 := eq_true q113
          go_upto_region 6 with (first | ((with_reducible refine gate_dst (N := 5) rfl ?_); refine box_event ?hg (N := 5) ?hd (cs := #[.int .i64 0, .int .i64 0, .int .u32 0, .int .u32 0, .int .i64 0]) (t := 32) ?hr ?_; (case hd => rfl); (case hg => rfl); (case hr => first | (go_simp; done) | (go_simp; rfl)); intro gb114 hg w5 hbox hb; have n0_ := Aside0.mk (Kd.R_below (by (with_reducible repeat (first | apply Kd.R_alloc | apply Kd.R_drewN | apply Kd.R_drew)); exact HO_3.out) hb); have n1_ := Aside0.mk (below_step (by repeat (first | (with_reducible first | exact HB.out | apply below_alloc | apply pw_below_drewN | apply below_drew1) | exact HB.out)) hb); have n2_ := Aside0.mk (hbox); have n3_ := Aside0.mk ((by rw [hg]; exact (below_size (by repeat (first | (with_reducible first | exact HB.out | apply below_alloc | apply pw_below_drewN | apply below_drew1) | exact HB.out))) : w.heap.size ≤ gb114)); have n4_ := Aside0.mk ((by rw [hg]; exact (below_size (by repeat (first | (with_reducible first | exact HB.out | apply below_alloc | apply pw_below_drewN | apply below_drew1) | exact HB.out))) : w.heap.size ≤ gb114)); clear HO_3; clear HB; have HO_3 := n0_; have HB := n1_; have BK114 := n2_; have GW114 := n3_; have GE114 := n4_; clear n0_ n1_ n2_ n3_ n4_; clear hb hbox hg; have hcz6_0 : w5.cell? ⟨gb114, 0, none⟩ = some (.int .i64 0) := (blk_cell BK114.out 0).trans rfl; have hcz6_1 : w5.cell? ⟨gb114, 1, none⟩ = some (.int .i64 0) := (blk_cell BK114.out 1).trans rfl; have hcz6_2 : w5.cell? ⟨gb114, 2, none⟩ = some (.int .u32 0) := (blk_cell BK114.out 2).trans rfl; have hcz6_3 : w5.cell? ⟨gb114, 3, none⟩ = some (.int .u32 0) := (blk_cell BK114.out 3).trans rfl; have hcz6_4 : w5.cell? ⟨gb114, 4, none⟩ = some (.int .i64 0) := (blk_cell BK114.out 4).trans rfl; have hfz6_0 := blk_frozen BK114.out 0; have hfz6_1 := blk_frozen BK114.out 1; have hfz6_2 := blk_frozen BK114.out 2; have hfz6_3 := blk_frozen BK114.out 3; have hfz6_4 := blk_frozen BK114.out 4))
          (try simp only [Act.put, List.setIfInBounds_toArray, List.set_cons_zero, List.set_cons_succ])
          go_cut [25] (fun v25 wc => ∃ (kq : Nat) (x25_3 : Bool), v25 = .bool x25_3 ∧ Aside0 (bailiwickref10_Spans.j1 kq l0 x3_1 x4_1 x25_3 ((rd_T32 l0 x4_1).f0) ((rd_T32 l0 x4_1).f1) ((rd_T32 l0 x4_1).f2) ((rd_T32 l0 x4_1).f3) ((rd_T32 l0 x4_1).f4) = some r) ∧ Aside0 (kq ≤ k1) ∧ Aside0 (Kd.R k61 61 wc w.heap.size (fun _ => True) u3 x3_1) ∧ Aside0 (wc.heap[gb114]? = some (.cells #[.int .i64 ((rd_T32 l0 x4_1).f0), .int .i64 ((rd_T32 l0 x4_1).f1), .int .u32 ((rd_T32 l0 x4_1).f2), .int .u32 ((rd_T32 l0 x4_1).f3), .int .i64 ((rd_T32 l0 x4_1).f4)] 32 (0, 0))) ∧ Aside0 (Below w.heap.size w wc))
          case first =>
            have H := HC4.out
            clear HC4
            by_cases c7 : ((rd_T32 l0 x4_1).f0) = 2
            · rw [if_pos c7] at H
              have c7b0 : (((rd_T32 l0 x4_1).f0) == 2) = true := beq_iff_eq.mpr c7
              have c7b1 : (((rd_T32 l0 x4_1).f0) != 2) = false := bne_eq_false_iff_eq.mpr c7
              clear c7
              (first | rw [c7b0] | (simp only [i64_w, i32_w]; rw [c7b0]) | skip)
              have H' := Aside0.mk H
              clear H
              have hcz8_0 : w5.cell? ⟨gb114, 0, none⟩ = some (.int .i64 0) := (blk_cell BK114.out 0).trans rfl
              have hcz8_1 : w5.cell? ⟨gb114, 1, none⟩ = some (.int .i64 0) := (blk_cell BK114.out 1).trans rfl
              have hcz8_2 : w5.cell? ⟨gb114, 2, none⟩ = some (.int .u32 0) := (blk_cell BK114.out 2).trans rfl
              have hcz8_3 : w5.cell? ⟨gb114, 3, none⟩ = some (.int .u32 0) := (blk_cell BK114.out 3).trans rfl
              have hcz8_4 : w5.cell? ⟨gb114, 4, none⟩ = some (.int .i64 0) := (blk_cell BK114.out 4).trans rfl
              have hfz8_0 := blk_frozen BK114.out 0
              have hfz8_1 := blk_frozen BK114.out 1
              have hfz8_2 := blk_frozen BK114.out 2
              have hfz8_3 := blk_frozen BK114.out 3
              have hfz8_4 := blk_frozen BK114.out 4
              go_wp2
              go_meet
              case rel => exact ⟨_, (false), (by first | rfl | (simp; done) | (simp [*]; done)), H', ⟨by have := HK1.out; first | omega | exact Nat.le_refl _⟩, ⟨by (with_reducible repeat (first | apply Kd.R_alloc | apply Kd.R_drewN | apply Kd.R_drew)); exact Kd.R_mono (Kd.R_far (p := ⟨gb114, 4, none⟩) (Kd.R_far (p := ⟨gb114, 3, none⟩) (Kd.R_far (p := ⟨gb114, 2, none⟩) (Kd.R_far (p := ⟨gb114, 1, none⟩) (Kd.R_far (p := ⟨gb114, 0, none⟩) (Kd.R_types HO_3.out BK114.out (by decide)) (fun _ hk => hk.2) (.int .i64 ((rd_T32 l0 x4_1).f0))) (fun _ hk => hk.2) (.int .i64 ((rd_T32 l0 x4_1).f1))) (fun _ hk => hk.2) (.int .u32 ((rd_T32 l0 x4_1).f2))) (fun _ hk => hk.2) (.int .u32 ((rd_T32 l0 x4_1).f3))) (fun _ hk => hk.2) (.int .i64 ((rd_T32 l0 x4_1).f4))) (fun _ hk => trivial)⟩, ⟨by (with_reducible repeat (first | refine blk_drewN ?_ _ | refine blk_drew ?_ | refine blk_alloc ?_ _)); refine blk_put (cs := #[.int .i64 ((rd_T32 l0 x4_1).f0), .int .i64 ((rd_T32 l0 x4_1).f1), .int .u32 ((rd_T32 l0 x4_1).f2), .int .u32 ((rd_T32 l0 x4_1).f3), .int .i64 0]) ?_ 4 _ rfl; (with_reducible repeat (first | refine blk_drewN ?_ _ | refine blk_drew ?_ | refine blk_alloc ?_ _)); refine blk_put (cs := #[.int .i64 ((rd_T32 l0 x4_1).f0), .int .i64 ((rd_T32 l0 x4_1).f1), .int .u32 ((rd_T32 l0 x4_1).f2), .int .u32 0, .int .i64 0]) ?_ 3 _ rfl; (with_reducible repeat (first | refine blk_drewN ?_ _ | refine blk_drew ?_ | refine blk_alloc ?_ _)); refine blk_put (cs := #[.int .i64 ((rd_T32 l0 x4_1).f0), .int .i64 ((rd_T32 l0 x4_1).f1), .int .u32 0, .int .u32 0, .int .i64 0]) ?_ 2 _ rfl; (with_reducible repeat (first | refine blk_drewN ?_ _ | refine blk_drew ?_ | refine blk_alloc ?_ _)); refine blk_put (cs := #[.int .i64 ((rd_T32 l0 x4_1).f0), .int .i64 0, .int .u32 0, .int .u32 0, .int .i64 0]) ?_ 1 _ rfl; (with_reducible repeat (first | refine blk_drewN ?_ _ | refine blk_drew ?_ | refine blk_alloc ?_ _)); refine blk_put (cs := #[.int .i64 0, .int .i64 0, .int .u32 0, .int .u32 0, .int .i64 0]) ?_ 0 _ rfl; (with_reducible repeat (first | refine blk_drewN ?_ _ | refine blk_drew ?_ | refine blk_alloc ?_ _)); exact BK114.out⟩, ⟨by repeat (first | (with_reducible first | exact HB.out | apply below_alloc | apply pw_below_drewN | apply below_drew1 | refine below_set ?_ GE114.out) | exact HB.out)⟩⟩
            · rw [if_neg c7] at H
              have c7b0 : (((rd_T32 l0 x4_1).f0) == 2) = false := beq_eq_false_iff_ne.mpr c7
              have c7b1 : (((rd_T32 l0 x4_1).f0) != 2) = true := bne_iff_ne.mpr c7
              (first | rw [c7b0] | (simp only [i64_w, i32_w]; rw [c7b0]) | skip)
              have H' := Aside0.mk H
              clear H
              have hcz9_0 : w5.cell? ⟨gb114, 0, none⟩ = some (.int .i64 0) := (blk_cell BK114.out 0).trans rfl
              have hcz9_1 : w5.cell? ⟨gb114, 1, none⟩ = some (.int .i64 0) := (blk_cell BK114.out 1).trans rfl
              have hcz9_2 : w5.cell? ⟨gb114, 2, none⟩ = some (.int .u32 0) := (blk_cell BK114.out 2).trans rfl
              have hcz9_3 : w5.cell? ⟨gb114, 3, none⟩ = some (.int .u32 0) := (blk_cell BK114.out 3).trans rfl
              have hcz9_4 : w5.cell? ⟨gb114, 4, none⟩ = some (.int .i64 0) := (blk_cell BK114.out 4).trans rfl
              have hfz9_0 := blk_frozen BK114.out 0
              have hfz9_1 := blk_frozen BK114.out 1
              have hfz9_2 := blk_frozen BK114.out 2
              have hfz9_3 := blk_frozen BK114.out 3
              have hfz9_4 := blk_frozen BK114.out 4
              go_wp2
              go_meet
              case rel => exact ⟨_, ((((rd_T32 l0 x4_1).f0) != 3)), (by first | rfl | (simp; done) | (simp [*]; done)), H', ⟨by have := HK1.out; first | omega | exact Nat.le_refl _⟩, ⟨by (with_reducible repeat (first | apply Kd.R_alloc | apply Kd.R_drewN | apply Kd.R_drew)); exact Kd.R_mono (Kd.R_far (p := ⟨gb114, 4, none⟩) (Kd.R_far (p := ⟨gb114, 3, none⟩) (Kd.R_far (p := ⟨gb114, 2, none⟩) (Kd.R_far (p := ⟨gb114, 1, none⟩) (Kd.R_far (p := ⟨gb114, 0, none⟩) (Kd.R_types HO_3.out BK114.out (by decide)) (fun _ hk => hk.2) (.int .i64 ((rd_T32 l0 x4_1).f0))) (fun _ hk => hk.2) (.int .i64 ((rd_T32 l0 x4_1).f1))) (fun _ hk => hk.2) (.int .u32 ((rd_T32 l0 x4_1).f2))) (fun _ hk => hk.2) (.int .u32 ((rd_T32 l0 x4_1).f3))) (fun _ hk => hk.2) (.int .i64 ((rd_T32 l0 x4_1).f4))) (fun _ hk => trivial)⟩, ⟨by (with_reducible repeat (first | refine blk_drewN ?_ _ | refine blk_drew ?_ | refine blk_alloc ?_ _)); refine blk_put (cs := #[.int .i64 ((rd_T32 l0 x4_1).f0), .int .i64 ((rd_T32 l0 x4_1).f1), .int .u32 ((rd_T32 l0 x4_1).f2), .int .u32 ((rd_T32 l0 x4_1).f3), .int .i64 0]) ?_ 4 _ rfl; (with_reducible repeat (first | refine blk_drewN ?_ _ | refine blk_drew ?_ | refine blk_alloc ?_ _)); refine blk_put (cs := #[.int .i64 ((rd_T32 l0 x4_1).f0), .int .i64 ((rd_T32 l0 x4_1).f1), .int .u32 ((rd_T32 l0 x4_1).f2), .int .u32 0, .int .i64 0]) ?_ 3 _ rfl; (with_reducible repeat (first | refine blk_drewN ?_ _ | refine blk_drew ?_ | refine blk_alloc ?_ _)); refine blk_put (cs := #[.int .i64 ((rd_T32 l0 x4_1).f0), .int .i64 ((rd_T32 l0 x4_1).f1), .int .u32 0, .int .u32 0, .int .i64 0]) ?_ 2 _ rfl; (with_reducible repeat (first | refine blk_drewN ?_ _ | refine blk_drew ?_ | refine blk_alloc ?_ _)); refine blk_put (cs := #[.int .i64 ((rd_T32 l0 x4_1).f0), .int .i64 0, .int .u32 0, .int .u32 0, .int .i64 0]) ?_ 1 _ rfl; (with_reducible repeat (first | refine blk_drewN ?_ _ | refine blk_drew ?_ | refine blk_alloc ?_ _)); refine blk_put (cs := #[.int .i64 0, .int .i64 0, .int .u32 0, .int .u32 0, .int .i64 0]) ?_ 0 _ rfl; (with_reducible repeat (first | refine blk_drewN ?_ _ | refine blk_drew ?_ | refine blk_alloc ?_ _)); exact BK114.out⟩, ⟨by repeat (first | (with_reducible first | exact HB.out | apply below_alloc | apply pw_below_drewN | apply below_drew1 | refine below_set ?_ GE114.out) | exact HB.out)⟩⟩
          case rest =>
            clear HC4
            try clear c1
            try clear p1
            try clear q1
            try clear hx1
            try clear c2
            try clear c2b0
            try clear p2
            try clear c3
            try clear c3b0
            try clear c7
            try clear c7b0
            try clear c7b1
            try clear hcz6_0
            try clear hcz6_1
            try clear hcz6_2
            try clear hcz6_3
            try clear hcz6_4
            try clear hcz8_0
            try clear hcz8_1
            try clear hcz8_2
            try clear hcz8_3
            try clear hcz8_4
            try clear hcz9_0
            try clear hcz9_1
            try clear hcz9_2
            try clear hcz9_3
            try clear hcz9_4
            try clear hfz6_0
            try clear hfz6_1
            try clear hfz6_2
            try clear hfz6_3
            try clear hfz6_4
            try clear hfz8_0
            try clear hfz8_1
            try clear hfz8_2
            try clear hfz8_3
            try clear hfz8_4
            try clear hfz9_0
            try clear hfz9_1
            try clear hfz9_2
            try clear hfz9_3
            try clear hfz9_4
            try clear hx113_0
            try clear hx113_1
            try clear hx113_2
            try clear hx113_3
            try clear hx113_4
            try clear p113
            try clear q113
            obtain ⟨kq, x25_3, rfl, HA, HJ3, HO_3, BK114, HB⟩ := hcut
            cases kq with
            | zero => exact absurd HA.out (by simp [bailiwickref10_Spans.j1])
            | succ kj3 =>
              have H := HA.out
              clear HA
              simp only [bailiwickref10_Spans.j1] at H
              by_cases c10 : x25_3 = true
              · subst c10
                have H1 : (bailiwickref10_Spans.l0 kj3 l0 x3_1 (wrap64 (x4_1 + 1))) = some r := by rw [if_pos rfl] at H; exact H
                clear H
                have H := H1
                clear H1
                have H' := Aside0.mk H
                clear H
                go_wp2
                go_roundg kj3
                case measure => have := HK1.out; have := HJ3.out; omega
                case rel => exact ⟨(x3_1), (wrap64 (x4_1 + 1)), (by first | rfl | (simp; done) | (simp [*]; done)), H', ⟨by have := HK1.out; have := HJ3.out; omega⟩, ⟨by (with_reducible repeat (first | apply Kd.R_alloc | apply Kd.R_drewN | apply Kd.R_drew)); exact HO_3.out⟩, ⟨by repeat (first | (with_reducible first | exact HB.out | apply below_alloc | apply pw_below_drewN | apply below_drew1 | refine below_set ?_ GE114.out) | exact HB.out)⟩⟩
              · replace c10 := Bool.eq_false_iff.mpr c10
                subst c10
                have H1 : ((bailiwickref10_open.f kj3 x3_1 ((rd_T32 l0 x4_1).f3) ((rd_T32 l0 x4_1).f4)).bind fun t115 => (if t115 ≥ 0 then (if ((rd_T32 l0 x4_1).f0) = 2 then (bailiwickref10_Spans.j2 kj3 l0 x3_1 x4_1 t115 ((rd_T32 l0 x4_1).f1) (decide (((rd_T32 l0 x4_1).f1) > (-9223372036854775808))) ((rd_T32 l0 x4_1).f0) ((rd_T32 l0 x4_1).f1) ((rd_T32 l0 x4_1).f2) ((rd_T32 l0 x4_1).f3) ((rd_T32 l0 x4_1).f4)) else (bailiwickref10_Spans.j2 kj3 l0 x3_1 x4_1 t115 ((rd_T32 l0 x4_1).f1) false ((rd_T32 l0 x4_1).f0) ((rd_T32 l0 x4_1).f1) ((rd_T32 l0 x4_1).f2) ((rd_T32 l0 x4_1).f3) ((rd_T32 l0 x4_1).f4))) else (if ((rd_T32 l0 x4_1).f0) = 2 then (if x3_1.length < 3518437208883 then (bailiwickref10_Spans.l0 kj3 l0 (x3_1 ++ [(⟨((rd_T32 l0 x4_1).f2), ((rd_T32 l0 x4_1).f3), ((rd_T32 l0 x4_1).f4), ((rd_T32 l0 x4_1).f1), 0, true⟩ : S61)]) (wrap64 (x4_1 + 1))) else (none)) else (bailiwickref10_Spans.l0 kj3 l0 x3_1 (wrap64 (x4_1 + 1)))))) = some r := by rw [if_neg (show ¬ (false = true) by decide)] at H; exact H
                clear H
                have H := H1
                clear H1
                replace H := Option.bind_eq_some_iff.mp H
                obtain ⟨t115, A110, H⟩ := H
                replace H : (if t115 ≥ 0 then (if ((rd_T32 l0 x4_1).f0) = 2 then (bailiwickref10_Spans.j2 kj3 l0 x3_1 x4_1 t115 ((rd_T32 l0 x4_1).f1) (decide (((rd_T32 l0 x4_1).f1) > (-9223372036854775808))) ((rd_T32 l0 x4_1).f0) ((rd_T32 l0 x4_1).f1) ((rd_T32 l0 x4_1).f2) ((rd_T32 l0 x4_1).f3) ((rd_T32 l0 x4_1).f4)) else (bailiwickref10_Spans.j2 kj3 l0 x3_1 x4_1 t115 ((rd_T32 l0 x4_1).f1) false ((rd_T32 l0 x4_1).f0) ((rd_T32 l0 x4_1).f1) ((rd_T32 l0 x4_1).f2) ((rd_T32 l0 x4_1).f3) ((rd_T32 l0 x4_1).f4))) else (if ((rd_T32 l0 x4_1).f0) = 2 then (if x3_1.length < 3518437208883 then (bailiwickref10_Spans.l0 kj3 l0 (x3_1 ++ [(⟨((rd_T32 l0 x4_1).f2), ((rd_T32 l0 x4_1).f3), ((rd_T32 l0 x4_1).f4), ((rd_T32 l0 x4_1).f1), 0, true⟩ : S61)]) (wrap64 (x4_1 + 1))) else (none)) else (bailiwickref10_Spans.l0 kj3 l0 x3_1 (wrap64 (x4_1 + 1))))) = some r := H
                have A11 := Aside0.mk A110
                clear A110
                by_cases c12 : t115 ≥ 0
                · rw [if_pos c12] at H
                  have c12b0 : decide (0 ≤ t115) = true := decide_eq_true c12
                  clear c12
                  have HC13 := Aside0.mk H
                  clear H
                  have hcz14_0 : wc.cell? ⟨gb114, 0, none⟩ = some (.int .i64 ((rd_T32 l0 x4_1).f0)) := (blk_cell BK114.out 0).trans rfl
                  have hcz14_1 : wc.cell? ⟨gb114, 1, none⟩ = some (.int .i64 ((rd_T32 l0 x4_1).f1)) := (blk_cell BK114.out 1).trans rfl
                  have hcz14_2 : wc.cell? ⟨gb114, 2, none⟩ = some (.int .u32 ((rd_T32 l0 x4_1).f2)) := (blk_cell BK114.out 2).trans rfl
                  have hcz14_3 : wc.cell? ⟨gb114, 3, none⟩ = some (.int .u32 ((rd_T32 l0 x4_1).f3)) := (blk_cell BK114.out 3).trans rfl
                  have hcz14_4 : wc.cell? ⟨gb114, 4, none⟩ = some (.int .i64 ((rd_T32 l0 x4_1).f4)) := (blk_cell BK114.out 4).trans rfl
                  have hfz14_0 := blk_frozen BK114.out 0
                  have hfz14_1 := blk_frozen BK114.out 1
                  have hfz14_2 := blk_frozen BK114.out 2
                  have hfz14_3 := blk_frozen BK114.out 3
                  have hfz14_4 := blk_frozen BK114.out 4
                  obtain ⟨Ao15, co15, eo15⟩ := Kd.R_slice HO_3.out
                  subst eo15
                  go_upto_region 10 with (first | ((with_reducible refine gate_callee (f := 38) rfl ?_); refine goesL_ (some 31) rfl rfl Try.func38 (by kernel_rfl) rfl #[.slice Ao15 x3_1.length co15, .int .u32 ((rd_T32 l0 x4_1).f3), .int .i64 ((rd_T32 l0 x4_1).f4)] rfl (by (try simp only [List.map_toArray, List.map_cons, List.map_nil]); first | done | rfl | (simp only [List.length_drop, List.length_take]; rfl)) ?_; (with_reducible refine (bailiwickref10_open.calls kj3 _ _ x3_1 ((rd_T32 l0 x4_1).f3) ((rd_T32 l0 x4_1).f4) t115 _ ?side1 ?side2 A11.out).mono ?_); (case side1 => repeat (first | exact (Kd.R_reads' HO_3.out).2.2 | (with_reducible refine Kd.C_alloc ?_ _) | (with_reducible refine Kd.C_drewN ?_ _) | (with_reducible refine Kd.C_drew ?_))); (case side2 => exact (Kd.R_reads' HO_3.out).2.1); rintro e w' ⟨rfl, ⟨nd, rfl⟩⟩; refine ⟨_, rfl, ?_⟩))
                  (try simp only [Act.put, List.setIfInBounds_toArray, List.set_cons_zero, List.set_cons_succ])
                  go_cut [42] (fun v42 wc => ∃ (kq : Nat) (x42_12 : Bool), v42 = .bool x42_12 ∧ Aside0 (bailiwickref10_Spans.j2 kq l0 x3_1 x4_1 t115 ((rd_T32 l0 x4_1).f1) x42_12 ((rd_T32 l0 x4_1).f0) ((rd_T32 l0 x4_1).f1) ((rd_T32 l0 x4_1).f2) ((rd_T32 l0 x4_1).f3) ((rd_T32 l0 x4_1).f4) = some r) ∧ Aside0 (kq ≤ kj3) ∧ Aside0 (Kd.R k61 61 wc w.heap.size (fun _ => True) (.slice Ao15 x3_1.length co15) x3_1) ∧ Aside0 (wc.heap[gb114]? = some (.cells #[.int .i64 ((rd_T32 l0 x4_1).f0), .int .i64 ((rd_T32 l0 x4_1).f1), .int .u32 ((rd_T32 l0 x4_1).f2), .int .u32 ((rd_T32 l0 x4_1).f3), .int .i64 ((rd_T32 l0 x4_1).f4)] 32 (0, 0))) ∧ Aside0 (Below w.heap.size w wc))
                  case first =>
                    have H := HC13.out
                    clear HC13
                    by_cases c16 : ((rd_T32 l0 x4_1).f0) = 2
                    · rw [if_pos c16] at H
                      have c16b0 : (((rd_T32 l0 x4_1).f0) == 2) = true := beq_iff_eq.mpr c16
                      have c16b1 : (((rd_T32 l0 x4_1).f0) != 2) = false := bne_eq_false_iff_eq.mpr c16
                      clear c16
                      (first | rw [c16b0] | (simp only [i64_w, i32_w]; rw [c16b0]) | skip)
                      have H' := Aside0.mk H
                      clear H
                      have hcz17_0 : wc.cell? ⟨gb114, 0, none⟩ = some (.int .i64 ((rd_T32 l0 x4_1).f0)) := (blk_cell BK114.out 0).trans rfl
                      have hcz17_1 : wc.cell? ⟨gb114, 1, none⟩ = some (.int .i64 ((rd_T32 l0 x4_1).f1)) := (blk_cell BK114.out 1).trans rfl
                      have hcz17_2 : wc.cell? ⟨gb114, 2, none⟩ = some (.int .u32 ((rd_T32 l0 x4_1).f2)) := (blk_cell BK114.out 2).trans rfl
                      have hcz17_3 : wc.cell? ⟨gb114, 3, none⟩ = some (.int .u32 ((rd_T32 l0 x4_1).f3)) := (blk_cell BK114.out 3).trans rfl
                      have hcz17_4 : wc.cell? ⟨gb114, 4, none⟩ = some (.int .i64 ((rd_T32 l0 x4_1).f4)) := (blk_cell BK114.out 4).trans rfl
                      have hfz17_0 := blk_frozen BK114.out 0
                      have hfz17_1 := blk_frozen BK114.out 1
                      have hfz17_2 := blk_frozen BK114.out 2
                      have hfz17_3 := blk_frozen BK114.out 3
                      have hfz17_4 := blk_frozen BK114.out 4
                      go_wp2
                      go_meet
                      case rel => exact ⟨_, (decide (((rd_T32 l0 x4_1).f1) > (-9223372036854775808))), (by first | rfl | (simp; done) | (simp [*]; done)), H', ⟨by have := HK1.out; have := HJ3.out; first | omega | exact Nat.le_refl _⟩, ⟨by (with_reducible repeat (first | apply Kd.R_alloc | apply Kd.R_drewN | apply Kd.R_drew)); exact HO_3.out⟩, ⟨by (with_reducible repeat (first | refine blk_drewN ?_ _ | refine blk_drew ?_ | refine blk_alloc ?_ _)); exact BK114.out⟩, ⟨by repeat (first | (with_reducible first | exact HB.out | apply below_alloc | apply pw_below_drewN | apply below_drew1 | refine below_set ?_ GE114.out) | exact HB.out)⟩⟩
                    · rw [if_neg c16] at H
                      have c16b0 : (((rd_T32 l0 x4_1).f0) == 2) = false := beq_eq_false_iff_ne.mpr c16
                      have c16b1 : (((rd_T32 l0 x4_1).f0) != 2) = true := bne_iff_ne.mpr c16
                      (first | rw [c16b0] | (simp only [i64_w, i32_w]; rw [c16b0]) | skip)
                      have H' := Aside0.mk H
                      clear H
                      have hcz18_0 : wc.cell? ⟨gb114, 0, none⟩ = some (.int .i64 ((rd_T32 l0 x4_1).f0)) := (blk_cell BK114.out 0).trans rfl
                      have hcz18_1 : wc.cell? ⟨gb114, 1, none⟩ = some (.int .i64 ((rd_T32 l0 x4_1).f1)) := (blk_cell BK114.out 1).trans rfl
                      have hcz18_2 : wc.cell? ⟨gb114, 2, none⟩ = some (.int .u32 ((rd_T32 l0 x4_1).f2)) := (blk_cell BK114.out 2).trans rfl
                      have hcz18_3 : wc.cell? ⟨gb114, 3, none⟩ = some (.int .u32 ((rd_T32 l0 x4_1).f3)) := (blk_cell BK114.out 3).trans rfl
                      have hcz18_4 : wc.cell? ⟨gb114, 4, none⟩ = some (.int .i64 ((rd_T32 l0 x4_1).f4)) := (blk_cell BK114.out 4).trans rfl
                      have hfz18_0 := blk_frozen BK114.out 0
                      have hfz18_1 := blk_frozen BK114.out 1
                      have hfz18_2 := blk_frozen BK114.out 2
                      have hfz18_3 := blk_frozen BK114.out 3
                      have hfz18_4 := blk_frozen BK114.out 4
                      go_wp2
                      go_meet
                      case rel => exact ⟨_, (false), (by first | rfl | (simp; done) | (simp [*]; done)), H', ⟨by have := HK1.out; have := HJ3.out; first | omega | exact Nat.le_refl _⟩, ⟨by (with_reducible repeat (first | apply Kd.R_alloc | apply Kd.R_drewN | apply Kd.R_drew)); exact HO_3.out⟩, ⟨by (with_reducible repeat (first | refine blk_drewN ?_ _ | refine blk_drew ?_ | refine blk_alloc ?_ _)); exact BK114.out⟩, ⟨by repeat (first | (with_reducible first | exact HB.out | apply below_alloc | apply pw_below_drewN | apply below_drew1 | refine below_set ?_ GE114.out) | exact HB.out)⟩⟩
                  case rest =>
                    clear HC13
                    try clear c1
                    try clear p1
                    try clear q1
                    try clear hx1
                    try clear c2
                    try clear c2b0
                    try clear p2
                    try clear c3
                    try clear c3b0
                    try clear p6
                    try clear c7
                    try clear c7b0
                    try clear c7b1
                    try clear c10
                    try clear p11
                    try clear q11
                    try clear hx11
                    try clear c12
                    try clear c12b0
                    try clear c16
                    try clear c16b0
                    try clear c16b1
                    try clear hcz14_0
                    try clear hcz14_1
                    try clear hcz14_2
                    try clear hcz14_3
                    try clear hcz14_4
                    try clear hcz17_0
                    try clear hcz17_1
                    try clear hcz17_2
                    try clear hcz17_3
                    try clear hcz17_4
                    try clear hcz18_0
                    try clear hcz18_1
                    try clear hcz18_2
                    try clear hcz18_3
                    try clear hcz18_4
                    try clear hcz6_0
                    try clear hcz6_1
                    try clear hcz6_2
                    try clear hcz6_3
                    try clear hcz6_4
                    try clear hcz8_0
                    try clear hcz8_1
                    try clear hcz8_2
                    try clear hcz8_3
                    try clear hcz8_4
                    try clear hcz9_0
                    try clear hcz9_1
                    try clear hcz9_2
                    try clear hcz9_3
                    try clear hcz9_4
                    try clear hfz14_0
                    try clear hfz14_1
                    try clear hfz14_2
                    try clear hfz14_3
                    try clear hfz14_4
                    try clear hfz17_0
                    try clear hfz17_1
                    try clear hfz17_2
                    try clear hfz17_3
                    try clear hfz17_4
                    try clear hfz18_0
                    try clear hfz18_1
                    try clear hfz18_2
                    try clear hfz18_3
                    try clear hfz18_4
                    try clear hfz6_0
                    try clear hfz6_1
                    try clear hfz6_2
                    try clear hfz6_3
                    try clear hfz6_4
                    try clear hfz8_0
                    try clear hfz8_1
                    try clear hfz8_2
                    try clear hfz8_3
                    try clear hfz8_4
                    try clear hfz9_0
                    try clear hfz9_1
                    try clear hfz9_2
                    try clear hfz9_3
                    try clear hfz9_4
                    try clear hx113_0
                    try clear hx113_1
                    try clear hx113_2
                    try clear hx113_3
                    try clear hx113_4
                    try clear p1
                    try clear p113
                    try clear p2
                    try clear q1
                    try clear q113
                    obtain ⟨kq, x42_12, rfl, HA, HJ12, HO_3, BK114, HB⟩ := hcut
                    cases kq with
                    | zero => exact absurd HA.out (by simp [bailiwickref10_Spans.j2])
                    | succ kj12 =>
                      have H := HA.out
                      clear HA
                      simp only [bailiwickref10_Spans.j2] at H
                      by_cases c19 : x42_12 = true
                      · subst c19
                        have H1 : (if 0 ≤ t115 then (if t115 < (x3_1.length : Int) then ((some (x3_1.set (t115 : Int).toNat (⟨(rd_T61 x3_1 t115).f0, (rd_T61 x3_1 t115).f1, (rd_T61 x3_1 t115).f2, (rd_T61 x3_1 t115).f3, mx (wrap64 (((rd_T32 l0 x4_1).f1) - 1)) ((rd_T61 x3_1 t115).f3), (rd_T61 x3_1 t115).f5⟩ : S61) : List (S61))).bind fun y117 => ((some (y117.set (t115 : Int).toNat (⟨(rd_T61 y117 t115).f0, (rd_T61 y117 t115).f1, (rd_T61 y117 t115).f2, (rd_T61 y117 t115).f3, (rd_T61 y117 t115).f4, false⟩ : S61) : List (S61))).bind fun y118 => (if ((rd_T32 l0 x4_1).f0) = 2 then (if y118.length < 3518437208883 then (bailiwickref10_Spans.l0 kj12 l0 (y118 ++ [(⟨((rd_T32 l0 x4_1).f2), ((rd_T32 l0 x4_1).f3), ((rd_T32 l0 x4_1).f4), ((rd_T32 l0 x4_1).f1), 0, true⟩ : S61)]) (wrap64 (x4_1 + 1))) else (none)) else (bailiwickref10_Spans.l0 kj12 l0 y118 (wrap64 (x4_1 + 1)))))) else (none)) else (none)) = some r := by rw [if_pos rfl] at H; exact H
                        clear H
                        have H := H1
                        clear H1
                        by_cases c20 : 0 ≤ t115
                        · rw [if_pos c20] at H
                          have c20b0 : decide (0 ≤ t115) = true := decide_eq_true c20
                          clear c20
                          by_cases c21 : t115 < (x3_1.length : Int)
                          · rw [if_pos c21] at H
                            have c21b0 : decide (t115 < (x3_1.length : Int)) = true := decide_eq_true c21
                            clear c21
                            obtain ⟨ji22, hji22⟩ : ∃ j_ : Int, (mx (wrap64 (((rd_T32 l0 x4_1).f1) - 1)) ((rd_T61 x3_1 t115).f3)) = j_ := ⟨_, rfl⟩
                            replace H : ((some (x3_1.set (t115 : Int).toNat (⟨(rd_T61 x3_1 t115).f0, (rd_T61 x3_1 t115).f1, (rd_T61 x3_1 t115).f2, (rd_T61 x3_1 t115).f3, ji22, (rd_T61 x3_1 t115).f5⟩ : S61) : List (S61))).bind fun y117 => ((some (y117.set (t115 : Int).toNat (⟨(rd_T61 y117 t115).f0, (rd_T61 y117 t115).f1, (rd_T61 y117 t115).f2, (rd_T61 y117 t115).f3, (rd_T61 y117 t115).f4, false⟩ : S61) : List (S61))).bind fun y118 => (if ((rd_T32 l0 x4_1).f0) = 2 then (if y118.length < 3518437208883 then (bailiwickref10_Spans.l0 kj12 l0 (y118 ++ [(⟨((rd_T32 l0 x4_1).f2), ((rd_T32 l0 x4_1).f3), ((rd_T32 l0 x4_1).f4), ((rd_T32 l0 x4_1).f1), 0, true⟩ : S61)]) (wrap64 (x4_1 + 1))) else (none)) else (bailiwickref10_Spans.l0 kj12 l0 y118 (wrap64 (x4_1 + 1)))))) = some r := by first | (rw [hji22] at H; exact H) | (simp only [hji22] at H ⊢; exact H)
                            have hji22_ : (if (wrap64 (((rd_T32 l0 x4_1).f1) - 1)) < ((rd_T61 x3_1 t115).f3) then ((rd_T61 x3_1 t115).f3) else (wrap64 (((rd_T32 l0 x4_1).f1) - 1))) = ji22 := hji22
                            obtain ⟨y117, hy117⟩ : ∃ y_ : List (S61), y_ = (x3_1.set (t115 : Int).toNat (⟨(rd_T61 x3_1 t115).f0, (rd_T61 x3_1 t115).f1, (rd_T61 x3_1 t115).f2, (rd_T61 x3_1 t115).f3, ji22, (rd_T61 x3_1 t115).f5⟩ : S61)) := ⟨_, rfl⟩
                            replace H : ((some (y117.set (t115 : Int).toNat (⟨(rd_T61 y117 t115).f0, (rd_T61 y117 t115).f1, (rd_T61 y117 t115).f2, (rd_T61 y117 t115).f3, (rd_T61 y117 t115).f4, false⟩ : S61) : List (S61))).bind fun y118 => (if ((rd_T32 l0 x4_1).f0) = 2 then (if y118.length < 3518437208883 then (bailiwickref10_Spans.l0 kj12 l0 (y118 ++ [(⟨((rd_T32 l0 x4_1).f2), ((rd_T32 l0 x4_1).f3), ((rd_T32 l0 x4_1).f4), ((rd_T32 l0 x4_1).f1), 0, true⟩ : S61)]) (wrap64 (x4_1 + 1))) else (none)) else (bailiwickref10_Spans.l0 kj12 l0 y118 (wrap64 (x4_1 + 1))))) = some r := by first | (rw [hy117]; with_reducible exact H) | (have H2_ := (Option.bind_some _ _).symm.trans H; rw [hy117]; with_reducible exact H2_) | (have H2_ := (Option.bind_some _ _).symm.trans H; with_reducible exact H2_) | with_reducible exact H | (rw [hy117]; exact H) | exact H
                            have Ny117 := Aside0.mk hy117
                            clear hy117
                            obtain ⟨y118, hy118⟩ : ∃ y_ : List (S61), y_ = (y117.set (t115 : Int).toNat (⟨(rd_T61 y117 t115).f0, (rd_T61 y117 t115).f1, (rd_T61 y117 t115).f2, (rd_T61 y117 t115).f3, (rd_T61 y117 t115).f4, false⟩ : S61)) := ⟨_, rfl⟩
                            replace H : (if ((rd_T32 l0 x4_1).f0) = 2 then (if y118.length < 3518437208883 then (bailiwickref10_Spans.l0 kj12 l0 (y118 ++ [(⟨((rd_T32 l0 x4_1).f2), ((rd_T32 l0 x4_1).f3), ((rd_T32 l0 x4_1).f4), ((rd_T32 l0 x4_1).f1), 0, true⟩ : S61)]) (wrap64 (x4_1 + 1))) else (none)) else (bailiwickref10_Spans.l0 kj12 l0 y118 (wrap64 (x4_1 + 1)))) = some r := by first | (rw [hy118]; with_reducible exact H) | (have H2_ := (Option.bind_some _ _).symm.trans H; rw [hy118]; with_reducible exact H2_) | (have H2_ := (Option.bind_some _ _).symm.trans H; with_reducible exact H2_) | with_reducible exact H | (rw [hy118]; exact H) | exact H
                            have Ny118 := Aside0.mk hy118
                            clear hy118
                            by_cases c25 : ((rd_T32 l0 x4_1).f0) = 2
                            · rw [if_pos c25] at H
                              have c25b0 : (((rd_T32 l0 x4_1).f0) == 2) = true := beq_iff_eq.mpr c25
                              have c25b1 : (((rd_T32 l0 x4_1).f0) != 2) = false := bne_eq_false_iff_eq.mpr c25
                              clear c25
                              by_cases c26 : y118.length < 3518437208883
                              · rw [if_pos c26] at H
                                have LMc26 := Aside0.mk c26
                                clear c26
                                obtain ⟨y119, hy119⟩ : ∃ y_ : List (S61), y_ = (y118 ++ [(⟨((rd_T32 l0 x4_1).f2), ((rd_T32 l0 x4_1).f3), ((rd_T32 l0 x4_1).f4), ((rd_T32 l0 x4_1).f1), 0, true⟩ : S61)]) := ⟨_, rfl⟩
                                replace H : (bailiwickref10_Spans.l0 kj12 l0 y119 (wrap64 (x4_1 + 1))) = some r := by first | (rw [hy119]; with_reducible exact H) | (have H2_ := (Option.bind_some _ _).symm.trans H; rw [hy119]; with_reducible exact H2_) | (have H2_ := (Option.bind_some _ _).symm.trans H; with_reducible exact H2_) | with_reducible exact H | (rw [hy119]; exact H) | exact H
                                have Ny119 := Aside0.mk hy119
                                clear hy119
                                have H' := Aside0.mk H
                                clear H
                                have p116 : 0 ≤ (t115 : Int) := of_decide_eq_true (by first | (with_reducible assumption) | assumption)
                                have q116 : t115 < (x3_1.length : Int) := of_decide_eq_true (by first | (with_reducible assumption) | assumption)
                                obtain ⟨ad116, e116, hx116_0, hx116_1, hx116_2, hx116_3, hx116_4, hx116_5⟩ := at_T61 (Kd.R_reads' HO_3.out).2.2 t115 p116 q116
                                cases e116
                                replace p116 := eq_true p116
                                replace q116 := eq_true q116
                                have p23 : 0 ≤ (t115 : Int) := of_decide_eq_true (by first | (with_reducible assumption) | assumption)
                                have q23 : (t115 : Int) < ((x3_1.length : Int) : Int) := of_decide_eq_true (by first | (with_reducible assumption) | assumption)
                                obtain ⟨go23, co23, eo23, gb23, gl23, cl23, HG23⟩ := Kd.R_form HO_3.out (by omega)
                                (first | cases eo23 | (injection eo23 with ea_ en_ ec_; (first | subst ea_ | (injection ea_ with ea_; subst ea_)); subst ec_; clear en_))
                                have GB23 := Aside0.mk gb23
                                have GG23 := Aside0.mk HG23
                                clear gb23 gl23 HG23
                                (first | simp only [add_plain] at hx116_0 | skip)
                                (first | simp only [add_plain] at hx116_1 | skip)
                                (first | simp only [add_plain] at hx116_2 | skip)
                                (first | simp only [add_plain] at hx116_3 | skip)
                                (first | simp only [add_plain] at hx116_4 | skip)
                                (first | simp only [add_plain] at hx116_5 | skip)
                                obtain ⟨ce23, hcl23, hM23, hcc23, hfr23⟩ := Kd.R_elem HO_3.out z61 (t115 : Int) p23 q23
                                obtain rfl := k61_openM hM23
                                have hx23_0 : wc.cell? ⟨go23, (t115 : Int).toNat * 6, none⟩ = some (.int .u32 ((rd_T61 x3_1 t115).f0)) := hcc23 0 _ rfl
                                have hx23_1 : wc.cell? ⟨go23, (t115 : Int).toNat * 6 + 1, none⟩ = some (.int .u32 ((rd_T61 x3_1 t115).f1)) := hcc23 1 _ rfl
                                have hx23_2 : wc.cell? ⟨go23, (t115 : Int).toNat * 6 + 2, none⟩ = some (.int .i64 ((rd_T61 x3_1 t115).f2)) := hcc23 2 _ rfl
                                have hx23_3 : wc.cell? ⟨go23, (t115 : Int).toNat * 6 + 3, none⟩ = some (.int .i64 ((rd_T61 x3_1 t115).f3)) := hcc23 3 _ rfl
                                have hx23_4 : wc.cell? ⟨go23, (t115 : Int).toNat * 6 + 4, none⟩ = some (.int .i64 ((rd_T61 x3_1 t115).f4)) := hcc23 4 _ rfl
                                have hx23_5 : wc.cell? ⟨go23, (t115 : Int).toNat * 6 + 5, none⟩ = some (.bool ((rd_T61 x3_1 t115).f5)) := hcc23 5 _ rfl
                                have hf23_0 : wc.frozen? ⟨go23, (t115 : Int).toNat * 6, none⟩ = false := hfr23 0
                                have hf23_1 : wc.frozen? ⟨go23, (t115 : Int).toNat * 6 + 1, none⟩ = false := hfr23 1
                                have hf23_2 : wc.frozen? ⟨go23, (t115 : Int).toNat * 6 + 2, none⟩ = false := hfr23 2
                                have hf23_3 : wc.frozen? ⟨go23, (t115 : Int).toNat * 6 + 3, none⟩ = false := hfr23 3
                                have hf23_4 : wc.frozen? ⟨go23, (t115 : Int).toNat * 6 + 4, none⟩ = false := hfr23 4
                                have hf23_5 : wc.frozen? ⟨go23, (t115 : Int).toNat * 6 + 5, none⟩ = false := hfr23 5
                                clear hcl23 hcc23 hfr23 hM23
                                replace p23 := eq_true p23
                                replace q23 := eq_true q23
                                have HX27 := Aside0.mk (show Kd.R k61 61 wc w.heap.size (fun _ => True) (.slice (some ⟨go23, 0, none⟩) x3_1.length co15) x3_1 from (by (with_reducible repeat (first | apply Kd.R_alloc | apply Kd.R_drewN | apply Kd.R_drew)); exact HO_3.out))
                                obtain ⟨ce27, hcl27, hM27, hcc27, hfr27⟩ := Kd.R_elem HX27.out z61 (t115 : Int) (of_decide_eq_true (by first | (with_reducible assumption) | assumption)) (by have h_ : (t115 : Int) < ((x3_1.length : Int) : Int) := of_decide_eq_true (by first | (with_reducible assumption) | assumption); first | exact h_ | (have e_ := (Kd.R_reads' HO_3.out).1; omega) | simpa using h_)
                                obtain rfl := k61_openM hM27
                                have HP27 := Kd.R_seg HX27.out (t115 : Int) (of_decide_eq_true (by first | (with_reducible assumption) | assumption)) (by have h_ : (t115 : Int) < ((x3_1.length : Int) : Int) := of_decide_eq_true (by first | (with_reducible assumption) | assumption); first | exact h_ | (have e_ := (Kd.R_reads' HO_3.out).1; omega) | simpa using h_) (seg := [.int .i64 ji22]) (j := 4) hcl27 hcc27 (show 5 ≤ 6 from by decide) (x' := (⟨(rd_T61 x3_1 t115).f0, (rd_T61 x3_1 t115).f1, (rd_T61 x3_1 t115).f2, (rd_T61 x3_1 t115).f3, ji22, (rd_T61 x3_1 t115).f5⟩ : S61)) (k61_mkM _ _ _ (⟨(rd_T61 x3_1 t115).f0, (rd_T61 x3_1 t115).f1, (rd_T61 x3_1 t115).f2, (rd_T61 x3_1 t115).f3, ji22, (rd_T61 x3_1 t115).f5⟩ : S61) ) (fun _ hk => hk)
                                have hx27_4 := hcc27 4 _ rfl
                                (try simp only [show (k61).sz = 6 from rfl, Nat.mul_one, Nat.add_zero] at hx27_4)
                                have hf27_4 := hfr27 4
                                (try simp only [show (k61).sz = 6 from rfl, Nat.mul_one, Nat.add_zero] at hf27_4)
                                clear hcl27 hcc27 hfr27 hM27
                                go_wp2_with (first | ((with_reducible refine gate_store (t := 2) (p := 55) rfl ?_); refine store_event (t := 2) (p := 55) (v := ?vo_w28) (w1 := (wc.setCell ⟨go23, (t115 : Int).toNat * 6 + 4, none⟩ (.int .i64 ji22))) ?hg ?ho ?hn ?hr ?_; (case ho => rfl); (case hg => rfl); (case hn => rfl); (case hr => first | (go_simp; done) | (go_simp; rfl)); intro w28 hw; have hg : wc.grownBy w28 (some go23) := (by rw [hw]; exact HP27.2); have hp_ : Kd.R k61 61 w28 w.heap.size (fun _ => True) (.slice (some ⟨go23, 0, none⟩) x3_1.length co15) y117 := (by rw [hw, Ny117.out]; exact HP27.1); clear HP27; have n0_ := Aside0.mk (hp_); have n1_ := Aside0.mk (blk_grown (g := gb114) (o := .cells #[.int .i64 ((rd_T32 l0 x4_1).f0), .int .i64 ((rd_T32 l0 x4_1).f1), .int .u32 ((rd_T32 l0 x4_1).f2), .int .u32 ((rd_T32 l0 x4_1).f3), .int .i64 ((rd_T32 l0 x4_1).f4)] 32 (0, 0)) (by (with_reducible repeat (first | refine blk_drewN ?_ _ | refine blk_drew ?_ | refine blk_alloc ?_ _)); exact BK114.out) hg (Kd.R_ne HO_3.out BK114.out (by decide))); have n2_ := Aside0.mk ((by rw [hw]; exact below_set (HB.out) GB23.out : Below w.heap.size w w28)); clear HO_3; clear BK114; clear HB; have HO_3 := n0_; have BK114 := n1_; have HB := n2_; clear n0_ n1_ n2_; clear hg hw hp_; have p24 : 0 ≤ (t115 : Int) := of_decide_eq_true (by first | (with_reducible assumption) | assumption); have q24 : (t115 : Int) < ((x3_1.length : Int) : Int) := of_decide_eq_true (by first | (with_reducible assumption) | assumption); obtain ⟨ce24, hcl24, hM24, hcc24, hfr24⟩ := Kd.R_elem HO_3.out z61 (t115 : Int) p24 q24; obtain rfl := k61_openM hM24; have hx24_0 : w28.cell? ⟨go23, (t115 : Int).toNat * 6, none⟩ = some (.int .u32 ((rd_T61 y117 t115).f0)) := hcc24 0 _ rfl; have hx24_1 : w28.cell? ⟨go23, (t115 : Int).toNat * 6 + 1, none⟩ = some (.int .u32 ((rd_T61 y117 t115).f1)) := hcc24 1 _ rfl; have hx24_2 : w28.cell? ⟨go23, (t115 : Int).toNat * 6 + 2, none⟩ = some (.int .i64 ((rd_T61 y117 t115).f2)) := hcc24 2 _ rfl; have hx24_3 : w28.cell? ⟨go23, (t115 : Int).toNat * 6 + 3, none⟩ = some (.int .i64 ((rd_T61 y117 t115).f3)) := hcc24 3 _ rfl; have hx24_4 : w28.cell? ⟨go23, (t115 : Int).toNat * 6 + 4, none⟩ = some (.int .i64 ((rd_T61 y117 t115).f4)) := hcc24 4 _ rfl; have hx24_5 : w28.cell? ⟨go23, (t115 : Int).toNat * 6 + 5, none⟩ = some (.bool ((rd_T61 y117 t115).f5)) := hcc24 5 _ rfl; have hf24_0 : w28.frozen? ⟨go23, (t115 : Int).toNat * 6, none⟩ = false := hfr24 0; have hf24_1 : w28.frozen? ⟨go23, (t115 : Int).toNat * 6 + 1, none⟩ = false := hfr24 1; have hf24_2 : w28.frozen? ⟨go23, (t115 : Int).toNat * 6 + 2, none⟩ = false := hfr24 2; have hf24_3 : w28.frozen? ⟨go23, (t115 : Int).toNat * 6 + 3, none⟩ = false := hfr24 3; have hf24_4 : w28.frozen? ⟨go23, (t115 : Int).toNat * 6 + 4, none⟩ = false := hfr24 4; have hf24_5 : w28.frozen? ⟨go23, (t115 : Int).toNat * 6 + 5, none⟩ = false := hfr24 5; clear hcl24 hcc24 hfr24 hM24; replace p24 := eq_true p24; replace q24 := eq_true q24; have HX29 := Aside0.mk (show Kd.R k61 61 w28 w.heap.size (fun _ => True) (.slice (some ⟨go23, 0, none⟩) x3_1.length co15) y117 from (by (with_reducible repeat (first | apply Kd.R_alloc | apply Kd.R_drewN | apply Kd.R_drew)); exact HO_3.out)); obtain ⟨ce29, hcl29, hM29, hcc29, hfr29⟩ := Kd.R_elem HX29.out z61 (t115 : Int) (of_decide_eq_true (by first | (with_reducible assumption) | assumption)) (by have h_ : (t115 : Int) < ((x3_1.length : Int) : Int) := of_decide_eq_true (by first | (with_reducible assumption) | assumption); first | exact h_ | (have e_ := (Kd.R_reads' HO_3.out).1; omega) | simpa using h_); obtain rfl := k61_openM hM29; have HP29 := Kd.R_seg HX29.out (t115 : Int) (of_decide_eq_true (by first | (with_reducible assumption) | assumption)) (by have h_ : (t115 : Int) < ((x3_1.length : Int) : Int) := of_decide_eq_true (by first | (with_reducible assumption) | assumption); first | exact h_ | (have e_ := (Kd.R_reads' HO_3.out).1; omega) | simpa using h_) (seg := [.bool false]) (j := 5) hcl29 hcc29 (show 6 ≤ 6 from by decide) (x' := (⟨(rd_T61 y117 t115).f0, (rd_T61 y117 t115).f1, (rd_T61 y117 t115).f2, (rd_T61 y117 t115).f3, (rd_T61 y117 t115).f4, false⟩ : S61)) (k61_mkM _ _ _ (⟨(rd_T61 y117 t115).f0, (rd_T61 y117 t115).f1, (rd_T61 y117 t115).f2, (rd_T61 y117 t115).f3, (rd_T61 y117 t115).f4, false⟩ : S61) ) (fun _ hk => hk); have hx29_5 := hcc29 5 _ rfl; (try simp only [show (k61).sz = 6 from rfl, Nat.mul_one, Nat.add_zero] at hx29_5); have hf29_5 := hfr29 5; (try simp only [show (k61).sz = 6 from rfl, Nat.mul_one, Nat.add_zero] at hf29_5); clear hcl29 hcc29 hfr29 hM29) | ((with_reducible refine gate_store (t := 4) (p := 59) rfl ?_); refine store_event (t := 4) (p := 59) (v := ?vo_w30) (w1 := (w28.setCell ⟨go23, (t115 : Int).toNat * 6 + 5, none⟩ (.bool false))) ?hg ?ho ?hn ?hr ?_; (case ho => rfl); (case hg => rfl); (case hn => rfl); (case hr => first | (go_simp; done) | (go_simp; rfl)); intro w30 hw; have hg : w28.grownBy w30 (some go23) := (by rw [hw]; exact HP29.2); have hp_ : Kd.R k61 61 w30 w.heap.size (fun _ => True) (.slice (some ⟨go23, 0, none⟩) x3_1.length co15) y118 := (by rw [hw, Ny118.out]; exact HP29.1); clear HP29; have n0_ := Aside0.mk (hp_); have n1_ := Aside0.mk (blk_grown (g := gb114) (o := .cells #[.int .i64 ((rd_T32 l0 x4_1).f0), .int .i64 ((rd_T32 l0 x4_1).f1), .int .u32 ((rd_T32 l0 x4_1).f2), .int .u32 ((rd_T32 l0 x4_1).f3), .int .i64 ((rd_T32 l0 x4_1).f4)] 32 (0, 0)) (by (with_reducible repeat (first | refine blk_drewN ?_ _ | refine blk_drew ?_ | refine blk_alloc ?_ _)); exact BK114.out) hg (Kd.R_ne HO_3.out BK114.out (by decide))); have n2_ := Aside0.mk ((by rw [hw]; exact below_set (HB.out) GB23.out : Below w.heap.size w w30)); clear HO_3; clear BK114; clear HB; have HO_3 := n0_; have BK114 := n1_; have HB := n2_; clear n0_ n1_ n2_; clear hg hw hp_; have hcz31_0 : w30.cell? ⟨gb114, 0, none⟩ = some (.int .i64 ((rd_T32 l0 x4_1).f0)) := (blk_cell BK114.out 0).trans rfl; have hcz31_1 : w30.cell? ⟨gb114, 1, none⟩ = some (.int .i64 ((rd_T32 l0 x4_1).f1)) := (blk_cell BK114.out 1).trans rfl; have hcz31_2 : w30.cell? ⟨gb114, 2, none⟩ = some (.int .u32 ((rd_T32 l0 x4_1).f2)) := (blk_cell BK114.out 2).trans rfl; have hcz31_3 : w30.cell? ⟨gb114, 3, none⟩ = some (.int .u32 ((rd_T32 l0 x4_1).f3)) := (blk_cell BK114.out 3).trans rfl; have hcz31_4 : w30.cell? ⟨gb114, 4, none⟩ = some (.int .i64 ((rd_T32 l0 x4_1).f4)) := (blk_cell BK114.out 4).trans rfl; have hfz31_0 := blk_frozen BK114.out 0; have hfz31_1 := blk_frozen BK114.out 1; have hfz31_2 := blk_frozen BK114.out 2; have hfz31_3 := blk_frozen BK114.out 3; have hfz31_4 := blk_frozen BK114.out 4) | ((with_reducible refine gate_builtin (b := .append) (xs := #[.tmp 63, .tmp 73]) rfl ?_); at_builtin; refine Kd.R_append k61 (w0 := w) w.heap.size rfl (.tmp 63) (.tmp 73) 26 61 (.agg #[(.int .u32 0), (.int .u32 0), (.int .i64 0), (.int .i64 0), (.int .i64 0), (.bool false)]) 40 rfl Try.underlying26 info61 rfl (by decide) (by omega) (.slice (some ⟨go23, 0, none⟩) x3_1.length co15) y118 (⟨((rd_T32 l0 x4_1).f2), ((rd_T32 l0 x4_1).f3), ((rd_T32 l0 x4_1).f4), ((rd_T32 l0 x4_1).f1), 0, true⟩ : S61) [.int .u32 ((rd_T32 l0 x4_1).f2), .int .u32 ((rd_T32 l0 x4_1).f3), .int .i64 ((rd_T32 l0 x4_1).f4), .int .i64 ((rd_T32 l0 x4_1).f1), .int .i64 0, .bool true] (fun _ => True) (fun _ => False) rfl rfl ?aP (fun _ hk => hk.elim) ?aF ?aO ?aB ?aS ?aL ?_; (case aP => exact k61_mkM _ _ _ (⟨((rd_T32 l0 x4_1).f2), ((rd_T32 l0 x4_1).f3), ((rd_T32 l0 x4_1).f4), ((rd_T32 l0 x4_1).f1), 0, true⟩ : S61)); (case aB => exact (by repeat (first | (with_reducible first | exact HB.out | apply below_alloc | apply pw_below_drewN | apply below_drew1 | refine below_set ?_ GE114.out) | exact HB.out))); (case aF => exact (fun _ _ => trivial)); (case aO => exact (by (with_reducible repeat (first | apply Kd.R_alloc | apply Kd.R_drewN | apply Kd.R_drew)); exact HO_3.out)); (case aS => exact (below_size (by repeat (first | (with_reducible first | exact HB.out | apply below_alloc | apply pw_below_drewN | apply below_drew1 | refine below_set ?_ GE114.out) | exact HB.out)))); (case aL => have := LMc26.out; omega); intro v120 w32 ho hb hg hat; rw [← Ny119.out] at ho; have n0_ := Aside0.mk (blk_grown (g := gb114) (o := .cells #[.int .i64 ((rd_T32 l0 x4_1).f0), .int .i64 ((rd_T32 l0 x4_1).f1), .int .u32 ((rd_T32 l0 x4_1).f2), .int .u32 ((rd_T32 l0 x4_1).f3), .int .i64 ((rd_T32 l0 x4_1).f4)] 32 (0, 0)) (by (with_reducible repeat (first | refine blk_drewN ?_ _ | refine blk_drew ?_ | refine blk_alloc ?_ _)); exact BK114.out) hg (Kd.R_ne HO_3.out BK114.out (by decide))); have n1_ := Aside0.mk (hb); have n2_ := Aside0.mk (ho); clear BK114; clear HB; clear HO_3; have BK114 := n0_; have HB := n1_; have HO121 := n2_; clear n0_ n1_ n2_; clear ho hb hg hat))
                                go_roundg kj12
                                case measure => have := HK1.out; have := HJ3.out; have := HJ12.out; omega
                                case rel => exact ⟨(y119), (wrap64 (x4_1 + 1)), (by first | rfl | (simp; done) | (simp [*]; done)), H', ⟨by have := HK1.out; have := HJ3.out; have := HJ12.out; omega⟩, ⟨by (with_reducible repeat (first | apply Kd.R_alloc | apply Kd.R_drewN | apply Kd.R_drew)); exact HO121.out⟩, ⟨by repeat (first | (with_reducible first | exact HB.out | apply below_alloc | apply pw_below_drewN | apply below_drew1 | refine below_set ?_ GE114.out) | exact HB.out)⟩⟩
                              · rw [if_neg c26] at H
                                exact absurd H (by simp)
                            · rw [if_neg c25] at H
                              have c25b0 : (((rd_T32 l0 x4_1).f0) == 2) = false := beq_eq_false_iff_ne.mpr c25
                              have c25b1 : (((rd_T32 l0 x4_1).f0) != 2) = true := bne_iff_ne.mpr c25
                              have H' := Aside0.mk H
                              clear H
                              have p116 : 0 ≤ (t115 : Int) := of_decide_eq_true (by first | (with_reducible assumption) | assumption)
                              have q116 : t115 < (x3_1.length : Int) := of_decide_eq_true (by first | (with_reducible assumption) | assumption)
                              obtain ⟨ad116, e116, hx116_0, hx116_1, hx116_2, hx116_3, hx116_4, hx116_5⟩ := at_T61 (Kd.R_reads' HO_3.out).2.2 t115 p116 q116
                              cases e116
                              replace p116 := eq_true p116
                              replace q116 := eq_true q116
                              have p23 : 0 ≤ (t115 : Int) := of_decide_eq_true (by first | (with_reducible assumption) | assumption)
                              have q23 : (t115 : Int) < ((x3_1.length : Int) : Int) := of_decide_eq_true (by first | (with_reducible assumption) | assumption)
                              obtain ⟨go23, co23, eo23, gb23, gl23, cl23, HG23⟩ := Kd.R_form HO_3.out (by omega)
                              (first | cases eo23 | (injection eo23 with ea_ en_ ec_; (first | subst ea_ | (injection ea_ with ea_; subst ea_)); subst ec_; clear en_))
                              have GB23 := Aside0.mk gb23
                              have GG23 := Aside0.mk HG23
                              clear gb23 gl23 HG23
                              (first | simp only [add_plain] at hx116_0 | skip)
                              (first | simp only [add_plain] at hx116_1 | skip)
                              (first | simp only [add_plain] at hx116_2 | skip)
                              (first | simp only [add_plain] at hx116_3 | skip)
                              (first | simp only [add_plain] at hx116_4 | skip)
                              (first | simp only [add_plain] at hx116_5 | skip)
                              obtain ⟨ce23, hcl23, hM23, hcc23, hfr23⟩ := Kd.R_elem HO_3.out z61 (t115 : Int) p23 q23
                              obtain rfl := k61_openM hM23
                              have hx23_0 : wc.cell? ⟨go23, (t115 : Int).toNat * 6, none⟩ = some (.int .u32 ((rd_T61 x3_1 t115).f0)) := hcc23 0 _ rfl
                              have hx23_1 : wc.cell? ⟨go23, (t115 : Int).toNat * 6 + 1, none⟩ = some (.int .u32 ((rd_T61 x3_1 t115).f1)) := hcc23 1 _ rfl
                              have hx23_2 : wc.cell? ⟨go23, (t115 : Int).toNat * 6 + 2, none⟩ = some (.int .i64 ((rd_T61 x3_1 t115).f2)) := hcc23 2 _ rfl
                              have hx23_3 : wc.cell? ⟨go23, (t115 : Int).toNat * 6 + 3, none⟩ = some (.int .i64 ((rd_T61 x3_1 t115).f3)) := hcc23 3 _ rfl
                              have hx23_4 : wc.cell? ⟨go23, (t115 : Int).toNat * 6 + 4, none⟩ = some (.int .i64 ((rd_T61 x3_1 t115).f4)) := hcc23 4 _ rfl
                              have hx23_5 : wc.cell? ⟨go23, (t115 : Int).toNat * 6 + 5, none⟩ = some (.bool ((rd_T61 x3_1 t115).f5)) := hcc23 5 _ rfl
                              have hf23_0 : wc.frozen? ⟨go23, (t115 : Int).toNat * 6, none⟩ = false := hfr23 0
                              have hf23_1 : wc.frozen? ⟨go23, (t115 : Int).toNat * 6 + 1, none⟩ = false := hfr23 1
                              have hf23_2 : wc.frozen? ⟨go23, (t115 : Int).toNat * 6 + 2, none⟩ = false := hfr23 2
                              have hf23_3 : wc.frozen? ⟨go23, (t115 : Int).toNat * 6 + 3, none⟩ = false := hfr23 3
                              have hf23_4 : wc.frozen? ⟨go23, (t115 : Int).toNat * 6 + 4, none⟩ = false := hfr23 4
                              have hf23_5 : wc.frozen? ⟨go23, (t115 : Int).toNat * 6 + 5, none⟩ = false := hfr23 5
                              clear hcl23 hcc23 hfr23 hM23
                              replace p23 := eq_true p23
                              replace q23 := eq_true q23
                              have HX33 := Aside0.mk (show Kd.R k61 61 wc w.heap.size (fun _ => True) (.slice (some ⟨go23, 0, none⟩) x3_1.length co15) x3_1 from (by (with_reducible repeat (first | apply Kd.R_alloc | apply Kd.R_drewN | apply Kd.R_drew)); exact HO_3.out))
                              obtain ⟨ce33, hcl33, hM33, hcc33, hfr33⟩ := Kd.R_elem HX33.out z61 (t115 : Int) (of_decide_eq_true (by first | (with_reducible assumption) | assumption)) (by have h_ : (t115 : Int) < ((x3_1.length : Int) : Int) := of_decide_eq_true (by first | (with_reducible assumption) | assumption); first | exact h_ | (have e_ := (Kd.R_reads' HO_3.out).1; omega) | simpa using h_)
                              obtain rfl := k61_openM hM33
                              have HP33 := Kd.R_seg HX33.out (t115 : Int) (of_decide_eq_true (by first | (with_reducible assumption) | assumption)) (by have h_ : (t115 : Int) < ((x3_1.length : Int) : Int) := of_decide_eq_true (by first | (with_reducible assumption) | assumption); first | exact h_ | (have e_ := (Kd.R_reads' HO_3.out).1; omega) | simpa using h_) (seg := [.int .i64 ji22]) (j := 4) hcl33 hcc33 (show 5 ≤ 6 from by decide) (x' := (⟨(rd_T61 x3_1 t115).f0, (rd_T61 x3_1 t115).f1, (rd_T61 x3_1 t115).f2, (rd_T61 x3_1 t115).f3, ji22, (rd_T61 x3_1 t115).f5⟩ : S61)) (k61_mkM _ _ _ (⟨(rd_T61 x3_1 t115).f0, (rd_T61 x3_1 t115).f1, (rd_T61 x3_1 t115).f2, (rd_T61 x3_1 t115).f3, ji22, (rd_T61 x3_1 t115).f5⟩ : S61) ) (fun _ hk => hk)
                              have hx33_4 := hcc33 4 _ rfl
                              (try simp only [show (k61).sz = 6 from rfl, Nat.mul_one, Nat.add_zero] at hx33_4)
                              have hf33_4 := hfr33 4
                              (try simp only [show (k61).sz = 6 from rfl, Nat.mul_one, Nat.add_zero] at hf33_4)
                              clear hcl33 hcc33 hfr33 hM33
                              go_wp2_with (first | ((with_reducible refine gate_store (t := 2) (p := 55) rfl ?_); refine store_event (t := 2) (p := 55) (v := ?vo_w34) (w1 := (wc.setCell ⟨go23, (t115 : Int).toNat * 6 + 4, none⟩ (.int .i64 ji22))) ?hg ?ho ?hn ?hr ?_; (case ho => rfl); (case hg => rfl); (case hn => rfl); (case hr => first | (go_simp; done) | (go_simp; rfl)); intro w34 hw; have hg : wc.grownBy w34 (some go23) := (by rw [hw]; exact HP33.2); have hp_ : Kd.R k61 61 w34 w.heap.size (fun _ => True) (.slice (some ⟨go23, 0, none⟩) x3_1.length co15) y117 := (by rw [hw, Ny117.out]; exact HP33.1); clear HP33; have n0_ := Aside0.mk (hp_); have n1_ := Aside0.mk (blk_grown (g := gb114) (o := .cells #[.int .i64 ((rd_T32 l0 x4_1).f0), .int .i64 ((rd_T32 l0 x4_1).f1), .int .u32 ((rd_T32 l0 x4_1).f2), .int .u32 ((rd_T32 l0 x4_1).f3), .int .i64 ((rd_T32 l0 x4_1).f4)] 32 (0, 0)) (by (with_reducible repeat (first | refine blk_drewN ?_ _ | refine blk_drew ?_ | refine blk_alloc ?_ _)); exact BK114.out) hg (Kd.R_ne HO_3.out BK114.out (by decide))); have n2_ := Aside0.mk ((by rw [hw]; exact below_set (HB.out) GB23.out : Below w.heap.size w w34)); clear HO_3; clear BK114; clear HB; have HO_3 := n0_; have BK114 := n1_; have HB := n2_; clear n0_ n1_ n2_; clear hg hw hp_; have p24 : 0 ≤ (t115 : Int) := of_decide_eq_true (by first | (with_reducible assumption) | assumption); have q24 : (t115 : Int) < ((x3_1.length : Int) : Int) := of_decide_eq_true (by first | (with_reducible assumption) | assumption); obtain ⟨ce24, hcl24, hM24, hcc24, hfr24⟩ := Kd.R_elem HO_3.out z61 (t115 : Int) p24 q24; obtain rfl := k61_openM hM24; have hx24_0 : w34.cell? ⟨go23, (t115 : Int).toNat * 6, none⟩ = some (.int .u32 ((rd_T61 y117 t115).f0)) := hcc24 0 _ rfl; have hx24_1 : w34.cell? ⟨go23, (t115 : Int).toNat * 6 + 1, none⟩ = some (.int .u32 ((rd_T61 y117 t115).f1)) := hcc24 1 _ rfl; have hx24_2 : w34.cell? ⟨go23, (t115 : Int).toNat * 6 + 2, none⟩ = some (.int .i64 ((rd_T61 y117 t115).f2)) := hcc24 2 _ rfl; have hx24_3 : w34.cell? ⟨go23, (t115 : Int).toNat * 6 + 3, none⟩ = some (.int .i64 ((rd_T61 y117 t115).f3)) := hcc24 3 _ rfl; have hx24_4 : w34.cell? ⟨go23, (t115 : Int).toNat * 6 + 4, none⟩ = some (.int .i64 ((rd_T61 y117 t115).f4)) := hcc24 4 _ rfl; have hx24_5 : w34.cell? ⟨go23, (t115 : Int).toNat * 6 + 5, none⟩ = some (.bool ((rd_T61 y117 t115).f5)) := hcc24 5 _ rfl; have hf24_0 : w34.frozen? ⟨go23, (t115 : Int).toNat * 6, none⟩ = false := hfr24 0; have hf24_1 : w34.frozen? ⟨go23, (t115 : Int).toNat * 6 + 1, none⟩ = false := hfr24 1; have hf24_2 : w34.frozen? ⟨go23, (t115 : Int).toNat * 6 + 2, none⟩ = false := hfr24 2; have hf24_3 : w34.frozen? ⟨go23, (t115 : Int).toNat * 6 + 3, none⟩ = false := hfr24 3; have hf24_4 : w34.frozen? ⟨go23, (t115 : Int).toNat * 6 + 4, none⟩ = false := hfr24 4; have hf24_5 : w34.frozen? ⟨go23, (t115 : Int).toNat * 6 + 5, none⟩ = false := hfr24 5; clear hcl24 hcc24 hfr24 hM24; replace p24 := eq_true p24; replace q24 := eq_true q24; have HX35 := Aside0.mk (show Kd.R k61 61 w34 w.heap.size (fun _ => True) (.slice (some ⟨go23, 0, none⟩) x3_1.length co15) y117 from (by (with_reducible repeat (first | apply Kd.R_alloc | apply Kd.R_drewN | apply Kd.R_drew)); exact HO_3.out)); obtain ⟨ce35, hcl35, hM35, hcc35, hfr35⟩ := Kd.R_elem HX35.out z61 (t115 : Int) (of_decide_eq_true (by first | (with_reducible assumption) | assumption)) (by have h_ : (t115 : Int) < ((x3_1.length : Int) : Int) := of_decide_eq_true (by first | (with_reducible assumption) | assumption); first | exact h_ | (have e_ := (Kd.R_reads' HO_3.out).1; omega) | simpa using h_); obtain rfl := k61_openM hM35; have HP35 := Kd.R_seg HX35.out (t115 : Int) (of_decide_eq_true (by first | (with_reducible assumption) | assumption)) (by have h_ : (t115 : Int) < ((x3_1.length : Int) : Int) := of_decide_eq_true (by first | (with_reducible assumption) | assumption); first | exact h_ | (have e_ := (Kd.R_reads' HO_3.out).1; omega) | simpa using h_) (seg := [.bool false]) (j := 5) hcl35 hcc35 (show 6 ≤ 6 from by decide) (x' := (⟨(rd_T61 y117 t115).f0, (rd_T61 y117 t115).f1, (rd_T61 y117 t115).f2, (rd_T61 y117 t115).f3, (rd_T61 y117 t115).f4, false⟩ : S61)) (k61_mkM _ _ _ (⟨(rd_T61 y117 t115).f0, (rd_T61 y117 t115).f1, (rd_T61 y117 t115).f2, (rd_T61 y117 t115).f3, (rd_T61 y117 t115).f4, false⟩ : S61) ) (fun _ hk => hk); have hx35_5 := hcc35 5 _ rfl; (try simp only [show (k61).sz = 6 from rfl, Nat.mul_one, Nat.add_zero] at hx35_5); have hf35_5 := hfr35 5; (try simp only [show (k61).sz = 6 from rfl, Nat.mul_one, Nat.add_zero] at hf35_5); clear hcl35 hcc35 hfr35 hM35) | ((with_reducible refine gate_store (t := 4) (p := 59) rfl ?_); refine store_event (t := 4) (p := 59) (v := ?vo_w36) (w1 := (w34.setCell ⟨go23, (t115 : Int).toNat * 6 + 5, none⟩ (.bool false))) ?hg ?ho ?hn ?hr ?_; (case ho => rfl); (case hg => rfl); (case hn => rfl); (case hr => first | (go_simp; done) | (go_simp; rfl)); intro w36 hw; have hg : w34.grownBy w36 (some go23) := (by rw [hw]; exact HP35.2); have hp_ : Kd.R k61 61 w36 w.heap.size (fun _ => True) (.slice (some ⟨go23, 0, none⟩) x3_1.length co15) y118 := (by rw [hw, Ny118.out]; exact HP35.1); clear HP35; have n0_ := Aside0.mk (hp_); have n1_ := Aside0.mk (blk_grown (g := gb114) (o := .cells #[.int .i64 ((rd_T32 l0 x4_1).f0), .int .i64 ((rd_T32 l0 x4_1).f1), .int .u32 ((rd_T32 l0 x4_1).f2), .int .u32 ((rd_T32 l0 x4_1).f3), .int .i64 ((rd_T32 l0 x4_1).f4)] 32 (0, 0)) (by (with_reducible repeat (first | refine blk_drewN ?_ _ | refine blk_drew ?_ | refine blk_alloc ?_ _)); exact BK114.out) hg (Kd.R_ne HO_3.out BK114.out (by decide))); have n2_ := Aside0.mk ((by rw [hw]; exact below_set (HB.out) GB23.out : Below w.heap.size w w36)); clear HO_3; clear BK114; clear HB; have HO_3 := n0_; have BK114 := n1_; have HB := n2_; clear n0_ n1_ n2_; clear hg hw hp_; have hcz37_0 : w36.cell? ⟨gb114, 0, none⟩ = some (.int .i64 ((rd_T32 l0 x4_1).f0)) := (blk_cell BK114.out 0).trans rfl; have hcz37_1 : w36.cell? ⟨gb114, 1, none⟩ = some (.int .i64 ((rd_T32 l0 x4_1).f1)) := (blk_cell BK114.out 1).trans rfl; have hcz37_2 : w36.cell? ⟨gb114, 2, none⟩ = some (.int .u32 ((rd_T32 l0 x4_1).f2)) := (blk_cell BK114.out 2).trans rfl; have hcz37_3 : w36.cell? ⟨gb114, 3, none⟩ = some (.int .u32 ((rd_T32 l0 x4_1).f3)) := (blk_cell BK114.out 3).trans rfl; have hcz37_4 : w36.cell? ⟨gb114, 4, none⟩ = some (.int .i64 ((rd_T32 l0 x4_1).f4)) := (blk_cell BK114.out 4).trans rfl; have hfz37_0 := blk_frozen BK114.out 0; have hfz37_1 := blk_frozen BK114.out 1; have hfz37_2 := blk_frozen BK114.out 2; have hfz37_3 := blk_frozen BK114.out 3; have hfz37_4 := blk_frozen BK114.out 4))
                              go_roundg kj12
                              case measure => have := HK1.out; have := HJ3.out; have := HJ12.out; omega
                              case rel => exact ⟨(y118), (wrap64 (x4_1 + 1)), (by first | rfl | (simp; done) | (simp [*]; done)), H', ⟨by have := HK1.out; have := HJ3.out; have := HJ12.out; omega⟩, ⟨by (with_reducible repeat (first | apply Kd.R_alloc | apply Kd.R_drewN | apply Kd.R_drew)); exact HO_3.out⟩, ⟨by repeat (first | (with_reducible first | exact HB.out | apply below_alloc | apply pw_below_drewN | apply below_drew1 | refine below_set ?_ GE114.out) | exact HB.out)⟩⟩
                          · rw [if_neg c21] at H
                            exact absurd H (by simp)
                        · rw [if_neg c20] at H
                          exact absurd H (by simp)
                      · replace c19 := Bool.eq_false_iff.mpr c19
                        subst c19
                        have H1 : (if 0 ≤ t115 then (if t115 < (x3_1.length : Int) then ((some (x3_1.set (t115 : Int).toNat (⟨(rd_T61 x3_1 t115).f0, (rd_T61 x3_1 t115).f1, (rd_T61 x3_1 t115).f2, (rd_T61 x3_1 t115).f3, mx ((rd_T32 l0 x4_1).f1) ((rd_T61 x3_1 t115).f3), (rd_T61 x3_1 t115).f5⟩ : S61) : List (S61))).bind fun y123 => ((some (y123.set (t115 : Int).toNat (⟨(rd_T61 y123 t115).f0, (rd_T61 y123 t115).f1, (rd_T61 y123 t115).f2, (rd_T61 y123 t115).f3, (rd_T61 y123 t115).f4, false⟩ : S61) : List (S61))).bind fun y124 => (if ((rd_T32 l0 x4_1).f0) = 2 then (if y124.length < 3518437208883 then (bailiwickref10_Spans.l0 kj12 l0 (y124 ++ [(⟨((rd_T32 l0 x4_1).f2), ((rd_T32 l0 x4_1).f3), ((rd_T32 l0 x4_1).f4), ((rd_T32 l0 x4_1).f1), 0, true⟩ : S61)]) (wrap64 (x4_1 + 1))) else (none)) else (bailiwickref10_Spans.l0 kj12 l0 y124 (wrap64 (x4_1 + 1)))))) else (none)) else (none)) = some r := by rw [if_neg (show ¬ (false = true) by decide)] at H; exact H
                        clear H
                        have H := H1
                        clear H1
                        by_cases c38 : 0 ≤ t115
                        · rw [if_pos c38] at H
                          have c38b0 : decide (0 ≤ t115) = true := decide_eq_true c38
                          clear c38
                          by_cases c39 : t115 < (x3_1.length : Int)
                          · rw [if_pos c39] at H
                            have c39b0 : decide (t115 < (x3_1.length : Int)) = true := decide_eq_true c39
                            clear c39
                            obtain ⟨ji40, hji40⟩ : ∃ j_ : Int, (mx ((rd_T32 l0 x4_1).f1) ((rd_T61 x3_1 t115).f3)) = j_ := ⟨_, rfl⟩
                            replace H : ((some (x3_1.set (t115 : Int).toNat (⟨(rd_T61 x3_1 t115).f0, (rd_T61 x3_1 t115).f1, (rd_T61 x3_1 t115).f2, (rd_T61 x3_1 t115).f3, ji40, (rd_T61 x3_1 t115).f5⟩ : S61) : List (S61))).bind fun y123 => ((some (y123.set (t115 : Int).toNat (⟨(rd_T61 y123 t115).f0, (rd_T61 y123 t115).f1, (rd_T61 y123 t115).f2, (rd_T61 y123 t115).f3, (rd_T61 y123 t115).f4, false⟩ : S61) : List (S61))).bind fun y124 => (if ((rd_T32 l0 x4_1).f0) = 2 then (if y124.length < 3518437208883 then (bailiwickref10_Spans.l0 kj12 l0 (y124 ++ [(⟨((rd_T32 l0 x4_1).f2), ((rd_T32 l0 x4_1).f3), ((rd_T32 l0 x4_1).f4), ((rd_T32 l0 x4_1).f1), 0, true⟩ : S61)]) (wrap64 (x4_1 + 1))) else (none)) else (bailiwickref10_Spans.l0 kj12 l0 y124 (wrap64 (x4_1 + 1)))))) = some r := by first | (rw [hji40] at H; exact H) | (simp only [hji40] at H ⊢; exact H)
                            have hji40_ : (if ((rd_T32 l0 x4_1).f1) < ((rd_T61 x3_1 t115).f3) then ((rd_T61 x3_1 t115).f3) else ((rd_T32 l0 x4_1).f1)) = ji40 := hji40
                            obtain ⟨y123, hy123⟩ : ∃ y_ : List (S61), y_ = (x3_1.set (t115 : Int).toNat (⟨(rd_T61 x3_1 t115).f0, (rd_T61 x3_1 t115).f1, (rd_T61 x3_1 t115).f2, (rd_T61 x3_1 t115).f3, ji40, (rd_T61 x3_1 t115).f5⟩ : S61)) := ⟨_, rfl⟩
                            replace H : ((some (y123.set (t115 : Int).toNat (⟨(rd_T61 y123 t115).f0, (rd_T61 y123 t115).f1, (rd_T61 y123 t115).f2, (rd_T61 y123 t115).f3, (rd_T61 y123 t115).f4, false⟩ : S61) : List (S61))).bind fun y124 => (if ((rd_T32 l0 x4_1).f0) = 2 then (if y124.length < 3518437208883 then (bailiwickref10_Spans.l0 kj12 l0 (y124 ++ [(⟨((rd_T32 l0 x4_1).f2), ((rd_T32 l0 x4_1).f3), ((rd_T32 l0 x4_1).f4), ((rd_T32 l0 x4_1).f1), 0, true⟩ : S61)]) (wrap64 (x4_1 + 1))) else (none)) else (bailiwickref10_Spans.l0 kj12 l0 y124 (wrap64 (x4_1 + 1))))) = some r := by first | (rw [hy123]; with_reducible exact H) | (have H2_ := (Option.bind_some _ _).symm.trans H; rw [hy123]; with_reducible exact H2_) | (have H2_ := (Option.bind_some _ _).symm.trans H; with_reducible exact H2_) | with_reducible exact H | (rw [hy123]; exact H) | exact H
                            have Ny123 := Aside0.mk hy123
                            clear hy123
                            obtain ⟨y124, hy124⟩ : ∃ y_ : List (S61), y_ = (y123.set (t115 : Int).toNat (⟨(rd_T61 y123 t115).f0, (rd_T61 y123 t115).f1, (rd_T61 y123 t115).f2, (rd_T61 y123 t115).f3, (rd_T61 y123 t115).f4, false⟩ : S61)) := ⟨_, rfl⟩
                            replace H : (if ((rd_T32 l0 x4_1).f0) = 2 then (if y124.length < 3518437208883 then (bailiwickref10_Spans.l0 kj12 l0 (y124 ++ [(⟨((rd_T32 l0 x4_1).f2), ((rd_T32 l0 x4_1).f3), ((rd_T32 l0 x4_1).f4), ((rd_T32 l0 x4_1).f1), 0, true⟩ : S61)]) (wrap64 (x4_1 + 1))) else (none)) else (bailiwickref10_Spans.l0 kj12 l0 y124 (wrap64 (x4_1 + 1)))) = some r := by first | (rw [hy124]; with_reducible exact H) | (have H2_ := (Option.bind_some _ _).symm.trans H; rw [hy124]; with_reducible exact H2_) | (have H2_ := (Option.bind_some _ _).symm.trans H; with_reducible exact H2_) | with_reducible exact H | (rw [hy124]; exact H) | exact H
                            have Ny124 := Aside0.mk hy124
                            clear hy124
                            by_cases c43 : ((rd_T32 l0 x4_1).f0) = 2
                            · rw [if_pos c43] at H
                              have c43b0 : (((rd_T32 l0 x4_1).f0) == 2) = true := beq_iff_eq.mpr c43
                              have c43b1 : (((rd_T32 l0 x4_1).f0) != 2) = false := bne_eq_false_iff_eq.mpr c43
                              clear c43
                              by_cases c44 : y124.length < 3518437208883
                              · rw [if_pos c44] at H
                                have LMc44 := Aside0.mk c44
                                clear c44
                                obtain ⟨y125, hy125⟩ : ∃ y_ : List (S61), y_ = (y124 ++ [(⟨((rd_T32 l0 x4_1).f2), ((rd_T32 l0 x4_1).f3), ((rd_T32 l0 x4_1).f4), ((rd_T32 l0 x4_1).f1), 0, true⟩ : S61)]) := ⟨_, rfl⟩
                                replace H : (bailiwickref10_Spans.l0 kj12 l0 y125 (wrap64 (x4_1 + 1))) = some r := by first | (rw [hy125]; with_reducible exact H) | (have H2_ := (Option.bind_some _ _).symm.trans H; rw [hy125]; with_reducible exact H2_) | (have H2_ := (Option.bind_some _ _).symm.trans H; with_reducible exact H2_) | with_reducible exact H | (rw [hy125]; exact H) | exact H
                                have Ny125 := Aside0.mk hy125
                                clear hy125
                                have H' := Aside0.mk H
                                clear H
                                have p122 : 0 ≤ (t115 : Int) := of_decide_eq_true (by first | (with_reducible assumption) | assumption)
                                have q122 : t115 < (x3_1.length : Int) := of_decide_eq_true (by first | (with_reducible assumption) | assumption)
                                obtain ⟨ad122, e122, hx122_0, hx122_1, hx122_2, hx122_3, hx122_4, hx122_5⟩ := at_T61 (Kd.R_reads' HO_3.out).2.2 t115 p122 q122
                                cases e122
                                replace p122 := eq_true p122
                                replace q122 := eq_true q122
                                have p41 : 0 ≤ (t115 : Int) := of_decide_eq_true (by first | (with_reducible assumption) | assumption)
                                have q41 : (t115 : Int) < ((x3_1.length : Int) : Int) := of_decide_eq_true (by first | (with_reducible assumption) | assumption)
                                obtain ⟨go41, co41, eo41, gb41, gl41, cl41, HG41⟩ := Kd.R_form HO_3.out (by omega)
                                (first | cases eo41 | (injection eo41 with ea_ en_ ec_; (first | subst ea_ | (injection ea_ with ea_; subst ea_)); subst ec_; clear en_))
                                have GB41 := Aside0.mk gb41
                                have GG41 := Aside0.mk HG41
                                clear gb41 gl41 HG41
                                (first | simp only [add_plain] at hx122_0 | skip)
                                (first | simp only [add_plain] at hx122_1 | skip)
                                (first | simp only [add_plain] at hx122_2 | skip)
                                (first | simp only [add_plain] at hx122_3 | skip)
                                (first | simp only [add_plain] at hx122_4 | skip)
                                (first | simp only [add_plain] at hx122_5 | skip)
                                obtain ⟨ce41, hcl41, hM41, hcc41, hfr41⟩ := Kd.R_elem HO_3.out z61 (t115 : Int) p41 q41
                                obtain rfl := k61_openM hM41
                                have hx41_0 : wc.cell? ⟨go41, (t115 : Int).toNat * 6, none⟩ = some (.int .u32 ((rd_T61 x3_1 t115).f0)) := hcc41 0 _ rfl
                                have hx41_1 : wc.cell? ⟨go41, (t115 : Int).toNat * 6 + 1, none⟩ = some (.int .u32 ((rd_T61 x3_1 t115).f1)) := hcc41 1 _ rfl
                                have hx41_2 : wc.cell? ⟨go41, (t115 : Int).toNat * 6 + 2, none⟩ = some (.int .i64 ((rd_T61 x3_1 t115).f2)) := hcc41 2 _ rfl
                                have hx41_3 : wc.cell? ⟨go41, (t115 : Int).toNat * 6 + 3, none⟩ = some (.int .i64 ((rd_T61 x3_1 t115).f3)) := hcc41 3 _ rfl
                                have hx41_4 : wc.cell? ⟨go41, (t115 : Int).toNat * 6 + 4, none⟩ = some (.int .i64 ((rd_T61 x3_1 t115).f4)) := hcc41 4 _ rfl
                                have hx41_5 : wc.cell? ⟨go41, (t115 : Int).toNat * 6 + 5, none⟩ = some (.bool ((rd_T61 x3_1 t115).f5)) := hcc41 5 _ rfl
                                have hf41_0 : wc.frozen? ⟨go41, (t115 : Int).toNat * 6, none⟩ = false := hfr41 0
                                have hf41_1 : wc.frozen? ⟨go41, (t115 : Int).toNat * 6 + 1, none⟩ = false := hfr41 1
                                have hf41_2 : wc.frozen? ⟨go41, (t115 : Int).toNat * 6 + 2, none⟩ = false := hfr41 2
                                have hf41_3 : wc.frozen? ⟨go41, (t115 : Int).toNat * 6 + 3, none⟩ = false := hfr41 3
                                have hf41_4 : wc.frozen? ⟨go41, (t115 : Int).toNat * 6 + 4, none⟩ = false := hfr41 4
                                have hf41_5 : wc.frozen? ⟨go41, (t115 : Int).toNat * 6 + 5, none⟩ = false := hfr41 5
                                clear hcl41 hcc41 hfr41 hM41
                                replace p41 := eq_true p41
                                replace q41 := eq_true q41
                                have HX45 := Aside0.mk (show Kd.R k61 61 wc w.heap.size (fun _ => True) (.slice (some ⟨go41, 0, none⟩) x3_1.length co15) x3_1 from (by (with_reducible repeat (first | apply Kd.R_alloc | apply Kd.R_drewN | apply Kd.R_drew)); exact HO_3.out))
                                obtain ⟨ce45, hcl45, hM45, hcc45, hfr45⟩ := Kd.R_elem HX45.out z61 (t115 : Int) (of_decide_eq_true (by first | (with_reducible assumption) | assumption)) (by have h_ : (t115 : Int) < ((x3_1.length : Int) : Int) := of_decide_eq_true (by first | (with_reducible assumption) | assumption); first | exact h_ | (have e_ := (Kd.R_reads' HO_3.out).1; omega) | simpa using h_)
                                obtain rfl := k61_openM hM45
                                have HP45 := Kd.R_seg HX45.out (t115 : Int) (of_decide_eq_true (by first | (with_reducible assumption) | assumption)) (by have h_ : (t115 : Int) < ((x3_1.length : Int) : Int) := of_decide_eq_true (by first | (with_reducible assumption) | assumption); first | exact h_ | (have e_ := (Kd.R_reads' HO_3.out).1; omega) | simpa using h_) (seg := [.int .i64 ji40]) (j := 4) hcl45 hcc45 (show 5 ≤ 6 from by decide) (x' := (⟨(rd_T61 x3_1 t115).f0, (rd_T61 x3_1 t115).f1, (rd_T61 x3_1 t115).f2, (rd_T61 x3_1 t115).f3, ji40, (rd_T61 x3_1 t115).f5⟩ : S61)) (k61_mkM _ _ _ (⟨(rd_T61 x3_1 t115).f0, (rd_T61 x3_1 t115).f1, (rd_T61 x3_1 t115).f2, (rd_T61 x3_1 t115).f3, ji40, (rd_T61 x3_1 t115).f5⟩ : S61) ) (fun _ hk => hk)
                                have hx45_4 := hcc45 4 _ rfl
                                (try simp only [show (k61).sz = 6 from rfl, Nat.mul_one, Nat.add_zero] at hx45_4)
                                have hf45_4 := hfr45 4
                                (try simp only [show (k61).sz = 6 from rfl, Nat.mul_one, Nat.add_zero] at hf45_4)
                                clear hcl45 hcc45 hfr45 hM45
                                go_wp2_with (first | ((with_reducible refine gate_store (t := 2) (p := 55) rfl ?_); refine store_event (t := 2) (p := 55) (v := ?vo_w46) (w1 := (wc.setCell ⟨go41, (t115 : Int).toNat * 6 + 4, none⟩ (.int .i64 ji40))) ?hg ?ho ?hn ?hr ?_; (case ho => rfl); (case hg => rfl); (case hn => rfl); (case hr => first | (go_simp; done) | (go_simp; rfl)); intro w46 hw; have hg : wc.grownBy w46 (some go41) := (by rw [hw]; exact HP45.2); have hp_ : Kd.R k61 61 w46 w.heap.size (fun _ => True) (.slice (some ⟨go41, 0, none⟩) x3_1.length co15) y123 := (by rw [hw, Ny123.out]; exact HP45.1); clear HP45; have n0_ := Aside0.mk (hp_); have n1_ := Aside0.mk (blk_grown (g := gb114) (o := .cells #[.int .i64 ((rd_T32 l0 x4_1).f0), .int .i64 ((rd_T32 l0 x4_1).f1), .int .u32 ((rd_T32 l0 x4_1).f2), .int .u32 ((rd_T32 l0 x4_1).f3), .int .i64 ((rd_T32 l0 x4_1).f4)] 32 (0, 0)) (by (with_reducible repeat (first | refine blk_drewN ?_ _ | refine blk_drew ?_ | refine blk_alloc ?_ _)); exact BK114.out) hg (Kd.R_ne HO_3.out BK114.out (by decide))); have n2_ := Aside0.mk ((by rw [hw]; exact below_set (HB.out) GB41.out : Below w.heap.size w w46)); clear HO_3; clear BK114; clear HB; have HO_3 := n0_; have BK114 := n1_; have HB := n2_; clear n0_ n1_ n2_; clear hg hw hp_; have p42 : 0 ≤ (t115 : Int) := of_decide_eq_true (by first | (with_reducible assumption) | assumption); have q42 : (t115 : Int) < ((x3_1.length : Int) : Int) := of_decide_eq_true (by first | (with_reducible assumption) | assumption); obtain ⟨ce42, hcl42, hM42, hcc42, hfr42⟩ := Kd.R_elem HO_3.out z61 (t115 : Int) p42 q42; obtain rfl := k61_openM hM42; have hx42_0 : w46.cell? ⟨go41, (t115 : Int).toNat * 6, none⟩ = some (.int .u32 ((rd_T61 y123 t115).f0)) := hcc42 0 _ rfl; have hx42_1 : w46.cell? ⟨go41, (t115 : Int).toNat * 6 + 1, none⟩ = some (.int .u32 ((rd_T61 y123 t115).f1)) := hcc42 1 _ rfl; have hx42_2 : w46.cell? ⟨go41, (t115 : Int).toNat * 6 + 2, none⟩ = some (.int .i64 ((rd_T61 y123 t115).f2)) := hcc42 2 _ rfl; have hx42_3 : w46.cell? ⟨go41, (t115 : Int).toNat * 6 + 3, none⟩ = some (.int .i64 ((rd_T61 y123 t115).f3)) := hcc42 3 _ rfl; have hx42_4 : w46.cell? ⟨go41, (t115 : Int).toNat * 6 + 4, none⟩ = some (.int .i64 ((rd_T61 y123 t115).f4)) := hcc42 4 _ rfl; have hx42_5 : w46.cell? ⟨go41, (t115 : Int).toNat * 6 + 5, none⟩ = some (.bool ((rd_T61 y123 t115).f5)) := hcc42 5 _ rfl; have hf42_0 : w46.frozen? ⟨go41, (t115 : Int).toNat * 6, none⟩ = false := hfr42 0; have hf42_1 : w46.frozen? ⟨go41, (t115 : Int).toNat * 6 + 1, none⟩ = false := hfr42 1; have hf42_2 : w46.frozen? ⟨go41, (t115 : Int).toNat * 6 + 2, none⟩ = false := hfr42 2; have hf42_3 : w46.frozen? ⟨go41, (t115 : Int).toNat * 6 + 3, none⟩ = false := hfr42 3; have hf42_4 : w46.frozen? ⟨go41, (t115 : Int).toNat * 6 + 4, none⟩ = false := hfr42 4; have hf42_5 : w46.frozen? ⟨go41, (t115 : Int).toNat * 6 + 5, none⟩ = false := hfr42 5; clear hcl42 hcc42 hfr42 hM42; replace p42 := eq_true p42; replace q42 := eq_true q42; have HX47 := Aside0.mk (show Kd.R k61 61 w46 w.heap.size (fun _ => True) (.slice (some ⟨go41, 0, none⟩) x3_1.length co15) y123 from (by (with_reducible repeat (first | apply Kd.R_alloc | apply Kd.R_drewN | apply Kd.R_drew)); exact HO_3.out)); obtain ⟨ce47, hcl47, hM47, hcc47, hfr47⟩ := Kd.R_elem HX47.out z61 (t115 : Int) (of_decide_eq_true (by first | (with_reducible assumption) | assumption)) (by have h_ : (t115 : Int) < ((x3_1.length : Int) : Int) := of_decide_eq_true (by first | (with_reducible assumption) | assumption); first | exact h_ | (have e_ := (Kd.R_reads' HO_3.out).1; omega) | simpa using h_); obtain rfl := k61_openM hM47; have HP47 := Kd.R_seg HX47.out (t115 : Int) (of_decide_eq_true (by first | (with_reducible assumption) | assumption)) (by have h_ : (t115 : Int) < ((x3_1.length : Int) : Int) := of_decide_eq_true (by first | (with_reducible assumption) | assumption); first | exact h_ | (have e_ := (Kd.R_reads' HO_3.out).1; omega) | simpa using h_) (seg := [.bool false]) (j := 5) hcl47 hcc47 (show 6 ≤ 6 from by decide) (x' := (⟨(rd_T61 y123 t115).f0, (rd_T61 y123 t115).f1, (rd_T61 y123 t115).f2, (rd_T61 y123 t115).f3, (rd_T61 y123 t115).f4, false⟩ : S61)) (k61_mkM _ _ _ (⟨(rd_T61 y123 t115).f0, (rd_T61 y123 t115).f1, (rd_T61 y123 t115).f2, (rd_T61 y123 t115).f3, (rd_T61 y123 t115).f4, false⟩ : S61) ) (fun _ hk => hk); have hx47_5 := hcc47 5 _ rfl; (try simp only [show (k61).sz = 6 from rfl, Nat.mul_one, Nat.add_zero] at hx47_5); have hf47_5 := hfr47 5; (try simp only [show (k61).sz = 6 from rfl, Nat.mul_one, Nat.add_zero] at hf47_5); clear hcl47 hcc47 hfr47 hM47) | ((with_reducible refine gate_store (t := 4) (p := 59) rfl ?_); refine store_event (t := 4) (p := 59) (v := ?vo_w48) (w1 := (w46.setCell ⟨go41, (t115 : Int).toNat * 6 + 5, none⟩ (.bool false))) ?hg ?ho ?hn ?hr ?_; (case ho => rfl); (case hg => rfl); (case hn => rfl); (case hr => first | (go_simp; done) | (go_simp; rfl)); intro w48 hw; have hg : w46.grownBy w48 (some go41) := (by rw [hw]; exact HP47.2); have hp_ : Kd.R k61 61 w48 w.heap.size (fun _ => True) (.slice (some ⟨go41, 0, none⟩) x3_1.length co15) y124 := (by rw [hw, Ny124.out]; exact HP47.1); clear HP47; have n0_ := Aside0.mk (hp_); have n1_ := Aside0.mk (blk_grown (g := gb114) (o := .cells #[.int .i64 ((rd_T32 l0 x4_1).f0), .int .i64 ((rd_T32 l0 x4_1).f1), .int .u32 ((rd_T32 l0 x4_1).f2), .int .u32 ((rd_T32 l0 x4_1).f3), .int .i64 ((rd_T32 l0 x4_1).f4)] 32 (0, 0)) (by (with_reducible repeat (first | refine blk_drewN ?_ _ | refine blk_drew ?_ | refine blk_alloc ?_ _)); exact BK114.out) hg (Kd.R_ne HO_3.out BK114.out (by decide))); have n2_ := Aside0.mk ((by rw [hw]; exact below_set (HB.out) GB41.out : Below w.heap.size w w48)); clear HO_3; clear BK114; clear HB; have HO_3 := n0_; have BK114 := n1_; have HB := n2_; clear n0_ n1_ n2_; clear hg hw hp_; have hcz49_0 : w48.cell? ⟨gb114, 0, none⟩ = some (.int .i64 ((rd_T32 l0 x4_1).f0)) := (blk_cell BK114.out 0).trans rfl; have hcz49_1 : w48.cell? ⟨gb114, 1, none⟩ = some (.int .i64 ((rd_T32 l0 x4_1).f1)) := (blk_cell BK114.out 1).trans rfl; have hcz49_2 : w48.cell? ⟨gb114, 2, none⟩ = some (.int .u32 ((rd_T32 l0 x4_1).f2)) := (blk_cell BK114.out 2).trans rfl; have hcz49_3 : w48.cell? ⟨gb114, 3, none⟩ = some (.int .u32 ((rd_T32 l0 x4_1).f3)) := (blk_cell BK114.out 3).trans rfl; have hcz49_4 : w48.cell? ⟨gb114, 4, none⟩ = some (.int .i64 ((rd_T32 l0 x4_1).f4)) := (blk_cell BK114.out 4).trans rfl; have hfz49_0 := blk_frozen BK114.out 0; have hfz49_1 := blk_frozen BK114.out 1; have hfz49_2 := blk_frozen BK114.out 2; have hfz49_3 := blk_frozen BK114.out 3; have hfz49_4 := blk_frozen BK114.out 4) | ((with_reducible refine gate_builtin (b := .append) (xs := #[.tmp 63, .tmp 73]) rfl ?_); at_builtin; refine Kd.R_append k61 (w0 := w) w.heap.size rfl (.tmp 63) (.tmp 73) 26 61 (.agg #[(.int .u32 0), (.int .u32 0), (.int .i64 0), (.int .i64 0), (.int .i64 0), (.bool false)]) 40 rfl Try.underlying26 info61 rfl (by decide) (by omega) (.slice (some ⟨go41, 0, none⟩) x3_1.length co15) y124 (⟨((rd_T32 l0 x4_1).f2), ((rd_T32 l0 x4_1).f3), ((rd_T32 l0 x4_1).f4), ((rd_T32 l0 x4_1).f1), 0, true⟩ : S61) [.int .u32 ((rd_T32 l0 x4_1).f2), .int .u32 ((rd_T32 l0 x4_1).f3), .int .i64 ((rd_T32 l0 x4_1).f4), .int .i64 ((rd_T32 l0 x4_1).f1), .int .i64 0, .bool true] (fun _ => True) (fun _ => False) rfl rfl ?aP (fun _ hk => hk.elim) ?aF ?aO ?aB ?aS ?aL ?_; (case aP => exact k61_mkM _ _ _ (⟨((rd_T32 l0 x4_1).f2), ((rd_T32 l0 x4_1).f3), ((rd_T32 l0 x4_1).f4), ((rd_T32 l0 x4_1).f1), 0, true⟩ : S61)); (case aB => exact (by repeat (first | (with_reducible first | exact HB.out | apply below_alloc | apply pw_below_drewN | apply below_drew1 | refine below_set ?_ GE114.out) | exact HB.out))); (case aF => exact (fun _ _ => trivial)); (case aO => exact (by (with_reducible repeat (first | apply Kd.R_alloc | apply Kd.R_drewN | apply Kd.R_drew)); exact HO_3.out)); (case aS => exact (below_size (by repeat (first | (with_reducible first | exact HB.out | apply below_alloc | apply pw_below_drewN | apply below_drew1 | refine below_set ?_ GE114.out) | exact HB.out)))); (case aL => have := LMc44.out; omega); intro v126 w50 ho hb hg hat; rw [← Ny125.out] at ho; have n0_ := Aside0.mk (blk_grown (g := gb114) (o := .cells #[.int .i64 ((rd_T32 l0 x4_1).f0), .int .i64 ((rd_T32 l0 x4_1).f1), .int .u32 ((rd_T32 l0 x4_1).f2), .int .u32 ((rd_T32 l0 x4_1).f3), .int .i64 ((rd_T32 l0 x4_1).f4)] 32 (0, 0)) (by (with_reducible repeat (first | refine blk_drewN ?_ _ | refine blk_drew ?_ | refine blk_alloc ?_ _)); exact BK114.out) hg (Kd.R_ne HO_3.out BK114.out (by decide))); have n1_ := Aside0.mk (hb); have n2_ := Aside0.mk (ho); clear BK114; clear HB; clear HO_3; have BK114 := n0_; have HB := n1_; have HO127 := n2_; clear n0_ n1_ n2_; clear ho hb hg hat))
                                go_roundg kj12
                                case measure => have := HK1.out; have := HJ3.out; have := HJ12.out; omega
                                case rel => exact ⟨(y125), (wrap64 (x4_1 + 1)), (by first | rfl | (simp; done) | (simp [*]; done)), H', ⟨by have := HK1.out; have := HJ3.out; have := HJ12.out; omega⟩, ⟨by (with_reducible repeat (first | apply Kd.R_alloc | apply Kd.R_drewN | apply Kd.R_drew)); exact HO127.out⟩, ⟨by repeat (first | (with_reducible first | exact HB.out | apply below_alloc | apply pw_below_drewN | apply below_drew1 | refine below_set ?_ GE114.out) | exact HB.out)⟩⟩
                              · rw [if_neg c44] at H
                                exact absurd H (by simp)
                            · rw [if_neg c43] at H
                              have c43b0 : (((rd_T32 l0 x4_1).f0) == 2) = false := beq_eq_false_iff_ne.mpr c43
                              have c43b1 : (((rd_T32 l0 x4_1).f0) != 2) = true := bne_iff_ne.mpr c43
                              have H' := Aside0.mk H
                              clear H
                              have p122 : 0 ≤ (t115 : Int) := of_decide_eq_true (by first | (with_reducible assumption) | assumption)
                              have q122 : t115 < (x3_1.length : Int) := of_decide_eq_true (by first | (with_reducible assumption) | assumption)
                              obtain ⟨ad122, e122, hx122_0, hx122_1, hx122_2, hx122_3, hx122_4, hx122_5⟩ := at_T61 (Kd.R_reads' HO_3.out).2.2 t115 p122 q122
                              cases e122
                              replace p122 := eq_true p122
                              replace q122 := eq_true q122
                              have p41 : 0 ≤ (t115 : Int) := of_decide_eq_true (by first | (with_reducible assumption) | assumption)
                              have q41 : (t115 : Int) < ((x3_1.length : Int) : Int) := of_decide_eq_true (by first | (with_reducible assumption) | assumption)
                              obtain ⟨go41, co41, eo41, gb41, gl41, cl41, HG41⟩ := Kd.R_form HO_3.out (by omega)
                              (first | cases eo41 | (injection eo41 with ea_ en_ ec_; (first | subst ea_ | (injection ea_ with ea_; subst ea_)); subst ec_; clear en_))
                              have GB41 := Aside0.mk gb41
                              have GG41 := Aside0.mk HG41
                              clear gb41 gl41 HG41
                              (first | simp only [add_plain] at hx122_0 | skip)
                              (first | simp only [add_plain] at hx122_1 | skip)
                              (first | simp only [add_plain] at hx122_2 | skip)
                              (first | simp only [add_plain] at hx122_3 | skip)
                              (first | simp only [add_plain] at hx122_4 | skip)
                              (first | simp only [add_plain] at hx122_5 | skip)
                              obtain ⟨ce41, hcl41, hM41, hcc41, hfr41⟩ := Kd.R_elem HO_3.out z61 (t115 : Int) p41 q41
                              obtain rfl := k61_openM hM41
                              have hx41_0 : wc.cell? ⟨go41, (t115 : Int).toNat * 6, none⟩ = some (.int .u32 ((rd_T61 x3_1 t115).f0)) := hcc41 0 _ rfl
                              have hx41_1 : wc.cell? ⟨go41, (t115 : Int).toNat * 6 + 1, none⟩ = some (.int .u32 ((rd_T61 x3_1 t115).f1)) := hcc41 1 _ rfl
                              have hx41_2 : wc.cell? ⟨go41, (t115 : Int).toNat * 6 + 2, none⟩ = some (.int .i64 ((rd_T61 x3_1 t115).f2)) := hcc41 2 _ rfl
                              have hx41_3 : wc.cell? ⟨go41, (t115 : Int).toNat * 6 + 3, none⟩ = some (.int .i64 ((rd_T61 x3_1 t115).f3)) := hcc41 3 _ rfl
                              have hx41_4 : wc.cell? ⟨go41, (t115 : Int).toNat * 6 + 4, none⟩ = some (.int .i64 ((rd_T61 x3_1 t115).f4)) := hcc41 4 _ rfl
                              have hx41_5 : wc.cell? ⟨go41, (t115 : Int).toNat * 6 + 5, none⟩ = some (.bool ((rd_T61 x3_1 t115).f5)) := hcc41 5 _ rfl
                              have hf41_0 : wc.frozen? ⟨go41, (t115 : Int).toNat * 6, none⟩ = false := hfr41 0
                              have hf41_1 : wc.frozen? ⟨go41, (t115 : Int).toNat * 6 + 1, none⟩ = false := hfr41 1
                              have hf41_2 : wc.frozen? ⟨go41, (t115 : Int).toNat * 6 + 2, none⟩ = false := hfr41 2
                              have hf41_3 : wc.frozen? ⟨go41, (t115 : Int).toNat * 6 + 3, none⟩ = false := hfr41 3
                              have hf41_4 : wc.frozen? ⟨go41, (t115 : Int).toNat * 6 + 4, none⟩ = false := hfr41 4
                              have hf41_5 : wc.frozen? ⟨go41, (t115 : Int).toNat * 6 + 5, none⟩ = false := hfr41 5
                              clear hcl41 hcc41 hfr41 hM41
                              replace p41 := eq_true p41
                              replace q41 := eq_true q41
                              have HX51 := Aside0.mk (show Kd.R k61 61 wc w.heap.size (fun _ => True) (.slice (some ⟨go41, 0, none⟩) x3_1.length co15) x3_1 from (by (with_reducible repeat (first | apply Kd.R_alloc | apply Kd.R_drewN | apply Kd.R_drew)); exact HO_3.out))
                              obtain ⟨ce51, hcl51, hM51, hcc51, hfr51⟩ := Kd.R_elem HX51.out z61 (t115 : Int) (of_decide_eq_true (by first | (with_reducible assumption) | assumption)) (by have h_ : (t115 : Int) < ((x3_1.length : Int) : Int) := of_decide_eq_true (by first | (with_reducible assumption) | assumption); first | exact h_ | (have e_ := (Kd.R_reads' HO_3.out).1; omega) | simpa using h_)
                              obtain rfl := k61_openM hM51
                              have HP51 := Kd.R_seg HX51.out (t115 : Int) (of_decide_eq_true (by first | (with_reducible assumption) | assumption)) (by have h_ : (t115 : Int) < ((x3_1.length : Int) : Int) := of_decide_eq_true (by first | (with_reducible assumption) | assumption); first | exact h_ | (have e_ := (Kd.R_reads' HO_3.out).1; omega) | simpa using h_) (seg := [.int .i64 ji40]) (j := 4) hcl51 hcc51 (show 5 ≤ 6 from by decide) (x' := (⟨(rd_T61 x3_1 t115).f0, (rd_T61 x3_1 t115).f1, (rd_T61 x3_1 t115).f2, (rd_T61 x3_1 t115).f3, ji40, (rd_T61 x3_1 t115).f5⟩ : S61)) (k61_mkM _ _ _ (⟨(rd_T61 x3_1 t115).f0, (rd_T61 x3_1 t115).f1, (rd_T61 x3_1 t115).f2, (rd_T61 x3_1 t115).f3, ji40, (rd_T61 x3_1 t115).f5⟩ : S61) ) (fun _ hk => hk)
                              have hx51_4 := hcc51 4 _ rfl
                              (try simp only [show (k61).sz = 6 from rfl, Nat.mul_one, Nat.add_zero] at hx51_4)
                              have hf51_4 := hfr51 4
                              (try simp only [show (k61).sz = 6 from rfl, Nat.mul_one, Nat.add_zero] at hf51_4)
                              clear hcl51 hcc51 hfr51 hM51
                              go_wp2_with (first | ((with_reducible refine gate_store (t := 2) (p := 55) rfl ?_); refine store_event (t := 2) (p := 55) (v := ?vo_w52) (w1 := (wc.setCell ⟨go41, (t115 : Int).toNat * 6 + 4, none⟩ (.int .i64 ji40))) ?hg ?ho ?hn ?hr ?_; (case ho => rfl); (case hg => rfl); (case hn => rfl); (case hr => first | (go_simp; done) | (go_simp; rfl)); intro w52 hw; have hg : wc.grownBy w52 (some go41) := (by rw [hw]; exact HP51.2); have hp_ : Kd.R k61 61 w52 w.heap.size (fun _ => True) (.slice (some ⟨go41, 0, none⟩) x3_1.length co15) y123 := (by rw [hw, Ny123.out]; exact HP51.1); clear HP51; have n0_ := Aside0.mk (hp_); have n1_ := Aside0.mk (blk_grown (g := gb114) (o := .cells #[.int .i64 ((rd_T32 l0 x4_1).f0), .int .i64 ((rd_T32 l0 x4_1).f1), .int .u32 ((rd_T32 l0 x4_1).f2), .int .u32 ((rd_T32 l0 x4_1).f3), .int .i64 ((rd_T32 l0 x4_1).f4)] 32 (0, 0)) (by (with_reducible repeat (first | refine blk_drewN ?_ _ | refine blk_drew ?_ | refine blk_alloc ?_ _)); exact BK114.out) hg (Kd.R_ne HO_3.out BK114.out (by decide))); have n2_ := Aside0.mk ((by rw [hw]; exact below_set (HB.out) GB41.out : Below w.heap.size w w52)); clear HO_3; clear BK114; clear HB; have HO_3 := n0_; have BK114 := n1_; have HB := n2_; clear n0_ n1_ n2_; clear hg hw hp_; have p42 : 0 ≤ (t115 : Int) := of_decide_eq_true (by first | (with_reducible assumption) | assumption); have q42 : (t115 : Int) < ((x3_1.length : Int) : Int) := of_decide_eq_true (by first | (with_reducible assumption) | assumption); obtain ⟨ce42, hcl42, hM42, hcc42, hfr42⟩ := Kd.R_elem HO_3.out z61 (t115 : Int) p42 q42; obtain rfl := k61_openM hM42; have hx42_0 : w52.cell? ⟨go41, (t115 : Int).toNat * 6, none⟩ = some (.int .u32 ((rd_T61 y123 t115).f0)) := hcc42 0 _ rfl; have hx42_1 : w52.cell? ⟨go41, (t115 : Int).toNat * 6 + 1, none⟩ = some (.int .u32 ((rd_T61 y123 t115).f1)) := hcc42 1 _ rfl; have hx42_2 : w52.cell? ⟨go41, (t115 : Int).toNat * 6 + 2, none⟩ = some (.int .i64 ((rd_T61 y123 t115).f2)) := hcc42 2 _ rfl; have hx42_3 : w52.cell? ⟨go41, (t115 : Int).toNat * 6 + 3, none⟩ = some (.int .i64 ((rd_T61 y123 t115).f3)) := hcc42 3 _ rfl; have hx42_4 : w52.cell? ⟨go41, (t115 : Int).toNat * 6 + 4, none⟩ = some (.int .i64 ((rd_T61 y123 t115).f4)) := hcc42 4 _ rfl; have hx42_5 : w52.cell? ⟨go41, (t115 : Int).toNat * 6 + 5, none⟩ = some (.bool ((rd_T61 y123 t115).f5)) := hcc42 5 _ rfl; have hf42_0 : w52.frozen? ⟨go41, (t115 : Int).toNat * 6, none⟩ = false := hfr42 0; have hf42_1 : w52.frozen? ⟨go41, (t115 : Int).toNat * 6 + 1, none⟩ = false := hfr42 1; have hf42_2 : w52.frozen? ⟨go41, (t115 : Int).toNat * 6 + 2, none⟩ = false := hfr42 2; have hf42_3 : w52.frozen? ⟨go41, (t115 : Int).toNat * 6 + 3, none⟩ = false := hfr42 3; have hf42_4 : w52.frozen? ⟨go41, (t115 : Int).toNat * 6 + 4, none⟩ = false := hfr42 4; have hf42_5 : w52.frozen? ⟨go41, (t115 : Int).toNat * 6 + 5, none⟩ = false := hfr42 5; clear hcl42 hcc42 hfr42 hM42; replace p42 := eq_true p42; replace q42 := eq_true q42; have HX53 := Aside0.mk (show Kd.R k61 61 w52 w.heap.size (fun _ => True) (.slice (some ⟨go41, 0, none⟩) x3_1.length co15) y123 from (by (with_reducible repeat (first | apply Kd.R_alloc | apply Kd.R_drewN | apply Kd.R_drew)); exact HO_3.out)); obtain ⟨ce53, hcl53, hM53, hcc53, hfr53⟩ := Kd.R_elem HX53.out z61 (t115 : Int) (of_decide_eq_true (by first | (with_reducible assumption) | assumption)) (by have h_ : (t115 : Int) < ((x3_1.length : Int) : Int) := of_decide_eq_true (by first | (with_reducible assumption) | assumption); first | exact h_ | (have e_ := (Kd.R_reads' HO_3.out).1; omega) | simpa using h_); obtain rfl := k61_openM hM53; have HP53 := Kd.R_seg HX53.out (t115 : Int) (of_decide_eq_true (by first | (with_reducible assumption) | assumption)) (by have h_ : (t115 : Int) < ((x3_1.length : Int) : Int) := of_decide_eq_true (by first | (with_reducible assumption) | assumption); first | exact h_ | (have e_ := (Kd.R_reads' HO_3.out).1; omega) | simpa using h_) (seg := [.bool false]) (j := 5) hcl53 hcc53 (show 6 ≤ 6 from by decide) (x' := (⟨(rd_T61 y123 t115).f0, (rd_T61 y123 t115).f1, (rd_T61 y123 t115).f2, (rd_T61 y123 t115).f3, (rd_T61 y123 t115).f4, false⟩ : S61)) (k61_mkM _ _ _ (⟨(rd_T61 y123 t115).f0, (rd_T61 y123 t115).f1, (rd_T61 y123 t115).f2, (rd_T61 y123 t115).f3, (rd_T61 y123 t115).f4, false⟩ : S61) ) (fun _ hk => hk); have hx53_5 := hcc53 5 _ rfl; (try simp only [show (k61).sz = 6 from rfl, Nat.mul_one, Nat.add_zero] at hx53_5); have hf53_5 := hfr53 5; (try simp only [show (k61).sz = 6 from rfl, Nat.mul_one, Nat.add_zero] at hf53_5); clear hcl53 hcc53 hfr53 hM53) | ((with_reducible refine gate_store (t := 4) (p := 59) rfl ?_); refine store_event (t := 4) (p := 59) (v := ?vo_w54) (w1 := (w52.setCell ⟨go41, (t115 : Int).toNat * 6 + 5, none⟩ (.bool false))) ?hg ?ho ?hn ?hr ?_; (case ho => rfl); (case hg => rfl); (case hn => rfl); (case hr => first | (go_simp; done) | (go_simp; rfl)); intro w54 hw; have hg : w52.grownBy w54 (some go41) := (by rw [hw]; exact HP53.2); have hp_ : Kd.R k61 61 w54 w.heap.size (fun _ => True) (.slice (some ⟨go41, 0, none⟩) x3_1.length co15) y124 := (by rw [hw, Ny124.out]; exact HP53.1); clear HP53; have n0_ := Aside0.mk (hp_); have n1_ := Aside0.mk (blk_grown (g := gb114) (o := .cells #[.int .i64 ((rd_T32 l0 x4_1).f0), .int .i64 ((rd_T32 l0 x4_1).f1), .int .u32 ((rd_T32 l0 x4_1).f2), .int .u32 ((rd_T32 l0 x4_1).f3), .int .i64 ((rd_T32 l0 x4_1).f4)] 32 (0, 0)) (by (with_reducible repeat (first | refine blk_drewN ?_ _ | refine blk_drew ?_ | refine blk_alloc ?_ _)); exact BK114.out) hg (Kd.R_ne HO_3.out BK114.out (by decide))); have n2_ := Aside0.mk ((by rw [hw]; exact below_set (HB.out) GB41.out : Below w.heap.size w w54)); clear HO_3; clear BK114; clear HB; have HO_3 := n0_; have BK114 := n1_; have HB := n2_; clear n0_ n1_ n2_; clear hg hw hp_; have hcz55_0 : w54.cell? ⟨gb114, 0, none⟩ = some (.int .i64 ((rd_T32 l0 x4_1).f0)) := (blk_cell BK114.out 0).trans rfl; have hcz55_1 : w54.cell? ⟨gb114, 1, none⟩ = some (.int .i64 ((rd_T32 l0 x4_1).f1)) := (blk_cell BK114.out 1).trans rfl; have hcz55_2 : w54.cell? ⟨gb114, 2, none⟩ = some (.int .u32 ((rd_T32 l0 x4_1).f2)) := (blk_cell BK114.out 2).trans rfl; have hcz55_3 : w54.cell? ⟨gb114, 3, none⟩ = some (.int .u32 ((rd_T32 l0 x4_1).f3)) := (blk_cell BK114.out 3).trans rfl; have hcz55_4 : w54.cell? ⟨gb114, 4, none⟩ = some (.int .i64 ((rd_T32 l0 x4_1).f4)) := (blk_cell BK114.out 4).trans rfl; have hfz55_0 := blk_frozen BK114.out 0; have hfz55_1 := blk_frozen BK114.out 1; have hfz55_2 := blk_frozen BK114.out 2; have hfz55_3 := blk_frozen BK114.out 3; have hfz55_4 := blk_frozen BK114.out 4))
                              go_roundg kj12
                              case measure => have := HK1.out; have := HJ3.out; have := HJ12.out; omega
                              case rel => exact ⟨(y124), (wrap64 (x4_1 + 1)), (by first | rfl | (simp; done) | (simp [*]; done)), H', ⟨by have := HK1.out; have := HJ3.out; have := HJ12.out; omega⟩, ⟨by (with_reducible repeat (first | apply Kd.R_alloc | apply Kd.R_drewN | apply Kd.R_drew)); exact HO_3.out⟩, ⟨by repeat (first | (with_reducible first | exact HB.out | apply below_alloc | apply pw_below_drewN | apply below_drew1 | refine below_set ?_ GE114.out) | exact HB.out)⟩⟩
                          · rw [if_neg c39] at H
                            exact absurd H (by simp)
                        · rw [if_neg c38] at H
                          exact absurd H (by simp)
                · rw [if_neg c12] at H
                  have c12b0 : decide (0 ≤ t115) = false := decide_eq_false c12
                  clear c12
                  by_cases c56 : ((rd_T32 l0 x4_1).f0) = 2
                  · rw [if_pos c56] at H
                    have c56b0 : (((rd_T32 l0 x4_1).f0) == 2) = true := beq_iff_eq.mpr c56
                    have c56b1 : (((rd_T32 l0 x4_1).f0) != 2) = false := bne_eq_false_iff_eq.mpr c56
                    clear c56
                    by_cases c57 : x3_1.length < 3518437208883
                    · rw [if_pos c57] at H
                      have LMc57 := Aside0.mk c57
                      clear c57
                      obtain ⟨y128, hy128⟩ : ∃ y_ : List (S61), y_ = (x3_1 ++ [(⟨((rd_T32 l0 x4_1).f2), ((rd_T32 l0 x4_1).f3), ((rd_T32 l0 x4_1).f4), ((rd_T32 l0 x4_1).f1), 0, true⟩ : S61)]) := ⟨_, rfl⟩
                      replace H : (bailiwickref10_Spans.l0 kj3 l0 y128 (wrap64 (x4_1 + 1))) = some r := by first | (rw [hy128]; with_reducible exact H) | (have H2_ := (Option.bind_some _ _).symm.trans H; rw [hy128]; with_reducible exact H2_) | (have H2_ := (Option.bind_some _ _).symm.trans H; with_reducible exact H2_) | with_reducible exact H | (rw [hy128]; exact H) | exact H
                      have Ny128 := Aside0.mk hy128
                      clear hy128
                      have H' := Aside0.mk H
                      clear H
                      have hcz58_0 : wc.cell? ⟨gb114, 0, none⟩ = some (.int .i64 ((rd_T32 l0 x4_1).f0)) := (blk_cell BK114.out 0).trans rfl
                      have hcz58_1 : wc.cell? ⟨gb114, 1, none⟩ = some (.int .i64 ((rd_T32 l0 x4_1).f1)) := (blk_cell BK114.out 1).trans rfl
                      have hcz58_2 : wc.cell? ⟨gb114, 2, none⟩ = some (.int .u32 ((rd_T32 l0 x4_1).f2)) := (blk_cell BK114.out 2).trans rfl
                      have hcz58_3 : wc.cell? ⟨gb114, 3, none⟩ = some (.int .u32 ((rd_T32 l0 x4_1).f3)) := (blk_cell BK114.out 3).trans rfl
                      have hcz58_4 : wc.cell? ⟨gb114, 4, none⟩ = some (.int .i64 ((rd_T32 l0 x4_1).f4)) := (blk_cell BK114.out 4).trans rfl
                      have hfz58_0 := blk_frozen BK114.out 0
                      have hfz58_1 := blk_frozen BK114.out 1
                      have hfz58_2 := blk_frozen BK114.out 2
                      have hfz58_3 := blk_frozen BK114.out 3
                      have hfz58_4 := blk_frozen BK114.out 4
                      obtain ⟨Ao59, co59, eo59⟩ := Kd.R_slice HO_3.out
                      subst eo59
                      go_wp2_with (first | ((with_reducible refine gate_callee (f := 38) rfl ?_); refine goesL_ (some 31) rfl rfl Try.func38 (by kernel_rfl) rfl #[.slice Ao59 x3_1.length co59, .int .u32 ((rd_T32 l0 x4_1).f3), .int .i64 ((rd_T32 l0 x4_1).f4)] rfl (by (try simp only [List.map_toArray, List.map_cons, List.map_nil]); first | done | rfl | (simp only [List.length_drop, List.length_take]; rfl)) ?_; (with_reducible refine (bailiwickref10_open.calls kj3 _ _ x3_1 ((rd_T32 l0 x4_1).f3) ((rd_T32 l0 x4_1).f4) t115 _ ?side1 ?side2 A11.out).mono ?_); (case side1 => repeat (first | exact (Kd.R_reads' HO_3.out).2.2 | (with_reducible refine Kd.C_alloc ?_ _) | (with_reducible refine Kd.C_drewN ?_ _) | (with_reducible refine Kd.C_drew ?_))); (case side2 => exact (Kd.R_reads' HO_3.out).2.1); rintro e w' ⟨rfl, ⟨nd, rfl⟩⟩; refine ⟨_, rfl, ?_⟩) | ((with_reducible refine gate_builtin (b := .append) (xs := #[.tmp 63, .tmp 73]) rfl ?_); at_builtin; refine Kd.R_append k61 (w0 := w) w.heap.size rfl (.tmp 63) (.tmp 73) 26 61 (.agg #[(.int .u32 0), (.int .u32 0), (.int .i64 0), (.int .i64 0), (.int .i64 0), (.bool false)]) 40 rfl Try.underlying26 info61 rfl (by decide) (by omega) (.slice Ao59 x3_1.length co59) x3_1 (⟨((rd_T32 l0 x4_1).f2), ((rd_T32 l0 x4_1).f3), ((rd_T32 l0 x4_1).f4), ((rd_T32 l0 x4_1).f1), 0, true⟩ : S61) [.int .u32 ((rd_T32 l0 x4_1).f2), .int .u32 ((rd_T32 l0 x4_1).f3), .int .i64 ((rd_T32 l0 x4_1).f4), .int .i64 ((rd_T32 l0 x4_1).f1), .int .i64 0, .bool true] (fun _ => True) (fun _ => False) rfl rfl ?aP (fun _ hk => hk.elim) ?aF ?aO ?aB ?aS ?aL ?_; (case aP => exact k61_mkM _ _ _ (⟨((rd_T32 l0 x4_1).f2), ((rd_T32 l0 x4_1).f3), ((rd_T32 l0 x4_1).f4), ((rd_T32 l0 x4_1).f1), 0, true⟩ : S61)); (case aB => exact (by repeat (first | (with_reducible first | exact HB.out | apply below_alloc | apply pw_below_drewN | apply below_drew1 | refine below_set ?_ GE114.out) | exact HB.out))); (case aF => exact (fun _ _ => trivial)); (case aO => exact (by (with_reducible repeat (first | apply Kd.R_alloc | apply Kd.R_drewN | apply Kd.R_drew)); exact HO_3.out)); (case aS => exact (below_size (by repeat (first | (with_reducible first | exact HB.out | apply below_alloc | apply pw_below_drewN | apply below_drew1 | refine below_set ?_ GE114.out) | exact HB.out)))); (case aL => have := LMc57.out; omega); intro v129 w60 ho hb hg hat; rw [← Ny128.out] at ho; have n0_ := Aside0.mk (blk_grown (g := gb114) (o := .cells #[.int .i64 ((rd_T32 l0 x4_1).f0), .int .i64 ((rd_T32 l0 x4_1).f1), .int .u32 ((rd_T32 l0 x4_1).f2), .int .u32 ((rd_T32 l0 x4_1).f3), .int .i64 ((rd_T32 l0 x4_1).f4)] 32 (0, 0)) (by (with_reducible repeat (first | refine blk_drewN ?_ _ | refine blk_drew ?_ | refine blk_alloc ?_ _)); exact BK114.out) hg (Kd.R_ne HO_3.out BK114.out (by decide))); have n1_ := Aside0.mk (hb); have n2_ := Aside0.mk (ho); clear BK114; clear HB; clear HO_3; have BK114 := n0_; have HB := n1_; have HO130 := n2_; clear n0_ n1_ n2_; clear ho hb hg hat))
                      go_roundg kj3
                      case measure => have := HK1.out; have := HJ3.out; omega
                      case rel => exact ⟨(y128), (wrap64 (x4_1 + 1)), (by first | rfl | (simp; done) | (simp [*]; done)), H', ⟨by have := HK1.out; have := HJ3.out; omega⟩, ⟨by (with_reducible repeat (first | apply Kd.R_alloc | apply Kd.R_drewN | apply Kd.R_drew)); exact HO130.out⟩, ⟨by repeat (first | (with_reducible first | exact HB.out | apply below_alloc | apply pw_below_drewN | apply below_drew1 | refine below_set ?_ GE114.out) | exact HB.out)⟩⟩
                    · rw [if_neg c57] at H
                      exact absurd H (by simp)
                  · rw [if_neg c56] at H
                    have c56b0 : (((rd_T32 l0 x4_1).f0) == 2) = false := beq_eq_false_iff_ne.mpr c56
                    have c56b1 : (((rd_T32 l0 x4_1).f0) != 2) = true := bne_iff_ne.mpr c56
                    have H' := Aside0.mk H
                    clear H
                    have hcz61_0 : wc.cell? ⟨gb114, 0, none⟩ = some (.int .i64 ((rd_T32 l0 x4_1).f0)) := (blk_cell BK114.out 0).trans rfl
                    have hcz61_1 : wc.cell? ⟨gb114, 1, none⟩ = some (.int .i64 ((rd_T32 l0 x4_1).f1)) := (blk_cell BK114.out 1).trans rfl
                    have hcz61_2 : wc.cell? ⟨gb114, 2, none⟩ = some (.int .u32 ((rd_T32 l0 x4_1).f2)) := (blk_cell BK114.out 2).trans rfl
                    have hcz61_3 : wc.cell? ⟨gb114, 3, none⟩ = some (.int .u32 ((rd_T32 l0 x4_1).f3)) := (blk_cell BK114.out 3).trans rfl
                    have hcz61_4 : wc.cell? ⟨gb114, 4, none⟩ = some (.int .i64 ((rd_T32 l0 x4_1).f4)) := (blk_cell BK114.out 4).trans rfl
                    have hfz61_0 := blk_frozen BK114.out 0
                    have hfz61_1 := blk_frozen BK114.out 1
                    have hfz61_2 := blk_frozen BK114.out 2
                    have hfz61_3 := blk_frozen BK114.out 3
                    have hfz61_4 := blk_frozen BK114.out 4
                    obtain ⟨Ao62, co62, eo62⟩ := Kd.R_slice HO_3.out
                    subst eo62
                    go_wp2_with (first | ((with_reducible refine gate_callee (f := 38) rfl ?_); refine goesL_ (some 31) rfl rfl Try.func38 (by kernel_rfl) rfl #[.slice Ao62 x3_1.length co62, .int .u32 ((rd_T32 l0 x4_1).f3), .int .i64 ((rd_T32 l0 x4_1).f4)] rfl (by (try simp only [List.map_toArray, List.map_cons, List.map_nil]); first | done | rfl | (simp only [List.length_drop, List.length_take]; rfl)) ?_; (with_reducible refine (bailiwickref10_open.calls kj3 _ _ x3_1 ((rd_T32 l0 x4_1).f3) ((rd_T32 l0 x4_1).f4) t115 _ ?side1 ?side2 A11.out).mono ?_); (case side1 => repeat (first | exact (Kd.R_reads' HO_3.out).2.2 | (with_reducible refine Kd.C_alloc ?_ _) | (with_reducible refine Kd.C_drewN ?_ _) | (with_reducible refine Kd.C_drew ?_))); (case side2 => exact (Kd.R_reads' HO_3.out).2.1); rintro e w' ⟨rfl, ⟨nd, rfl⟩⟩; refine ⟨_, rfl, ?_⟩))
                    go_roundg kj3
                    case measure => have := HK1.out; have := HJ3.out; omega
                    case rel => exact ⟨(x3_1), (wrap64 (x4_1 + 1)), (by first | rfl | (simp; done) | (simp [*]; done)), H', ⟨by have := HK1.out; have := HJ3.out; omega⟩, ⟨by (with_reducible repeat (first | apply Kd.R_alloc | apply Kd.R_drewN | apply Kd.R_drew)); exact HO_3.out⟩, ⟨by repeat (first | (with_reducible first | exact HB.out | apply below_alloc | apply pw_below_drewN | apply below_drew1 | refine below_set ?_ GE114.out) | exact HB.out)⟩⟩
        · rw [if_neg c3] at H
          exact absurd H (by simp)
      · rw [if_neg c2] at H
        have c2b0 : decide (x4_1 < (l0.length : Int)) = false := decide_eq_false c2
        clear c2
        obtain rfl := Option.some.inj H
        go_wp2
        go_ret
        exact ⟨_, by first | rfl | (simp [errW_none, errW_some] <;> rfl) | (simp [*, errW_none, errW_some] <;> rfl), by (with_reducible repeat (first | apply Kd.R_alloc | apply Kd.R_drewN | apply Kd.R_drew)); exact HO_3.out, by repeat (first | (with_reducible first | exact HB.out | apply below_alloc | apply pw_below_drewN | apply below_drew1) | exact HB.out)⟩

-- NOT PRINTED: function 3 (bailiwicklaw10_TraceSpans)

end Go.Proofs.Ytinjbfgjfmfibaa.PTraceSpans
