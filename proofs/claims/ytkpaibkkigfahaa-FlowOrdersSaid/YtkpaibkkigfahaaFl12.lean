/- FlowOrders: the walk. -/
import Derived.Test.YtkpaibkkigfahaaFl11
namespace Go.Proofs.Ytkpaibkkigfahaa.Fl
open Go.RowKit Go.Proofs.YtkpaibkkigfahaaW.PrintWords Go.Proofs.YtkpaibkkigfahaaW.PrintLast Go.Proofs.YtkpaibkkigfahaaW.PrintMore Go.Proofs.Ytkpaibkkigfahaa.Bs Go.Proofs.Ytkpaibkkigfahaa.Fr Go.Proofs.Ytkpaibkkigfahaa.Mp Go.Proofs.Ytkpaibkkigfahaa.Srt
open Go.Proofs.Ytkpaibkkigfahaa.PFlowPlays Go.Proofs.Ytkpaibkkigfahaa.FlP
set_option linter.unusedVariables false
set_option linter.unusedSimpArgs false

set_option maxHeartbeats 8000000 in
set_option maxRecDepth 100000 in
theorem orders_walk (W : World) (A : Option Addr) (cap : Nat) (l : List S46) (hC : k46.C W A l.length l) (hcap : l.length ≤ cap) (hw : ∀ x ∈ l, okS x) (at_ : Int) (wn : (Lit.int .i64 at_).wf = true) :
    Calls Try.prog 7 #[.slice A l.length cap, .int .i64 at_] W fun e w' => e = .returned (.bool true) ∧ Below W.heap.size W w' := by
  have HC := Aside0.mk hC
  have HW := Aside0.mk hw
  clear hC hw hcap wn
  go_enter Try.func7, Try.ntmps7
  go_wp2_with fail
  refine (awake_calls W).mono ?_
  rintro e w0 ⟨rfl, hb0⟩
  have B0 := Aside0.mk hb0
  clear hb0
  by_cases h150 : (l.length : Int) > 150
  · have g1 : decide ((l.length : Int) > 150) = true := decide_eq_true h150
    go_wp2_with fail
    go_ret
    exact ⟨rfl, B0.out⟩
  have g1 : decide ((l.length : Int) > 150) = false := decide_eq_false h150
  have HL := Aside0.mk (show l.length ≤ 150 by omega)
  go_wp2_with fail
  refine (New_calls w0).mono ?_
  rintro e w1 ⟨g, b, rfl, hf1, hb1⟩
  have F1 := Aside0.mk hf1
  have B1 := Aside0.mk (below_step B0.out hb1)
  have GE := Aside0.mk (Nat.le_trans B0.out.size F1.out.geb)
  clear hf1 hb1 g1
  go_wp2_with fail
  refine (New_calls w1).mono ?_
  rintro e w2 ⟨g', b', rfl, hf2, hb2⟩
  have F2 := Aside0.mk hf2
  have F12 := Aside0.mk (F1.out.below hb2)
  have B2 := Aside0.mk (below_step B1.out hb2)
  have GE' := Aside0.mk (Nat.le_trans B1.out.size F2.out.geb)
  have S2 := Aside0.mk hb2.size
  have NE := Aside0.mk (show g < w1.heap.size ∧ b < w1.heap.size ∧ w1.heap.size ≤ g' ∧ w1.heap.size ≤ b' from ⟨F1.out.lt, F1.out.ltb, F2.out.ge, F2.out.geb⟩)
  have S12 := Aside0.mk (show w0.heap.size ≤ w1.heap.size by have := F1.out.ge; have := F1.out.lt; omega)
  clear hf2 hb2
  go_wp2_with fail
  go_loopg [7] l.length (fun r v7 wr => ∃ (i : Nat) (M1 M2 : List S46), v7 = .int .i64 i ∧ Aside0 (r + i = l.length) ∧ Aside0 (FT wr w0.heap.size g b M1) ∧ Aside0 (FT wr w1.heap.size g' b' M2) ∧ Aside0 (M1.length ≤ i ∧ M2.length ≤ i ∧ Has M1 (l.take i) ∧ Has M2 (l.drop (l.length - i))) ∧ Aside0 (Below W.heap.size W wr) ∧ Aside0 (w1.heap.size ≤ wr.heap.size))
  case atStart => exact ⟨0, [], [], rfl, ⟨by omega⟩, F12, F2, ⟨Nat.le_refl _, Nat.le_refl _, by rw [List.take_zero]; exact Has.nil, by rw [Nat.sub_zero, List.drop_length]; exact Has.nil⟩, B2, S2⟩
  case round =>
    obtain ⟨i, M1, M2, rfl, hr, FR, FR', HM, BR, SR⟩ := hrel
    by_cases hi : i < l.length
    · have hi1 : decide ((i : Int) < (l.length : Int)) = true := decide_eq_true (by omega)
      have hi2 : (i : Int) < (l.length : Int) := by omega
      have hi3 : (0 : Int) ≤ (i : Int) := by omega
      obtain ⟨k, hk⟩ : ∃ k : Nat, k = l.length - 1 - i := ⟨_, rfl⟩
      have HK := Aside0.mk hk
      have hkl : k < l.length := by omega
      have hkl2 : (k : Int) < (l.length : Int) := by omega
      have hkl3 : (0 : Int) ≤ (k : Int) := by omega
      clear hk
      obtain ⟨ad0, hA0, p0, p1, p2, p3, p4, p5, p6, p7⟩ := at_T46 (Kd.C_below HC.out BR.out) (i : Int) hi3 hi2
      obtain ⟨ad1, hA1, q0, q1, q2, q3, q4, q5, q6, q7⟩ := at_T46 (Kd.C_below HC.out BR.out) (k : Int) hkl3 hkl2
      subst hA0
      obtain rfl := Option.some.inj hA1
      rw [Int.toNat_natCast] at p0 p1 p2 p3 p4 p5 p6 p7 q0 q1 q2 q3 q4 q5 q6 q7
      have HX := Aside0.mk (HW.out _ (rd_mem hi))
      have HY := Aside0.mk (HW.out _ (rd_mem hkl))
      have HGX := Aside0.mk (rd_get hi)
      have HGY := Aside0.mk (rd_get hkl)
      generalize rd_T46 l (i : Int) = x at *
      generalize rd_T46 l (k : Int) = y at *
      rw [HK.out] at q0 q1 q2 q3 q4 q5 q6 q7
      have qa0 := cell_alloc_old q0 (.cells #[.int .i64 x.f0, .int .u32 x.f1.f0, .int .i64 x.f1.f1, .int .u32 x.f2.f0, .int .i64 x.f2.f1, .int .i64 9, .int .i64 0, .int .i64 0] 46)
      have qa1 := cell_alloc_old q1 (.cells #[.int .i64 x.f0, .int .u32 x.f1.f0, .int .i64 x.f1.f1, .int .u32 x.f2.f0, .int .i64 x.f2.f1, .int .i64 9, .int .i64 0, .int .i64 0] 46)
      have qa2 := cell_alloc_old q2 (.cells #[.int .i64 x.f0, .int .u32 x.f1.f0, .int .i64 x.f1.f1, .int .u32 x.f2.f0, .int .i64 x.f2.f1, .int .i64 9, .int .i64 0, .int .i64 0] 46)
      have qa3 := cell_alloc_old q3 (.cells #[.int .i64 x.f0, .int .u32 x.f1.f0, .int .i64 x.f1.f1, .int .u32 x.f2.f0, .int .i64 x.f2.f1, .int .i64 9, .int .i64 0, .int .i64 0] 46)
      have qa4 := cell_alloc_old q4 (.cells #[.int .i64 x.f0, .int .u32 x.f1.f0, .int .i64 x.f1.f1, .int .u32 x.f2.f0, .int .i64 x.f2.f1, .int .i64 9, .int .i64 0, .int .i64 0] 46)
      have qa5 := cell_alloc_old q5 (.cells #[.int .i64 x.f0, .int .u32 x.f1.f0, .int .i64 x.f1.f1, .int .u32 x.f2.f0, .int .i64 x.f2.f1, .int .i64 9, .int .i64 0, .int .i64 0] 46)
      have qa6 := cell_alloc_old q6 (.cells #[.int .i64 x.f0, .int .u32 x.f1.f0, .int .i64 x.f1.f1, .int .u32 x.f2.f0, .int .i64 x.f2.f1, .int .i64 9, .int .i64 0, .int .i64 0] 46)
      have qa7 := cell_alloc_old q7 (.cells #[.int .i64 x.f0, .int .u32 x.f1.f0, .int .i64 x.f1.f1, .int .u32 x.f2.f0, .int .i64 x.f2.f1, .int .i64 9, .int .i64 0, .int .i64 0] 46)
      have hbA := (((Below.refl wr.heap.size wr).alloc (Nat.le_refl _) (.cells #[.int .i64 x.f0, .int .u32 x.f1.f0, .int .i64 x.f1.f1, .int .u32 x.f2.f0, .int .i64 x.f2.f1, .int .i64 9, .int .i64 0, .int .i64 0] 46)).alloc (by simp) (.cells #[.int .i64 y.f0, .int .u32 y.f1.f0, .int .i64 y.f1.f1, .int .u32 y.f2.f0, .int .i64 y.f2.f1, .int .i64 9, .int .i64 0, .int .i64 0] 46))
      have FA := Aside0.mk (FR.out.below hbA)
      have FA' := Aside0.mk (FR'.out.below hbA)
      have BA := Aside0.mk (below_step BR.out hbA)
      have SA := Aside0.mk (Nat.le_trans SR.out hbA.size)
      have x9 := blk_new (wr.alloc (.cells #[.int .i64 x.f0, .int .u32 x.f1.f0, .int .i64 x.f1.f1, .int .u32 x.f2.f0, .int .i64 x.f2.f1, .int .i64 9, .int .i64 0, .int .i64 0] 46)) (.cells #[.int .i64 y.f0, .int .u32 y.f1.f0, .int .i64 y.f1.f1, .int .u32 y.f2.f0, .int .i64 y.f2.f1, .int .i64 9, .int .i64 0, .int .i64 0] 46)
      have HR9 := Aside0.mk (show wr.heap.size ≤ (wr.alloc (.cells #[.int .i64 x.f0, .int .u32 x.f1.f0, .int .i64 x.f1.f1, .int .u32 x.f2.f0, .int .i64 x.f2.f1, .int .i64 9, .int .i64 0, .int .i64 0] 46)).heap.size by simp)
      obtain ⟨r9, hr9⟩ : ∃ r9, r9 = (wr.alloc (.cells #[.int .i64 x.f0, .int .u32 x.f1.f0, .int .i64 x.f1.f1, .int .u32 x.f2.f0, .int .i64 x.f2.f1, .int .i64 9, .int .i64 0, .int .i64 0] 46)).heap.size := ⟨_, rfl⟩
      have HQ9 := Aside0.mk (show r9 = wr.heap.size + 1 by rw [hr9]; simp)
      rw [← hr9] at x9 HR9
      have X9A := Aside0.mk x9
      clear hbA x9 hr9
      go_wp2_with fail
      refine (Put_calls _ w0.heap.size g b M1 FA.out (std x) (show okK (keyF x) from okS_K HX.out) (Nat.le_trans S12.out SA.out)).mono ?_
      rintro e w3 ⟨rfl, hf3, hr3⟩
      have hlt : ¬ r9 = b := by have := FR.out.ltb; have := HR9.out; omega
      have F3 := Aside0.mk hf3
      have F3' := Aside0.mk (FA'.out.keep hr3 (by have := NE.out; omega) (by have := NE.out; omega))
      have B3 := Aside0.mk (below_fr BA.out BA.out.size hr3 (fun k hk => by rw [hk]; exact GE.out))
      have S3 := Aside0.mk (Nat.le_trans SA.out hr3.size)
      have X9 := Aside0.mk (hr3.blk X9A.out hlt)
      have d0 : w3.cell? ⟨r9, 0, none⟩ = some (.int .i64 y.f0) := blk_cell X9.out 0
      have d1 : w3.cell? ⟨r9, 1, none⟩ = some (.int .u32 y.f1.f0) := blk_cell X9.out 1
      have d2 : w3.cell? ⟨r9, 2, none⟩ = some (.int .i64 y.f1.f1) := blk_cell X9.out 2
      have d3 : w3.cell? ⟨r9, 3, none⟩ = some (.int .u32 y.f2.f0) := blk_cell X9.out 3
      have d4 : w3.cell? ⟨r9, 4, none⟩ = some (.int .i64 y.f2.f1) := blk_cell X9.out 4
      have d5 : w3.cell? ⟨r9, 5, none⟩ = some (.int .i64 9) := blk_cell X9.out 5
      have d6 : w3.cell? ⟨r9, 6, none⟩ = some (.int .i64 0) := blk_cell X9.out 6
      have d7 : w3.cell? ⟨r9, 7, none⟩ = some (.int .i64 0) := blk_cell X9.out 7
      clear hf3 hr3 hlt
      rw [← HQ9.out]
      go_wp2_with fail
      refine (Put_calls _ w1.heap.size g' b' M2 F3'.out (std y) (show okK (keyF y) from okS_K HY.out) S3.out).mono ?_
      rintro e w4 ⟨rfl, hf4, hr4⟩
      have F4' := Aside0.mk hf4
      have F4 := Aside0.mk (F3.out.keep hr4 (by have := NE.out; omega) (by have := NE.out; omega))
      have B4 := Aside0.mk (below_fr B3.out B3.out.size hr4 (fun k hk => by rw [hk]; exact GE'.out))
      have S4 := Aside0.mk (Nat.le_trans S3.out hr4.size)
      clear hf4 hr4 d0 d1 d2 d3 d4 d5 d6 d7 q0 qa0 q1 qa1 q2 qa2 q3 qa3 q4 qa4 q5 qa5 q6 qa6 q7 qa7
      go_wp2_with fail
      go_roundg (l.length - (i + 1))
      case measure => have := hr.out; omega
      case rel => exact ⟨i + 1, layM M1 (std x) false, layM M2 (std y) false, by rfl, ⟨by omega⟩, F4, F4', ⟨by have := layM_len M1 (std x) false; have := HM.out.1; omega, by have := layM_len M2 (std y) false; have := HM.out.2.1; omega, HM.out.2.2.1.take HGX.out, by have h2 := HM.out.2.2.2; have h3 := HK.out; rw [show l.length - i = k + 1 by omega] at h2; rw [show l.length - (i + 1) = k by omega]; exact h2.drop HGY.out⟩, B4, S4⟩
    · have hi1 : decide ((i : Int) < (l.length : Int)) = false := decide_eq_false (by omega)
      have hil : i = l.length := by have := hr.out; omega
      subst hil
      have hm := HM.out
      rw [List.take_length, Nat.sub_self, List.drop_zero] at hm
      have he := hm.2.2.1.one hm.2.2.2 FR.out.srt FR'.out.srt
      subst he
      have HH := Aside0.mk hm.2.2.1
      have HML := Aside0.mk (show M1.length ≤ 100000 by have := hm.1; have := HL.out; omega)
      have SRT := Aside0.mk FR.out.srt
      clear hr HM hm
      go_wp2_with fail
      refine (All_calls _ _ g b M1 FR.out HML.out).mono ?_
      rintro e w3 ⟨v3, rfl, hR3, hb3⟩
      obtain ⟨A3, c3, rfl⟩ := len_row hR3
      have C3 := Aside0.mk (Kd.R_reads' hR3).2.2
      have F3 := Aside0.mk (FR.out.below hb3)
      have F3' := Aside0.mk (FR'.out.below hb3)
      have B3 := Aside0.mk (below_step BR.out hb3)
      clear hR3 hb3
      go_wp2_with fail
      refine (All_calls _ _ g' b' M1 F3'.out HML.out).mono ?_
      rintro e w4 ⟨v4, rfl, hR4, hb4⟩
      obtain ⟨A4, c4, rfl⟩ := len_row hR4
      have C4 := Aside0.mk (Kd.R_reads' hR4).2.2
      have F4 := Aside0.mk (F3.out.below hb4)
      have B4 := Aside0.mk (below_step B3.out hb4)
      have C43 := Aside0.mk (Kd.C_below C3.out hb4)
      clear hR4 hb4
      go_wp2_with fail
      refine (same_calls _ A3 A4 c3 c4 M1 (Nat.le_trans HML.out (by decide)) C43.out C4.out).mono ?_
      rintro e w5 ⟨rfl, hb5⟩
      have F5 := Aside0.mk (F4.out.below hb5)
      have B5 := Aside0.mk (below_step B4.out hb5)
      have C53 := Aside0.mk (Kd.C_below C43.out hb5)
      clear hb5
      go_wp2_with fail
      refine (Due_calls _ _ g b M1 F5.out HML.out 8).mono ?_
      rintro e w6 ⟨v6, rfl, hR6, hb6⟩
      rw [HH.out.due8] at hR6
      obtain ⟨A6, c6, rfl⟩ := len_row hR6
      have F6 := Aside0.mk (F5.out.below hb6)
      have B6 := Aside0.mk (below_step B5.out hb6)
      have C63 := Aside0.mk (Kd.C_below C53.out hb6)
      clear hR6 hb6
      go_wp2_with fail
      refine (Due_calls _ _ g b M1 F6.out HML.out 9).mono ?_
      rintro e w7 ⟨v7, rfl, hR7, hb7⟩
      rw [HH.out.due9] at hR7
      obtain ⟨A7, c7, rfl⟩ := len_row hR7
      have C7 := Aside0.mk (Kd.R_reads' hR7).2.2
      have F7 := Aside0.mk (F6.out.below hb7)
      have B7 := Aside0.mk (below_step B6.out hb7)
      have C73 := Aside0.mk (Kd.C_below C63.out hb7)
      clear hR7 hb7
      go_wp2_with fail
      refine (same_calls _ A3 A7 c3 c7 M1 (Nat.le_trans HML.out (by decide)) C73.out C7.out).mono ?_
      rintro e w8 ⟨rfl, hb8⟩
      have F8 := Aside0.mk (F7.out.below hb8)
      have B8 := Aside0.mk (below_step B7.out hb8)
      have C83 := Aside0.mk (Kd.C_below C73.out hb8)
      clear hb8 hi1 hi
      by_cases hneg : at_ < 0
      · have hn1 : decide (at_ < 0) = true := decide_eq_true hneg
        go_wp2_with fail
        go_ret
        exact ⟨rfl, B8.out⟩
      have hn1 : decide (at_ < 0) = false := decide_eq_false hneg
      by_cases hge : at_ ≥ (M1.length : Int)
      · have hn2 : decide (at_ ≥ (M1.length : Int)) = true := decide_eq_true hge
        go_wp2_with fail
        go_ret
        exact ⟨rfl, B8.out⟩
      have hn2 : decide (at_ ≥ (M1.length : Int)) = false := decide_eq_false hge
      obtain ⟨a, rfl⟩ : ∃ a : Nat, at_ = (a : Int) := ⟨at_.toNat, by omega⟩
      have ha : a < M1.length := by omega
      have ha2 : (a : Int) < (M1.length : Int) := by omega
      have ha3 : (0 : Int) ≤ (a : Int) := by omega
      obtain ⟨ad1, hA1, p0, p1, p2, p3, p4, p5, p6, p7⟩ := at_T46 C83.out (a : Int) ha3 ha2
      subst hA1
      rw [Int.toNat_natCast] at p0 p1 p2 p3 p4 p5 p6 p7
      have HY := Aside0.mk (rd_mem ha)
      obtain ⟨y, hy⟩ : ∃ y, rd_T46 M1 (a : Int) = y := ⟨_, rfl⟩
      have HRD := Aside0.mk hy
      rw [hy] at p0 p1 p2 p3 p4 p5 p6 p7 HY
      clear hy
      go_upto_region 27 with fail
      refine start_ (n := 13) (S := fun w' => w'.cell? (ad1.add (a * 8)) = some (.int .i64 y.f0) ∧ w'.cell? ⟨(ad1.add (a * 8)).block, (ad1.add (a * 8)).off + 1, none⟩ = some (.int .u32 y.f1.f0) ∧ w'.cell? ⟨(ad1.add (a * 8)).block, (ad1.add (a * 8)).off + 2, none⟩ = some (.int .i64 y.f1.f1) ∧ w'.cell? ⟨(ad1.add (a * 8)).block, (ad1.add (a * 8)).off + 3, none⟩ = some (.int .u32 y.f2.f0) ∧ w'.cell? ⟨(ad1.add (a * 8)).block, (ad1.add (a * 8)).off + 4, none⟩ = some (.int .i64 y.f2.f1) ∧ w'.cell? ⟨(ad1.add (a * 8)).block, (ad1.add (a * 8)).off + 5, none⟩ = some (.int .i64 y.f3) ∧ w'.cell? ⟨(ad1.add (a * 8)).block, (ad1.add (a * 8)).off + 6, none⟩ = some (.int .i64 y.f4) ∧ w'.cell? ⟨(ad1.add (a * 8)).block, (ad1.add (a * 8)).off + 7, none⟩ = some (.int .i64 y.f5)) (ds := [11]) #[false, false, false, false, false, false, false, false, false, false, false, false, false] (by kernel_rfl) rfl rfl ⟨p0, p1, p2, p3, p4, p5, p6, p7⟩ (fun hHeld => ?_)
      refine pure_ (i := 0) (N := some 85) (v := ?_) (a' := ?_) #[true, false, false, false, false, false, false, false, false, false, false, false, false] rfl rfl (by kernel_rfl) (fun _ _ _ h => h) (Or.inl ⟨by rfl, ?_⟩) ?_ ?_
      rotate_left
      · intro w'
        go_simp
        with_reducible rfl
      rotate_left
      · simp only [Act.put, List.setIfInBounds_toArray, List.set_cons_zero, List.set_cons_succ, i64_w, i32_w]
        rfl
      refine pure_ (i := 1) (N := some 86) (v := ?_) (a' := ?_) #[true, true, false, false, false, false, false, false, false, false, false, false, false] rfl rfl (by kernel_rfl) (fun _ _ _ h => h) (Or.inl ⟨by rfl, ?_⟩) ?_ ?_
      rotate_left
      · intro w'
        go_simp
        with_reducible rfl
      rotate_left
      · simp only [Act.put, List.setIfInBounds_toArray, List.set_cons_zero, List.set_cons_succ, i64_w, i32_w]
        rfl
      refine pure_ (i := 2) (N := some 87) (v := ?_) (a' := ?_) #[true, true, true, false, false, false, false, false, false, false, false, false, false] rfl rfl (by kernel_rfl) (fun _ _ _ h => h) (Or.inl ⟨by rfl, ?_⟩) ?_ ?_
      rotate_left
      · intro w'
        go_simp
        with_reducible rfl
      rotate_left
      · simp only [Act.put, List.setIfInBounds_toArray, List.set_cons_zero, List.set_cons_succ, i64_w, i32_w]
        rfl
      refine pure_ (i := 3) (N := some 88) (v := ?_) (a' := ?_) #[true, true, true, true, false, false, false, false, false, false, false, false, false] rfl rfl (by kernel_rfl) (fun _ _ _ h => h) (Or.inl ⟨by rfl, ?_⟩) ?_ ?_
      rotate_left
      · intro w'
        go_simp
        with_reducible rfl
      rotate_left
      · simp only [Act.put, List.setIfInBounds_toArray, List.set_cons_zero, List.set_cons_succ, i64_w, i32_w]
        rfl
      refine pure_ (i := 4) (N := some 89) (v := ?_) (a' := ?_) #[true, true, true, true, true, false, false, false, false, false, false, false, false] rfl rfl (by kernel_rfl) (fun _ _ _ h => h) (Or.inl ⟨by rfl, ?_⟩) ?_ ?_
      rotate_left
      · intro w'
        go_simp
        with_reducible rfl
      rotate_left
      · simp only [Act.put, List.setIfInBounds_toArray, List.set_cons_zero, List.set_cons_succ, i64_w, i32_w]
        rfl
      refine pure_ (i := 6) (N := some 91) (v := ?_) (a' := ?_) #[true, true, true, true, true, false, true, false, false, false, false, false, false] rfl rfl (by kernel_rfl) (fun _ _ _ h => h) (Or.inl ⟨by rfl, ?_⟩) ?_ ?_
      rotate_left
      · intro w'
        go_simp
        with_reducible rfl
      rotate_left
      · simp only [Act.put, List.setIfInBounds_toArray, List.set_cons_zero, List.set_cons_succ, i64_w, i32_w]
        rfl
      refine pure_ (i := 7) (N := some 92) (v := ?_) (a' := ?_) #[true, true, true, true, true, false, true, true, false, false, false, false, false] rfl rfl (by kernel_rfl) (fun _ _ _ h => h) (Or.inl ⟨by rfl, ?_⟩) ?_ ?_
      rotate_left
      · intro w'
        go_simp
        with_reducible rfl
      rotate_left
      · simp only [Act.put, List.setIfInBounds_toArray, List.set_cons_zero, List.set_cons_succ, i64_w, i32_w]
        rfl
      refine pure_ (i := 8) (N := some 93) (v := ?_) (a' := ?_) #[true, true, true, true, true, false, true, true, true, false, false, false, false] rfl rfl (by kernel_rfl) (fun _ _ _ h => h) (Or.inl ⟨by rfl, ?_⟩) ?_ ?_
      rotate_left
      · intro w'
        go_simp
        with_reducible rfl
      rotate_left
      · simp only [Act.put, List.setIfInBounds_toArray, List.set_cons_zero, List.set_cons_succ, i64_w, i32_w]
        rfl
      refine pure_ (i := 9) (N := some 94) (v := ?_) (a' := ?_) #[true, true, true, true, true, false, true, true, true, true, false, false, false] rfl rfl (by kernel_rfl) (fun _ _ _ h => h) (Or.inl ⟨by rfl, ?_⟩) ?_ ?_
      rotate_left
      · intro w'
        go_simp
        with_reducible rfl
      rotate_left
      · simp only [Act.put, List.setIfInBounds_toArray, List.set_cons_zero, List.set_cons_succ, i64_w, i32_w]
        rfl
      refine take_ (i := 5) (N := some 90) (v := ?_) (a' := ?_) #[true, true, true, true, true, true, true, true, true, true, false, false, false] rfl rfl (by kernel_rfl) (fun _ _ _ h => h) (Or.inl ⟨by rfl, ?_⟩) hHeld ?_ ?_
      rotate_left
      · rintro w' ⟨s0, s1, s2, s3, s4, s5, s6, s7⟩
        go_simp
        with_reducible rfl
      rotate_left
      · simp only [Act.put, List.setIfInBounds_toArray, List.set_cons_zero, List.set_cons_succ, i64_w, i32_w]
        rfl
      refine take_ (i := 10) (N := some 95) (v := ?_) (a' := ?_) #[true, true, true, true, true, true, true, true, true, true, true, false, false] rfl rfl (by kernel_rfl) (fun _ _ _ h => h) (Or.inl ⟨by rfl, ?_⟩) hHeld ?_ ?_
      rotate_left
      · rintro w' ⟨s0, s1, s2, s3, s4, s5, s6, s7⟩
        go_simp
        with_reducible rfl
      rotate_left
      · simp only [Act.put, List.setIfInBounds_toArray, List.set_cons_zero, List.set_cons_succ, i64_w, i32_w]
        rfl
      refine last_ (i := 11) (N := some 96) #[true, true, true, true, true, true, true, true, true, true, true, true, false] rfl rfl (by kernel_rfl) (by decide) (fun K hK => ?_)
      refine goes_ Try.func26 (by kernel_rfl) rfl #[.pointer (some ⟨g, 0, none⟩), .int .i64 y.f0, .agg #[.int .u32 y.f1.f0, .int .i64 y.f1.f1]] (by rfl) rfl rfl (by simp only [List.map_toArray, List.map_cons, List.map_nil]; rfl) ?_
      with_reducible refine (Of_calls _ w0.heap.size g b M1 (F8.out.below (Below.refl _ _).drew) HML.out y.f0 y.f1.f0 y.f1.f1).mono ?_
      rintro e w9 ⟨v9, rfl, hR9, hb9⟩
      refine ⟨_, rfl, ?_⟩
      have HR9 := Aside0.mk hR9
      have HB9 := Aside0.mk hb9
      clear hR9 hb9
      refine hK.out _ _ ?_
      clear hK K
      refine norm_ (a' := ?_) ?_ ?_
      rotate_left
      · show Act.put _ (some 96) _ = _
        simp only [Act.put, List.setIfInBounds_toArray, List.set_cons_zero, List.set_cons_succ, i64_w, i32_w]
        rfl
      refine pure_ (i := 12) (N := some 11) (v := ?_) (a' := ?_) #[true, true, true, true, true, true, true, true, true, true, true, true, true] rfl rfl (by kernel_rfl) (fun _ _ _ h => h) (Or.inl ⟨by rfl, ?_⟩) ?_ ?_
      rotate_left
      · intro w'
        go_simp
        with_reducible rfl
      rotate_left
      · simp only [Act.put, List.setIfInBounds_toArray, List.set_cons_zero, List.set_cons_succ, i64_w, i32_w]
        rfl
      refine done_ (by kernel_rfl) ?_
      have HM1 := Aside0.mk (of_mem HY.out)
      have HON := Aside0.mk (one_of y _ (List.Pairwise.filter _ (srt_nodup SRT.out)) HM1.out)
      have HFL := Aside0.mk (List.length_filter_le (fun f : S46 => f.f0 == y.f0 && (f.f1.f0 == y.f1.f0 && (f.f1.f1 == y.f1.f1))) M1)
      generalize M1.filter (fun f : S46 => f.f0 == y.f0 && (f.f1.f0 == y.f1.f0 && (f.f1.f1 == y.f1.f1))) = X at *
      obtain ⟨A9, c9, rfl⟩ := len_row HR9.out
      have C9 := Aside0.mk (Kd.R_reads' HR9.out).2.2
      have C93 := Aside0.mk (Kd.C_below (Kd.C_below C83.out (Below.refl _ _).drew) HB9.out)
      have B9 := Aside0.mk (below_step B8.out.drew HB9.out)
      clear HR9 HB9 p0 p1 p2 p3 p4 p5 p6 p7
      have hq : ∃ q : S46 → Bool, q = fun x => eqS x y := ⟨_, rfl⟩
      obtain ⟨qy, hqy⟩ := hq
      rw [← hqy] at HON
      have HQ := Aside0.mk hqy
      clear hqy
      go_wp2_with fail
      rw [show decide (M1.length ≤ a) = false from decide_eq_false (by omega)]
      go_loopg [12, 13] X.length (fun r v12 v13 wr => ∃ (i : Nat), v13 = .int .i64 i ∧ v12 = .int .i64 (((X.take i).filter qy).length : Nat) ∧ Aside0 (r + i = X.length) ∧ Aside0 (Below w9.heap.size w9 wr))
      case atStart => exact ⟨0, rfl, rfl, ⟨by omega⟩, ⟨Below.refl _ _⟩⟩
      case round =>
        obtain ⟨j, rfl, rfl, hr2, BR2⟩ := hrel
        by_cases hj : j < X.length
        · have hj1 : decide ((j : Int) < (X.length : Int)) = true := decide_eq_true (by omega)
          have hj2 : (j : Int) < (X.length : Int) := by omega
          have hj3 : (0 : Int) ≤ (j : Int) := by omega
          obtain ⟨ad0, hA0, q0, q1, q2, q3, q4, q5, q6, q7⟩ := at_T46 (Kd.C_below C9.out BR2.out) (j : Int) hj3 hj2
          obtain ⟨ad2, hA2, p0, p1, p2, p3, p4, p5, p6, p7⟩ := at_T46 (Kd.C_below C93.out BR2.out) (a : Int) ha3 ha2
          subst hA0
          obtain rfl := Option.some.inj hA2
          rw [Int.toNat_natCast] at p0 p1 p2 p3 p4 p5 p6 p7 q0 q1 q2 q3 q4 q5 q6 q7
          rw [HRD.out] at p0 p1 p2 p3 p4 p5 p6 p7
          have HG := Aside0.mk (rd_get hj)
          generalize rd_T46 X (j : Int) = x at *
          have HN1 := Aside0.mk (filter_next qy X j x HG.out)
          have HK1 := Aside0.mk (List.length_filter_le qy (X.take j))
          have HT := Aside0.mk (List.length_take_le' j X)
          have HE1 : Aside0 (qy x = eqS x y) := ⟨by rw [HQ.out]⟩
          go_upto_region 32 with fail
          refine start_ (n := 9) (S := fun w' => w'.cell? (ad0.add (j * 8)) = some (.int .i64 x.f0) ∧ w'.cell? ⟨(ad0.add (j * 8)).block, (ad0.add (j * 8)).off + 1, none⟩ = some (.int .u32 x.f1.f0) ∧ w'.cell? ⟨(ad0.add (j * 8)).block, (ad0.add (j * 8)).off + 2, none⟩ = some (.int .i64 x.f1.f1) ∧ w'.cell? ⟨(ad0.add (j * 8)).block, (ad0.add (j * 8)).off + 3, none⟩ = some (.int .u32 x.f2.f0) ∧ w'.cell? ⟨(ad0.add (j * 8)).block, (ad0.add (j * 8)).off + 4, none⟩ = some (.int .i64 x.f2.f1) ∧ w'.cell? ⟨(ad0.add (j * 8)).block, (ad0.add (j * 8)).off + 5, none⟩ = some (.int .i64 x.f3) ∧ w'.cell? ⟨(ad0.add (j * 8)).block, (ad0.add (j * 8)).off + 6, none⟩ = some (.int .i64 x.f4) ∧ w'.cell? ⟨(ad0.add (j * 8)).block, (ad0.add (j * 8)).off + 7, none⟩ = some (.int .i64 x.f5) ∧ w'.cell? (ad1.add (a * 8)) = some (.int .i64 y.f0) ∧ w'.cell? ⟨(ad1.add (a * 8)).block, (ad1.add (a * 8)).off + 1, none⟩ = some (.int .u32 y.f1.f0) ∧ w'.cell? ⟨(ad1.add (a * 8)).block, (ad1.add (a * 8)).off + 2, none⟩ = some (.int .i64 y.f1.f1) ∧ w'.cell? ⟨(ad1.add (a * 8)).block, (ad1.add (a * 8)).off + 3, none⟩ = some (.int .u32 y.f2.f0) ∧ w'.cell? ⟨(ad1.add (a * 8)).block, (ad1.add (a * 8)).off + 4, none⟩ = some (.int .i64 y.f2.f1) ∧ w'.cell? ⟨(ad1.add (a * 8)).block, (ad1.add (a * 8)).off + 5, none⟩ = some (.int .i64 y.f3) ∧ w'.cell? ⟨(ad1.add (a * 8)).block, (ad1.add (a * 8)).off + 6, none⟩ = some (.int .i64 y.f4) ∧ w'.cell? ⟨(ad1.add (a * 8)).block, (ad1.add (a * 8)).off + 7, none⟩ = some (.int .i64 y.f5)) (ds := []) #[false, false, false, false, false, false, false, false, false] (by kernel_rfl) rfl rfl ⟨q0, q1, q2, q3, q4, q5, q6, q7, p0, p1, p2, p3, p4, p5, p6, p7⟩ (fun hHeld => ?_)
          refine pure_ (i := 0) (N := some 103) (v := ?_) (a' := ?_) #[true, false, false, false, false, false, false, false, false] rfl rfl (by kernel_rfl) (fun _ _ _ h => h) (Or.inl ⟨by rfl, ?_⟩) ?_ ?_
          rotate_left
          · intro w'
            go_simp
            with_reducible rfl
          rotate_left
          · simp only [Act.put, List.setIfInBounds_toArray, List.set_cons_zero, List.set_cons_succ, i64_w, i32_w]
            rfl
          refine pure_ (i := 1) (N := some 104) (v := ?_) (a' := ?_) #[true, true, false, false, false, false, false, false, false] rfl rfl (by kernel_rfl) (fun _ _ _ h => h) (Or.inl ⟨by rfl, ?_⟩) ?_ ?_
          rotate_left
          · intro w'
            go_simp
            with_reducible rfl
          rotate_left
          · simp only [Act.put, List.setIfInBounds_toArray, List.set_cons_zero, List.set_cons_succ, i64_w, i32_w]
            rfl
          refine pure_ (i := 2) (N := some 105) (v := ?_) (a' := ?_) #[true, true, true, false, false, false, false, false, false] rfl rfl (by kernel_rfl) (fun _ _ _ h => h) (Or.inl ⟨by rfl, ?_⟩) ?_ ?_
          rotate_left
          · intro w'
            go_simp
            with_reducible rfl
          rotate_left
          · simp only [Act.put, List.setIfInBounds_toArray, List.set_cons_zero, List.set_cons_succ, i64_w, i32_w]
            rfl
          refine pure_ (i := 4) (N := some 107) (v := ?_) (a' := ?_) #[true, true, true, false, true, false, false, false, false] rfl rfl (by kernel_rfl) (fun _ _ _ h => h) (Or.inl ⟨by rfl, ?_⟩) ?_ ?_
          rotate_left
          · intro w'
            go_simp
            with_reducible rfl
          rotate_left
          · simp only [Act.put, List.setIfInBounds_toArray, List.set_cons_zero, List.set_cons_succ, i64_w, i32_w]
            rfl
          refine pure_ (i := 5) (N := some 108) (v := ?_) (a' := ?_) #[true, true, true, false, true, true, false, false, false] rfl rfl (by kernel_rfl) (fun _ _ _ h => h) (Or.inl ⟨by rfl, ?_⟩) ?_ ?_
          rotate_left
          · intro w'
            go_simp
            with_reducible rfl
          rotate_left
          · simp only [Act.put, List.setIfInBounds_toArray, List.set_cons_zero, List.set_cons_succ, i64_w, i32_w]
            rfl
          refine pure_ (i := 6) (N := some 109) (v := ?_) (a' := ?_) #[true, true, true, false, true, true, true, false, false] rfl rfl (by kernel_rfl) (fun _ _ _ h => h) (Or.inl ⟨by rfl, ?_⟩) ?_ ?_
          rotate_left
          · intro w'
            go_simp
            with_reducible rfl
          rotate_left
          · simp only [Act.put, List.setIfInBounds_toArray, List.set_cons_zero, List.set_cons_succ, i64_w, i32_w]
            rfl
          refine take_ (i := 3) (N := some 106) (v := ?_) (a' := ?_) #[true, true, true, true, true, true, true, false, false] rfl rfl (by kernel_rfl) (fun _ _ _ h => h) (Or.inl ⟨by rfl, ?_⟩) hHeld ?_ ?_
          rotate_left
          · rintro w' ⟨s0, s1, s2, s3, s4, s5, s6, s7, s8, s9, s10, s11, s12, s13, s14, s15⟩
            go_simp
            with_reducible rfl
          rotate_left
          · simp only [Act.put, List.setIfInBounds_toArray, List.set_cons_zero, List.set_cons_succ, i64_w, i32_w]
            rfl
          refine take_ (i := 7) (N := some 110) (v := ?_) (a' := ?_) #[true, true, true, true, true, true, true, true, false] rfl rfl (by kernel_rfl) (fun _ _ _ h => h) (Or.inl ⟨by rfl, ?_⟩) hHeld ?_ ?_
          rotate_left
          · rintro w' ⟨s0, s1, s2, s3, s4, s5, s6, s7, s8, s9, s10, s11, s12, s13, s14, s15⟩
            go_simp
            with_reducible rfl
          rotate_left
          · simp only [Act.put, List.setIfInBounds_toArray, List.set_cons_zero, List.set_cons_succ, i64_w, i32_w]
            rfl
          refine pure_ (i := 8) (N := some 111) (v := (.bool (eqS x y))) (a' := ?aa_1) #[true, true, true, true, true, true, true, true, true] rfl rfl (by kernel_rfl) (fun _ _ _ h => h) ?hy_1 ?ha_1 ?h_1
          case hy_1 => exact Or.inl ⟨by rfl, fun w' => eql_run _ _ (by rfl) (by rfl) (by rfl) w'⟩
          case ha_1 => simp only [Act.put, List.setIfInBounds_toArray, List.set_cons_zero, List.set_cons_succ, i64_w, i32_w]; rfl
          refine done_ (by kernel_rfl) ?_
          by_cases hE : eqS x y = true
          · rw [hE] at HE1 ⊢
            go_wp2_with fail
            go_roundg (X.length - (j + 1))
            case measure => have := hr2.out; omega
            case rel => exact ⟨j + 1, by first | rfl | (have := HML.out; have := HFL.out; rw [show wrap64 ((j : Int) + 1) = ((j + 1 : Nat) : Int) from by unfold wrap64; omega]), by have := HML.out; have := HFL.out; have := HK1.out; have := HT.out; rw [HN1.out, HE1.out]; first | rfl | (rw [show wrap64 ((((X.take j).filter qy).length : Int) + 1) = ((((X.take j).filter qy).length + 1 : Nat) : Int) from by unfold wrap64; omega]; rfl), ⟨by omega⟩, ⟨BR2.out.drew⟩⟩
          · have hE' : eqS x y = false := by simpa using hE
            rw [hE'] at HE1 ⊢
            go_wp2_with fail
            go_roundg (X.length - (j + 1))
            case measure => have := hr2.out; omega
            case rel => exact ⟨j + 1, by first | rfl | (have := HML.out; have := HFL.out; rw [show wrap64 ((j : Int) + 1) = ((j + 1 : Nat) : Int) from by unfold wrap64; omega]), by rw [HN1.out, HE1.out]; rfl, ⟨by omega⟩, ⟨BR2.out.drew⟩⟩
        · have hj1 : decide ((j : Int) < (X.length : Int)) = false := decide_eq_false (by omega)
          have hjl : j = X.length := by have := hr2.out; omega
          rw [filter_all qy X j hjl, HON.out]
          go_wp2_with fail
          go_ret
          exact ⟨rfl, below_step B9.out BR2.out⟩
end Go.Proofs.Ytkpaibkkigfahaa.Fl
