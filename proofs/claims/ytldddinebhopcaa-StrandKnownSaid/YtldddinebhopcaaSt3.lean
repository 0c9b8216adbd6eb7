/- strand's (*source).take. -/
import Derived.Test.YtldddinebhopcaaSt2
namespace Go.Proofs.Ytldddinebhopcaa.St
open Go.RowKit Go.Proofs.YtldddinebhopcaaW.PrintWords Go.Proofs.YtldddinebhopcaaW.PrintLast Go.Proofs.YtldddinebhopcaaW.PrintMore Go.Proofs.Ytldddinebhopcaa.Bs Go.Proofs.Ytldddinebhopcaa.Fr Go.Proofs.Ytldddinebhopcaa.Oct
set_option linter.unusedVariables false
set_option linter.unusedSimpArgs false

theorem info5i : ∃ i, Try.prog.info? 5 = some i ∧ i.size = 1 := by
  obtain ⟨i0, hi, hzz⟩ := Option.map_eq_some_iff.1 info_u8
  simp only [Prod.mk.injEq] at hzz
  exact ⟨i0, hi, hzz.2.1⟩
theorem frameL_byt (b : List Int) (hb : Byt b) (hl : b.length ≤ 56) : Byt (frameL b) := by
  have hr := crcN_range b
  intro x hx
  unfold frameL be4 at hx
  simp only [List.mem_append, List.mem_cons, List.not_mem_nil, or_false] at hx
  rcases hx with ((rfl | rfl) | h) | ((rfl | rfl | rfl | rfl) | rfl)
  · omega
  · omega
  · exact hb x h
  all_goals omega
/-- The body that a frame's length says; does a frame stand first? -/
def bodyL (l : List Int) : List Int := (l.take (2 + (rd l 1).toNat)).drop 2
def isF (l : List Int) : Prop := 7 ≤ l.length ∧ rd l 0 = 90 ∧ 1 ≤ rd l 1 ∧ rd l 1 ≤ 56 ∧ rd l 1 + 7 ≤ (l.length : Int) ∧ frameL (bodyL l) = l.take ((rd l 1).toNat + 7)
set_option maxHeartbeats 2000000 in
set_option maxRecDepth 100000 in
theorem take_calls (g : Nat) (A : Option Addr) (c : Nat) (l : List Int) (w0 w : World) (hb0 : Below w0.heap.size w0 w) (hg : w.heap[g]? = some (.cells #[.slice A l.length c] 87 (0, 0))) (hC0 : Kd.C (Kd.int .u8) w0 A l.length l) (hc : l.length ≤ c) (hm : l.length ≤ 1000000) (hB : Byt l) :
    Calls Try.prog 48 #[.pointer (some ⟨g, 0, none⟩)] w fun e w' =>
      (¬ isF l ∧ e = .returned (.tuple #[.slice none 0 0, .bool false]) ∧ Below w.heap.size w w') ∨
      (isF l ∧ ∃ v A' c', e = .returned (.tuple #[v, .bool true]) ∧ Kd.R (Kd.int .u8) 5 w' w.heap.size (fun _ => True) v (bodyL l) ∧ w'.heap[g]? = some (.cells #[.slice A' (l.drop ((rd l 1).toNat + 7)).length c'] 87 (0, 0)) ∧ Kd.C (Kd.int .u8) w0 A' (l.drop ((rd l 1).toNat + 7)).length (l.drop ((rd l 1).toNat + 7)) ∧ (l.drop ((rd l 1).toNat + 7)).length ≤ c' ∧ Fr w w' (fun k => k = g)) := by
  have kg : w.cell? ⟨g, 0, none⟩ = some (.slice A l.length c) := blk_cell hg 0
  have fg : w.frozen? ⟨g, 0, none⟩ = false := blk_frozen hg 0
  have HG := Aside0.mk hg
  have HC0 := Aside0.mk hC0
  have HC := Aside0.mk (Kd.C_below hC0 hb0)
  have tyS : Aside0 (∀ q, q ∈ 5 :: (Kd.int .u8).E → q ≠ 87) := ⟨fun q hq => by rw [List.mem_singleton.1 hq]; decide⟩
  have HCC := Aside0.mk hc
  have HB := Aside0.mk hB
  have HM := Aside0.mk hm
  clear hg hC0 hb0 hc hB
  go_enter Try.func48, Try.ntmps48
  by_cases h7 : (l.length : Int) < 7
  · have h7b := decide_eq_true h7
    go_wp2
    go_ret2
    exact .inl ⟨fun h => by have := h.1; omega, rfl, Below.refl _ _⟩
  · have h7b := decide_eq_false h7
    obtain ⟨ad, e1, _⟩ := at_one HC.out 0 (by omega) (by omega)
    subst e1
    have c0 := at_zero HC.out (by omega)
    obtain ⟨_, e2, c1⟩ := at_one HC.out 1 (by omega) (by omega)
    cases e2
    have c1' : w.cell? ⟨ad.block, ad.off + 1, none⟩ = some (.int .u8 (rd l 1)) := c1
    have hr1 := HB.out.rd 1
    rw [show ((1 : Nat) : Int) = 1 from rfl] at hr1
    have i0 : (0 : Int) ≤ 0 ∧ (0 : Int) < (l.length : Int) := by omega
    have i1 : (0 : Int) ≤ 1 ∧ (1 : Int) < (l.length : Int) := by omega
    clear c1
    by_cases h90 : rd l 0 = 90
    · have h90b : (rd l 0 != 90) = false := by simpa using h90
      have H90 := Aside0.mk h90
      clear h90
      obtain ⟨n, hn⟩ : ∃ n : Nat, rd l 1 = (n : Int) := ⟨(rd l 1).toNat, by omega⟩
      have HN := Aside0.mk hn
      rw [hn] at c1' hr1
      clear hn
      go_upto_region 4 with fail
      clear h90b c0 c1' i0 i1
      by_cases hs : (n : Int) < 1 ∨ (n : Int) > 56 ∨ (l.length : Int) < (n : Int) + 7
      · have hno : Aside0 (¬ isF l) := ⟨fun h => by
          obtain ⟨_, _, h3, h4, h5, _⟩ := h
          rw [HN.out] at h3 h4 h5
          omega⟩
        by_cases s1 : (n : Int) < 1
        · have s1b := decide_eq_true s1
          go_wp2
          go_ret2
          exact .inl ⟨hno.out, rfl, Below.refl _ _⟩
        · have s1b := decide_eq_false s1
          by_cases s2 : (n : Int) > 56
          · have s2b := decide_eq_true s2
            go_wp2
            go_ret2
            exact .inl ⟨hno.out, rfl, Below.refl _ _⟩
          · have s2b := decide_eq_false s2
            have s3 : (l.length : Int) < (n : Int) + 7 := by omega
            have s3b := decide_eq_true s3
            go_wp2
            go_ret2
            exact .inl ⟨hno.out, rfl, Below.refl _ _⟩
      · have s1 : ¬ (n : Int) < 1 := by omega
        have s2 : ¬ (n : Int) > 56 := by omega
        have s3 : ¬ (l.length : Int) < (n : Int) + 7 := by omega
        have HS : Aside0 (1 ≤ n ∧ n ≤ 56 ∧ n + 7 ≤ l.length) := ⟨by omega⟩
        have s1b := decide_eq_false s1
        have s2b := decide_eq_false s2
        have s3b := decide_eq_false s3
        clear hs
        go_upto_region 6 with fail
        clear s1b s2b s3b s1 s2 s3 h7b
        obtain ⟨A1, hcut, hcA, hcL⟩ := print_mid_of (P := Try.prog) (Value.int .u8) 0 23 5 .i64 .i64 Try.underlying23 info5i.choose_spec.1 info5i.choose_spec.2 (some ad) c l 2 (2 + (n : Int)) (by omega) (by omega) (by have := HS.out; omega) HCC.out
        obtain ⟨hct, hcT, hcTL⟩ := print_take_of (P := Try.prog) (Value.int .u8) 0 23 5 .i64 Try.underlying23 info5i.choose_spec.1 info5i.choose_spec.2 (some ad) c l ((n : Int) + 7) (by omega) (by have := HS.out; omega) HCC.out
        obtain ⟨A3, hcd, hcD, hcDL⟩ := print_drop_of (P := Try.prog) (Value.int .u8) 0 23 5 .i64 Try.underlying23 info5i.choose_spec.1 info5i.choose_spec.2 (some ad) c l ((n : Int) + 7) (by omega) (by have := HS.out; omega) HCC.out
        have t1 : (2 : Int).toNat = 2 := rfl
        have t2 : (2 + (n : Int)).toNat = 2 + n := by omega
        have t3 : ((n : Int) + 7).toNat = n + 7 := by omega
        rw [t1, t2] at hcut hcA hcL
        rw [t3] at hct hcT hcTL hcd hcD hcDL
        clear t1 t2 t3
        have HBL : Aside0 (bodyL l = (l.take (2 + n)).drop 2) := ⟨by unfold bodyL; rw [HN.out]; rfl⟩
        have HBN : Aside0 (((l.take (2 + n)).drop 2).length = n) := ⟨by have := HS.out; rw [List.length_drop, List.length_take]; omega⟩
        have HTN : Aside0 ((l.take (n + 7)).length = n + 7) := ⟨by have := HS.out; rw [List.length_take]; omega⟩
        have BB : Aside0 (Byt ((l.take (2 + n)).drop 2)) := ⟨(HB.out.take _).drop _⟩
        have BT : Aside0 (Byt (l.take (n + 7))) := ⟨HB.out.take _⟩
        have C1 := Aside0.mk (Kd.C_of_reads (d := (0 : Int)) (h1 := fun _ => rfl) (hcA w (Kd.reads_of_C HC.out)))
        have CT := Aside0.mk (Kd.C_of_reads (d := (0 : Int)) (h1 := fun _ => rfl) (hcT w (Kd.reads_of_C HC.out)))
        have CD := Aside0.mk (Kd.C_of_reads (d := (0 : Int)) (h1 := fun _ => rfl) (hcD w0 (Kd.reads_of_C HC0.out)))
        have HDL := Aside0.mk hcDL
        have HIS : Aside0 (isF l ↔ frameL ((l.take (2 + n)).drop 2) = l.take (n + 7)) := ⟨by
          have h1 := HS.out
          unfold isF
          rw [HBL.out, HN.out, H90.out, Int.toNat_natCast]
          exact ⟨fun h => h.2.2.2.2.2, fun h => ⟨by omega, rfl, by omega, by omega, by omega, h⟩⟩⟩
        clear hcA hcT hcD hcL hcTL hcDL
        have HEE : Aside0 (l.drop ((rd l 1).toNat + 7) = l.drop (n + 7)) := ⟨by rw [HN.out, Int.toNat_natCast]⟩
        generalize l.drop (n + 7) = E at *
        generalize (l.take (2 + n)).drop 2 = D at *
        generalize l.take (n + 7) = T at *
        go_upto_region 7 with ((with_reducible refine gate_builtin (b := .append) (xs := #[.const (.slice none 0 0), .tmp 52]) rfl ?_); at_builtin; refine Kd.R_append_row (Value.int .u8) (0 : Int) (w0 := w) w.heap.size rfl (.const (.slice none 0 0)) (.tmp 52) 23 5 (.int .u8 0) 1 rfl Try.underlying23 info_u8 rfl (Nat.succ_pos _) (.slice none 0 0) [] D A1 D.length (c - 2) (fun _ => True) rfl rfl (fun _ _ => trivial) (Kd.R_nil _ _ _ _ _) C1.out (Below.refl _ _) (Nat.le_refl _) (by have h1 := HBN.out; have h2 := HS.out; rw [List.length_nil]; omega) ?_; intro v5 w5 hr_ hb_ _ _; rw [List.nil_append] at hr_; have R5 := Aside0.mk hr_; have B5 := Aside0.mk hb_; clear hr_ hb_)
        obtain ⟨A5, c5, rfl⟩ := Kd.R_slice R5.out
        have kg5 := pw_cell_below B5.out kg
        clear C1 hcut
        go_wp2_with fail
        refine (Frame_calls A5 c5 D w5 (Kd.R_reads' R5.out).2.2 (Kd.R_reads' R5.out).2.1 (by have h1 := HBN.out; have h2 := HS.out; omega) BB.out).mono ?_
        rintro e w6 ⟨v6, rfl, hr6, hb6⟩
        obtain ⟨A6, c6, ev⟩ := Kd.R_slice hr6
        subst ev
        have R6 := Aside0.mk (Kd.R_reads' hr6)
        have B6 := Aside0.mk (below_step B5.out hb6)
        have RB := Aside0.mk (Kd.R_below R5.out hb6)
        have kg6 := pw_cell_below B6.out kg
        have X6 := Aside0.mk (blk_below HG.out B6.out)
        have CT6 := Aside0.mk (Kd.C_below CT.out B6.out)
        clear hr6 hb6 kg5 kg R5 B5 CT
        go_wp2_with fail
        refine (Equal_calls A6 (some ad) c6 c (frameL D) T w6 R6.out.2.2 CT6.out (by rw [frameL_len]; omega) (by have := HTN.out; omega) (frameL_byt D BB.out (by have h1 := HBN.out; have h2 := HS.out; omega)) BT.out).mono ?_
        rintro e w7 ⟨rfl, rfl⟩
        by_cases hq : frameL D = T
        · have hqb := decide_eq_true hq
          have HQ := Aside0.mk (HIS.out.2 hq)
          rw [hqb]
          clear hq hqb HIS
          have fg6 : w6.frozen? ⟨g, 0, none⟩ = false := blk_frozen X6.out 0
          go_wp2
          go_ret2
          rw [HEE.out]
          refine .inr ⟨HQ.out, _, A3, c - (n + 7), rfl, ?_, ?_, ?_, HDL.out, ?_⟩
          · rw [HBL.out]; exact Kd.R_set RB.out X6.out tyS.out 0 _
          · exact blk_put X6.out 0 _ rfl
          · exact CD.out
          · exact (Fr.of_below B6.out (fun k => k = g)).set (Or.inl rfl) _
        · have hqb := decide_eq_false hq
          rw [hqb]
          go_wp2
          go_ret2
          exact .inl ⟨fun h => hq (HIS.out.1 h), rfl, B6.out⟩
    · have h90b : (rd l 0 != 90) = true := by simpa using h90
      go_wp2
      go_ret2
      exact .inl ⟨fun h => h90 h.2.1, rfl, Below.refl _ _⟩
end Go.Proofs.Ytldddinebhopcaa.St
