/- The statement TraceSpans: its walk. -/
import Derived.Test.YtinjbfgjfmfibaaTr4
namespace Go.Proofs.Ytinjbfgjfmfibaa.Tr
open Go.RowKit Go.Proofs.YtinjbfgjfmfibaaW.PrintWords Go.Proofs.YtinjbfgjfmfibaaW.PrintLast Go.Proofs.YtinjbfgjfmfibaaW.PrintMore Go.Proofs.Ytinjbfgjfmfibaa.Bs Go.Proofs.Ytinjbfgjfmfibaa.Mp
open Go.Proofs.Ytinjbfgjfmfibaa.PTraceSpans
set_option linter.unusedVariables false
set_option linter.unusedSimpArgs false

def storyL : List S32 := [⟨2, 5, 7, 9, 0⟩, ⟨3, 9, 0, 9, 0⟩, ⟨2, 20, 8, 9, 0⟩]
theorem story_f : bailiwicklaw10_story.f = some storyL := rfl
def storyS : List S61 := [⟨7, 9, 0, 5, 9, false⟩, ⟨8, 9, 0, 20, 0, true⟩]
theorem story_spans : spans storyL = storyS := by rfl
theorem story_ok : ∀ e ∈ storyL, okK (keyE e) := by
  intro e he
  simp only [storyL, List.mem_cons, List.not_mem_nil, or_false] at he
  rcases he with rfl | rfl | rfl <;> exact ⟨rfl, rfl⟩

set_option maxHeartbeats 4000000 in
set_option maxRecDepth 100000 in
theorem awake_calls (w : World) : Calls Try.prog 15 #[] w fun e w' => e = .returned (.bool true) ∧ Below w.heap.size w w' := by
  go_enter Try.func15, Try.ntmps15
  go_wp2_with fail
  refine (bailiwicklaw10_story.calls storyL w story_f).mono ?_
  rintro e w1 ⟨v1, rfl, hr1, hb1⟩
  obtain ⟨A1, c1, rfl, hl1, hC1⟩ := Kd.R_reads hr1
  have HB1 := Aside0.mk hb1
  have HC1 := Aside0.mk hC1
  have HL1 := Aside0.mk hl1
  clear hb1 hC1 hl1 hr1
  go_wp2_with fail
  refine (Spans_calls A1 c1 storyL w1 HC1.out HL1.out (by decide) story_ok).mono ?_
  rintro e w2 ⟨v2, rfl, hr2, hb2⟩
  rw [story_spans] at hr2
  obtain ⟨A2, c2, rfl, hl2, hC2⟩ := Kd.R_reads hr2
  obtain ⟨ad, rfl, x0, x1, x2, x3, x4, x5⟩ := at_T61 hC2 0 (by omega) (by decide)
  obtain ⟨ad', ha, y0, y1, y2, y3, y4, y5⟩ := at_T61 hC2 1 (by omega) (by decide)
  cases ha
  have hb3 : Below w.heap.size w w2 := below_step HB1.out hb2
  have HB3 := Aside0.mk hb3
  have hl : storyS.length = 2 := rfl
  rw [hl] at *
  have z0 : w2.cell? (ad.add 0) = some (.int .u32 7) := x0
  have z4 : w2.cell? ⟨(ad.add 0).block, (ad.add 0).off + 4, none⟩ = some (.int .i64 9) := x4
  have z5 : w2.cell? ⟨ad.block, ad.off + 6 + 5, none⟩ = some (.bool true) := y5
  have e0 : ad.add 0 = ad := by simp [Addr.add]
  rw [e0] at z0 z4
  clear e0
  clear x0 x1 x2 x3 x4 x5 y0 y1 y2 y3 y4 y5 hb2 hb3 hr2 hl HC1 HL1 HB1 hC2
  go_wp2
  go_ret
  exact ⟨rfl, HB3.out⟩
def fairB (l : List S32) : Bool := decide (l.length ≤ 300) && l.all (fun e => decide (-4611686018427387904 ≤ e.f1))
theorem fair_l0 (l : List S32) (hl : l.length ≤ 300) : ∀ (m i k : Nat), i + m = l.length → m + 1 ≤ k → bailiwicklaw10_fair.l0 k l (i : Int) = some ((l.drop i).all (fun e => decide (-4611686018427387904 ≤ e.f1))) := by
  intro m
  induction m with
  | zero =>
    intro i k hi hk
    obtain ⟨k, rfl⟩ : ∃ k', k = k' + 1 := ⟨k - 1, by omega⟩
    unfold bailiwicklaw10_fair.l0
    rw [if_neg (by omega), List.drop_of_length_le (by omega)]
    rfl
  | succ m ih =>
    intro i k hi hk
    obtain ⟨k, rfl⟩ : ∃ k', k = k' + 1 := ⟨k - 1, by omega⟩
    have hil : i < l.length := by omega
    unfold bailiwicklaw10_fair.l0
    have hr : rd_T32 l (i : Int) = l[i] := by unfold rd_T32; rw [Int.toNat_natCast, List.getD_eq_getElem?_getD, List.getElem?_eq_getElem hil]; rfl
    rw [if_pos (by omega), if_pos (by omega), hr, wrap_succ i (by omega), ih (i + 1) k (by omega) (by omega), List.drop_eq_getElem_cons hil, List.all_cons]
    by_cases h : l[i].f1 < -4611686018427387904
    · rw [if_pos h, decide_eq_false (by omega)]; rfl
    · rw [if_neg h, decide_eq_true (by omega)]; rfl
theorem fair_f (l : List S32) : bailiwicklaw10_fair.f (l.length + 1) l = some (fairB l) := by
  unfold bailiwicklaw10_fair.f fairB
  by_cases h : l.length ≤ 300
  · rw [if_neg (by omega), decide_eq_true h]
    have := fair_l0 l h l.length 0 (l.length + 1) (by omega) (by omega)
    simpa using this
  · rw [if_pos (by omega), decide_eq_false h]; rfl
theorem same_l0 (l : List S61) (hl : l.length ≤ 1000000) : ∀ (m i k : Nat), i + m = l.length → m + 1 ≤ k → bailiwickref10_Same.l0 k l l (i : Int) = some true := by
  intro m
  induction m with
  | zero =>
    intro i k hi hk
    obtain ⟨k, rfl⟩ : ∃ k', k = k' + 1 := ⟨k - 1, by omega⟩
    unfold bailiwickref10_Same.l0
    rw [if_neg (by omega)]
  | succ m ih =>
    intro i k hi hk
    obtain ⟨k, rfl⟩ : ∃ k', k = k' + 1 := ⟨k - 1, by omega⟩
    unfold bailiwickref10_Same.l0
    rw [if_pos (by omega), if_pos (by omega), if_pos (by omega), if_neg (by simp), wrap_succ i (by omega), ih (i + 1) k (by omega) (by omega)]
theorem same_f (l : List S61) (hl : l.length ≤ 1000000) : bailiwickref10_Same.f (l.length + 1) l l = some true := by
  unfold bailiwickref10_Same.f
  rw [if_pos rfl]
  exact same_l0 l hl l.length 0 (l.length + 1) (by omega) (by omega)

/-- A whole entry's numbers are in their bounds. -/
def wfE (x : S32) : Prop := (Lit.int .i64 x.f0).wf = true ∧ (Lit.int .i64 x.f1).wf = true ∧ (Lit.int .u32 x.f2).wf = true ∧ (Lit.int .u32 x.f3).wf = true ∧ (Lit.int .i64 x.f4).wf = true ∧ True
set_option maxHeartbeats 4000000 in
set_option maxRecDepth 100000 in
theorem spans_walk (w : World) (A : Option Addr) (c : Nat) (l : List S32) (hC : Kd.C k32 w A l.length l) (hc : l.length ≤ c) (hwf : ∀ x ∈ l, wfE x) :
    Calls Try.prog 3 #[.slice A l.length c] w fun e w' => e = .returned (.bool true) ∧ Below w.heap.size w w' := by
  have HC := Aside0.mk hC
  have HL := Aside0.mk hc
  have hw : ∀ e ∈ l, okK (keyE e) := fun e he => ⟨(hwf e he).2.2.2.1, (hwf e he).2.2.2.2.1⟩
  clear hwf
  have HW := Aside0.mk hw
  obtain ⟨b, hb⟩ : ∃ b, b = fairB l := ⟨_, rfl⟩
  have HF : Aside0 (bailiwicklaw10_fair.f (l.length + 1) l = some b) := ⟨hb ▸ fair_f l⟩
  have HBB := Aside0.mk hb
  clear hC hc hw hb
  go_enter Try.func3, Try.ntmps3
  go_wp2_with fail
  refine (awake_calls w).mono ?_
  rintro e w1 ⟨rfl, hb1⟩
  have HB1 := Aside0.mk hb1
  clear hb1
  go_wp2_with fail
  refine (bailiwicklaw10_fair.calls (l.length + 1) A c l b w1 (Kd.C_below HC.out HB1.out) HL.out HF.out).mono ?_
  rintro e w2 ⟨rfl, hd2⟩
  have HB2 : Aside0 (Below w.heap.size w w2) := ⟨below_step HB1.out hd2.below⟩
  clear hd2 HB1
  cases b with
  | false =>
    go_wp2
    go_ret
    exact ⟨rfl, HB2.out⟩
  | true =>
    have hfair : l.length ≤ 300 ∧ ∀ e ∈ l, -9223372036854775808 < e.f1 := by
      have hb := HBB.out.symm
      unfold fairB at hb
      simp only [Bool.and_eq_true, decide_eq_true_eq, List.all_eq_true] at hb
      exact ⟨hb.1, fun e he => by have := hb.2 e he; omega⟩
    have HR := Aside0.mk hfair
    clear hfair HF
    go_wp2_with fail
    refine (Spans_calls A c l w2 (Kd.C_below HC.out HB2.out) HL.out (by have := HR.out.1; omega) HW.out).mono ?_
    rintro e w3 ⟨v3, rfl, hr3, hb3⟩
    have HR3 := Aside0.mk hr3
    have HB3 : Aside0 (Below w.heap.size w w3) := ⟨below_step HB2.out hb3⟩
    clear hr3 hb3 HB2
    go_wp2_with fail
    refine (bailiwickref10_Spans.calls (4 * l.length + 2) A c l (spans l) w3 (Kd.C_below HC.out HB3.out) HL.out (spans_f l (by have := HR.out.1; omega) HR.out.2)).mono ?_
    rintro e w4 ⟨v4, rfl, hr4, hb4⟩
    obtain ⟨A1, c1, rfl, hl1, hC1⟩ := Kd.R_reads (Kd.R_below HR3.out hb4)
    obtain ⟨A2, c2, rfl, hl2, hC2⟩ := Kd.R_reads hr4
    have HB4 : Aside0 (Below w.heap.size w w4) := ⟨below_step HB3.out hb4⟩
    have H1 := Aside0.mk (And.intro hC1 hl1)
    have H2 := Aside0.mk (And.intro hC2 hl2)
    clear hr4 hb4 HB3 HR3 hC1 hl1 hC2 hl2
    go_wp2_with fail
    refine (bailiwickref10_Same.calls ((spans l).length + 1) A1 c1 (spans l) A2 c2 (spans l) true w4 H1.out.1 H1.out.2 H2.out.1 H2.out.2 (same_f _ (by have := spans_len l; have := HR.out.1; omega))).mono ?_
    rintro e w5 ⟨rfl, hd5⟩
    have HB5 : Aside0 (Below w.heap.size w w5) := ⟨below_step HB4.out hd5.below⟩
    clear hd5
    go_wp2
    go_ret
    exact ⟨rfl, HB5.out⟩
end Go.Proofs.Ytinjbfgjfmfibaa.Tr
