/- The statement TraceApartly: its walk. -/
import Derived.Test.YtinjbfgjfmfibaaTr7
namespace Go.Proofs.Ytinjbfgjfmfibaa.Tr
open Go.RowKit Go.Proofs.YtinjbfgjfmfibaaW.PrintWords Go.Proofs.YtinjbfgjfmfibaaW.PrintLast Go.Proofs.YtinjbfgjfmfibaaW.PrintMore Go.Proofs.Ytinjbfgjfmfibaa.Bs Go.Proofs.Ytinjbfgjfmfibaa.Mp
open Go.Proofs.Ytinjbfgjfmfibaa.PTraceSpans
set_option linter.unusedVariables false
set_option linter.unusedSimpArgs false
theorem info_32 : (Try.prog.info? 32).map (fun i => (i.zero, i.size, i.bytes)) = some (some (.agg #[.int .i64 0, .int .i64 0, .int .u32 0, .int .u32 0, .int .i64 0]), 5, 32) := by kernel_rfl

theorem entA_ok {st who : List Int} (n : Nat) : ∀ e ∈ entA st who n, okK (keyE e) := by
  induction n with
  | zero => intro e he; simp [entA] at he
  | succ n ih =>
    intro e he
    unfold entA at he
    rcases List.mem_append.1 he with he | he
    · rcases List.mem_append.1 he with he | he
      · exact ih e he
      · simp at he; subst he; exact ⟨rfl, rfl⟩
    · simp at he; subst he; exact ⟨rfl, rfl⟩
set_option maxHeartbeats 4000000 in
set_option maxRecDepth 100000 in
theorem apartly_walk (w : World) (A1 : Option Addr) (c1 : Nat) (st : List Int) (hC1 : Kd.C (Kd.int .u8) w A1 st.length st) (hc1 : st.length ≤ c1) (hm1 : st.length * 1 ≤ 140737488351232) (hw1 : ∀ x ∈ st, (Lit.int .u8 x).wf = true)
    (A2 : Option Addr) (c2 : Nat) (who : List Int) (hC2 : Kd.C (Kd.int .u32) w A2 who.length who) (hc2 : who.length ≤ c2) (hm2 : who.length * 4 ≤ 140737488351232) (hw2 : ∀ x ∈ who, (Lit.int .u32 x).wf = true) :
    Calls Try.prog 4 #[.slice A1 st.length c1, .slice A2 who.length c2] w fun e w' => e = .returned (.bool true) ∧ Below w.heap.size w w' := by
  have hr1 : ∀ x ∈ st, 0 ≤ x ∧ x ≤ 255 := fun x hx => by
    have := hw1 x hx
    simp only [Lit.wf, Bool.and_eq_true, decide_eq_true_eq] at this
    exact ⟨this.1, this.2⟩
  have HC1 := Aside0.mk hC1
  have HC2 := Aside0.mk hC2
  have HR1 := Aside0.mk hr1
  have HM2 := Aside0.mk hm2
  have HT := Aside0.mk (timeA_range (st := st) hr1)
  have HS := Aside0.mk (stA_range (st := st) hr1)
  clear hC1 hC2 hw1 hw2 hm1 hm2 hr1
  go_enter Try.func4, Try.ntmps4
  by_cases hlen : st.length ≤ 200
  · have hl1 : ¬ ((st.length : Int) > 200) := by omega
    have HL := Aside0.mk hlen
    go_wp2_with fail
    refine (awake_calls w).mono ?_
    rintro e w1 ⟨rfl, hb1⟩
    have HB1 := Aside0.mk hb1
    clear hb1
    go_wp2_with fail
    go_loopg [5, 6, 7] st.length (fun q v5 v6 v7 wr => ∃ (i : Nat), v7 = .int .i64 i ∧ v6 = .int .i64 (timeA st i) ∧ Aside0 (q + i = st.length) ∧ Aside0 (Kd.R k32 32 wr w.heap.size (fun _ => True) v5 (entA st who i) ∧ Below w.heap.size w wr))
    case atStart => exact ⟨0, rfl, rfl, ⟨by omega⟩, ⟨Kd.R_nil _ _ _ _ _, HB1.out⟩⟩
    case round =>
      obtain ⟨i, rfl, rfl, hq, hat⟩ := hrel
      by_cases hi : i < st.length
      · have hi1 : ((i : Int) < (st.length : Int)) := by omega
        obtain ⟨ad1, hA1, hx1⟩ := (Kd.reads_of_C (d := (0 : Int)) HC1.out).at_ i (by omega) (by omega)
        subst hA1
        obtain ⟨x, hx⟩ : ∃ x, x = stA st i := ⟨_, rfl⟩
        have hxr := HS.out i
        have htr := HT.out i
        have hrd : rdOf 0 st (i : Int) = x := by rw [hx]; unfold rdOf stA; rw [Int.toNat_natCast]
        rw [hrd, Int.toNat_natCast] at hx1
        rw [← hx] at hxr
        have HX := Aside0.mk hx
        have HXW := Aside0.mk hx1
        have hx1 := pw_cell_below hat.out.2 HXW.out
        have HXR := Aside0.mk hxr
        have HTR := Aside0.mk htr
        have HEL : Aside0 ((entA st who i).length ≤ 400) := ⟨by rw [entA_len]; omega⟩
        clear hrd hx
        by_cases hi2 : i < who.length
        · have hi3 : ((i : Int) < (who.length : Int)) := by omega
          obtain ⟨ad2, hA2, hx2⟩ := (Kd.reads_of_C (d := (0 : Int)) (Kd.C_below HC2.out hat.out.2)).at_ i (by omega) (by omega)
          subst hA2
          have hrd2 : rdOf 0 who (i : Int) = subA who i := by unfold rdOf subA; rw [if_pos hi2, Int.toNat_natCast]
          rw [hrd2, Int.toNat_natCast] at hx2
          clear hrd2
          go_wp2_with (first
            | ((with_reducible refine gate_builtin (b := .append) (xs := #[.tmp 39, .tmp 43]) rfl ?_); at_builtin; refine Kd.R_append k32 (w0 := w) w.heap.size rfl (.tmp 39) (.tmp 43) 22 32 (.agg #[.int .i64 0, .int .i64 0, .int .u32 0, .int .u32 0, .int .i64 0]) 32 rfl Try.underlying22 info_32 rfl (by decide) (by omega) u5 (entA st who i) ⟨2, timeA st i + 1 + x, (subA who i), 1, 2⟩ [.int .i64 2, .int .i64 (timeA st i + 1 + x), .int .u32 (subA who i), .int .u32 1, .int .i64 2] (fun _ => True) (fun _ => False) rfl rfl (k32_mkM _ _ _ ⟨2, timeA st i + 1 + x, (subA who i), 1, 2⟩) (fun _ hk => hk.elim) (fun _ _ => trivial) hat.out.1 hat.out.2 hat.out.2.size (by have := HEL.out; omega) ?_; intro v2 w2 ho hb hg hat3; have HR2 := Aside0.mk ho; have HB2 := Aside0.mk hb; clear ho hb hg hat3 hx1 hx2; have hx1 := pw_cell_below HB2.out HXW.out)
            | ((with_reducible refine gate_builtin (b := .append) (xs := #[.tmp 53, .tmp 56]) rfl ?_); at_builtin; refine Kd.R_append k32 (w0 := w) w.heap.size rfl (.tmp 53) (.tmp 56) 22 32 (.agg #[.int .i64 0, .int .i64 0, .int .u32 0, .int .u32 0, .int .i64 0]) 32 rfl Try.underlying22 info_32 rfl (by decide) (by omega) v2 _ ⟨3, timeA st i + 1 + x + x % 8, 0, 1, 2⟩ [.int .i64 3, .int .i64 (timeA st i + 1 + x + x % 8), .int .u32 0, .int .u32 1, .int .i64 2] (fun _ => True) (fun _ => False) rfl rfl (k32_mkM _ _ _ ⟨3, timeA st i + 1 + x + x % 8, 0, 1, 2⟩) (fun _ hk => hk.elim) (fun _ _ => trivial) HR2.out HB2.out HB2.out.size (by have := HEL.out; simp; omega) ?_; intro v3 w3 ho hb hg hat3; have HR3 := Aside0.mk ho; have HB3 := Aside0.mk hb; clear ho hb hg hat3 hx1 hat HR2 HB2))
          have hE : entA st who i ++ [⟨2, timeA st i + 1 + x, (subA who i), 1, 2⟩] ++ [⟨3, timeA st i + 1 + x + x % 8, 0, 1, 2⟩] = entA st who (i + 1) := by
            rw [HX.out]; rfl
          have hT : timeA st i + 1 + x + x % 8 = timeA st (i + 1) := by rw [HX.out]; rfl
          have hr3 := HR3.out
          rw [hE] at hr3
          have HR4 := Aside0.mk hr3
          clear hE hr3 HR3
          go_roundg (gk - 1)
          case measure => have := hq.out; omega
          case rel => exact ⟨i + 1, by rw [show ((i + 1 : Nat) : Int) = (i : Int) + 1 from by omega], by rw [hT], ⟨by have := hq.out; omega⟩, ⟨HR4.out, HB3.out⟩⟩
        · have hi3 : ¬ ((i : Int) < (who.length : Int)) := by omega
          have hsub : (i : Int) = subA who i := by unfold subA; rw [if_neg hi2]
          have HSUB := Aside0.mk hsub
          clear hsub
          go_wp2_with (first
            | ((with_reducible refine gate_builtin (b := .append) (xs := #[.tmp 39, .tmp 43]) rfl ?_); at_builtin; refine Kd.R_append k32 (w0 := w) w.heap.size rfl (.tmp 39) (.tmp 43) 22 32 (.agg #[.int .i64 0, .int .i64 0, .int .u32 0, .int .u32 0, .int .i64 0]) 32 rfl Try.underlying22 info_32 rfl (by decide) (by omega) u5 (entA st who i) ⟨2, timeA st i + 1 + x, (i : Int), 1, 2⟩ [.int .i64 2, .int .i64 (timeA st i + 1 + x), .int .u32 (i : Int), .int .u32 1, .int .i64 2] (fun _ => True) (fun _ => False) rfl rfl (k32_mkM _ _ _ ⟨2, timeA st i + 1 + x, (i : Int), 1, 2⟩) (fun _ hk => hk.elim) (fun _ _ => trivial) hat.out.1 hat.out.2 hat.out.2.size (by have := HEL.out; omega) ?_; intro v2 w2 ho hb hg hat3; have HR2 := Aside0.mk ho; have HB2 := Aside0.mk hb; clear ho hb hg hat3 hx1; have hx1 := pw_cell_below HB2.out HXW.out)
            | ((with_reducible refine gate_builtin (b := .append) (xs := #[.tmp 53, .tmp 56]) rfl ?_); at_builtin; refine Kd.R_append k32 (w0 := w) w.heap.size rfl (.tmp 53) (.tmp 56) 22 32 (.agg #[.int .i64 0, .int .i64 0, .int .u32 0, .int .u32 0, .int .i64 0]) 32 rfl Try.underlying22 info_32 rfl (by decide) (by omega) v2 _ ⟨3, timeA st i + 1 + x + x % 8, 0, 1, 2⟩ [.int .i64 3, .int .i64 (timeA st i + 1 + x + x % 8), .int .u32 0, .int .u32 1, .int .i64 2] (fun _ => True) (fun _ => False) rfl rfl (k32_mkM _ _ _ ⟨3, timeA st i + 1 + x + x % 8, 0, 1, 2⟩) (fun _ hk => hk.elim) (fun _ _ => trivial) HR2.out HB2.out HB2.out.size (by have := HEL.out; simp; omega) ?_; intro v3 w3 ho hb hg hat3; have HR3 := Aside0.mk ho; have HB3 := Aside0.mk hb; clear ho hb hg hat3 hx1 hat HR2 HB2))
          have hE : entA st who i ++ [⟨2, timeA st i + 1 + x, (i : Int), 1, 2⟩] ++ [⟨3, timeA st i + 1 + x + x % 8, 0, 1, 2⟩] = entA st who (i + 1) := by
            rw [HSUB.out, HX.out]; rfl
          have hT : timeA st i + 1 + x + x % 8 = timeA st (i + 1) := by rw [HX.out]; rfl
          have hr3 := HR3.out
          rw [hE] at hr3
          have HR4 := Aside0.mk hr3
          clear hE hr3 HR3
          go_roundg (gk - 1)
          case measure => have := hq.out; omega
          case rel => exact ⟨i + 1, by rw [show ((i + 1 : Nat) : Int) = (i : Int) + 1 from by omega], by rw [hT], ⟨by have := hq.out; omega⟩, ⟨HR4.out, HB3.out⟩⟩
      · have hi1 : ¬ ((i : Int) < (st.length : Int)) := by omega
        have hie : i = st.length := by have := hq.out; omega
        subst hie
        obtain ⟨A5, c5, rfl⟩ := Kd.R_slice hat.out.1
        have HE := Aside0.mk (spans_entA (st := st) (who := who) HR1.out st.length)
        have HA := Aside0.mk (apart_spnA (st := st) (who := who) HR1.out st.length)
        go_wp2_with fail
        refine (Spans_calls A5 c5 (entA st who st.length) wr (Kd.R_reads' hat.out.1).2.2 (Kd.R_reads' hat.out.1).2.1 (by rw [entA_len]; omega) ?_).mono ?_
        · exact fun e he => entA_ok _ e he
        · rintro e_ w2 ⟨v2, rfl, hr2, hb2⟩
          rw [HE.out] at hr2
          obtain ⟨A6, c6, rfl⟩ := Kd.R_slice hr2
          have hsl : ((spnA st who st.length).length : Int) = (st.length : Int) := by rw [spnA_len]
          have HR2 := Aside0.mk hr2
          have HB2 := Aside0.mk (below_step hat.out.2 hb2)
          clear hr2 hb2 hat
          have heq : (((spnA st who st.length).length : Int) == (st.length : Int)) = true := by rw [hsl]; simp
          clear hsl
          go_wp2_with fail
          refine (Apart_calls A6 c6 (spnA st who st.length) w2 (Kd.R_reads' HR2.out).2.2 (Kd.R_reads' HR2.out).2.1 (by rw [spnA_len]; omega) (fun s hs => by
            have := spnA_open HR1.out st.length s hs
            unfold keyS
            rw [this.2.2.1, this.2.2.2]
            exact ⟨rfl, rfl⟩)).mono ?_
          rintro e_ w3 ⟨rfl, hb3⟩
          rw [HA.out]
          have HB3 := Aside0.mk (below_step HB2.out hb3)
          clear hb3
          go_wp2
          go_ret
          exact ⟨rfl, HB3.out⟩
  · have hl1 : (st.length : Int) > 200 := by omega
    go_wp2_with fail
    refine (awake_calls w).mono ?_
    rintro e w1 ⟨rfl, hb1⟩
    go_wp2
    go_ret
    exact ⟨rfl, hb1⟩
end Go.Proofs.Ytinjbfgjfmfibaa.Tr
