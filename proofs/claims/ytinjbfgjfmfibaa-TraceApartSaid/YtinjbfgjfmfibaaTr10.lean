/- The statements TraceKnown and TraceApart: their walks. -/
import Derived.Test.YtinjbfgjfmfibaaTr9
import Derived.Test.YtinjbfgjfmfibaaPTraceKnownx8
import Derived.Test.YtinjbfgjfmfibaaPTraceApartx9
namespace Go.Proofs.Ytinjbfgjfmfibaa.Tr
open Go.RowKit Go.Proofs.YtinjbfgjfmfibaaW.PrintWords Go.Proofs.YtinjbfgjfmfibaaW.PrintLast Go.Proofs.YtinjbfgjfmfibaaW.PrintMore Go.Proofs.Ytinjbfgjfmfibaa.Bs Go.Proofs.Ytinjbfgjfmfibaa.Mp
open Go.Proofs.Ytinjbfgjfmfibaa.PTraceSpans
set_option linter.unusedVariables false
set_option linter.unusedSimpArgs false

theorem C_map {α β : Type} {dA : Kd α} {dB : Kd β} (f : α → β) (hsz : dA.sz = dB.sz) {w : World} (hK : ∀ x c, dA.K w x c → dB.K w (f x) c) {A : Option Addr} {n : Nat} {xs : List α} (h : dA.C w A n xs) : dB.C w A n (xs.map f) := by
  obtain ⟨h1, h2, h3⟩ := h
  refine ⟨by rw [List.length_map]; exact h1, h2, fun hn => ?_⟩
  obtain ⟨ad, hA, hc⟩ := h3 hn
  refine ⟨ad, hA, fun j p hj => ?_⟩
  rw [List.getElem?_map] at hj
  cases hx : xs[j]? with
  | none => rw [hx] at hj; cases hj
  | some x =>
    rw [hx] at hj
    simp only [Option.map_some, Option.some.injEq] at hj
    subst hj
    obtain ⟨c, h4, h5, h6⟩ := hc j x hx
    exact ⟨c, by rw [h4, hsz], hK _ _ h5, by rw [← hsz]; exact h6⟩
theorem subs_f (l : List Int) (hl : l.length ≤ 1) : PTraceKnown.bailiwicklaw10_subs.f 2 l l = some true := by
  unfold PTraceKnown.bailiwicklaw10_subs.f
  rw [if_pos rfl]
  unfold PTraceKnown.bailiwicklaw10_subs.l0
  by_cases h : 0 < l.length
  · rw [if_pos (by omega), if_pos (by omega), if_pos (by omega), if_pos rfl]
    unfold PTraceKnown.bailiwicklaw10_subs.l0
    rw [if_neg (by unfold wrap64; omega)]
  · rw [if_neg (by omega)]

set_option maxHeartbeats 1000000 in
set_option maxRecDepth 100000 in
theorem known_walk (w : World) : Calls Try.prog 11 #[] w fun e w' => e = .returned (.bool true) ∧ Below w.heap.size w w' := by
  go_enter Try.func11, Try.ntmps11
  go_wp2_with fail
  refine (awake_calls w).mono ?_
  rintro e w0 ⟨rfl, hb0⟩
  have HB0 := Aside0.mk hb0
  clear hb0
  go_wp2_with fail
  refine (bailiwicklaw10_story.calls storyL w0 story_f).mono ?_
  rintro e w1 ⟨v1, rfl, hr1, hb1⟩
  obtain ⟨A1, c1, rfl, hl1, hC1⟩ := Kd.R_reads hr1
  have HB1 := Aside0.mk (below_step HB0.out hb1)
  have HC1 := Aside0.mk hC1
  have HL1 := Aside0.mk hl1
  clear hb1 hC1 hl1 hr1
  go_wp2_with fail
  refine (Spans_calls A1 c1 storyL w1 HC1.out HL1.out (by decide) story_ok).mono ?_
  rintro e w2 ⟨v2, rfl, hr2, hb2⟩
  rw [story_spans] at hr2
  obtain ⟨A2, c2, rfl, hl2, hC2⟩ := Kd.R_reads hr2
  have HB2 := Aside0.mk (below_step HB1.out hb2)
  have HC2 := Aside0.mk hC2
  have HL2 := Aside0.mk hl2
  clear hb2 hC2 hl2 hr2 HC1 HL1 HB1
  go_wp2_with fail
  refine (Who_short A2 c2 storyS 9 0 4 w2 HC2.out HL2.out (by decide) (by decide)).mono ?_
  rintro e w3 ⟨v3, rfl, hr3, hb3⟩
  rw [show coll storyS 9 0 4 = [] from by decide] at hr3
  obtain ⟨A3, c3, rfl, hl3, hC3⟩ := Kd.R_reads hr3
  have HB3 := Aside0.mk (below_step HB2.out hb3)
  have HC3 := Aside0.mk (Kd.C_below HC2.out hb3)
  clear hr3 hb3 hl3 hC3 HB2 HC2
  go_wp2_with fail
  refine (Who_short A2 c2 storyS 9 0 5 w3 HC3.out HL2.out (by decide) (by decide)).mono ?_
  rintro e w4 ⟨v4, rfl, hr4, hb4⟩
  rw [show coll storyS 9 0 5 = [7] from by decide] at hr4
  obtain ⟨A4, c4, rfl, hl4, hC4⟩ := Kd.R_reads hr4
  have HB4 := Aside0.mk (below_step HB3.out hb4)
  have HC4 := Aside0.mk (Kd.C_below HC3.out hb4)
  have HD4 := Aside0.mk (And.intro hC4 hl4)
  clear hr4 hb4 hl4 hC4 HB3 HC3
  go_wp2_with fail
  refine (PTraceKnown.bailiwicklaw10_subs.calls 2 A4 c4 [7] (some ⟨w4.heap.size, 0, none⟩) 1 [7] true (w4.alloc (.cells #[.int .u32 7] 30)) (Kd.C_alloc HD4.out.1 _) HD4.out.2 (lit_C w4 [7] (by decide)) (by decide) (subs_f _ (by decide))).mono ?_
  rintro e w5 ⟨rfl, hd5⟩
  have HB5 : Aside0 (Below w.heap.size w w5) := ⟨below_step (HB4.out.alloc HB4.out.size _) hd5.below⟩
  have HC5 := Aside0.mk (Kd.C_below (Kd.C_alloc HC4.out _) hd5.below)
  clear hd5 HB4 HC4
  go_wp2_with fail
  refine (Who_short A2 c2 storyS 9 0 9 w5 HC5.out HL2.out (by decide) (by decide)).mono ?_
  rintro e w6 ⟨v6, rfl, hr6, hb6⟩
  rw [show coll storyS 9 0 9 = [7] from by decide] at hr6
  obtain ⟨A6, c6, rfl, hl6, hC6⟩ := Kd.R_reads hr6
  have HB6 := Aside0.mk (below_step HB5.out hb6)
  have HC6 := Aside0.mk (Kd.C_below HC5.out hb6)
  have HD6 := Aside0.mk (And.intro hC6 hl6)
  clear hr6 hb6 hl6 hC6 HB5 HC5
  go_wp2_with fail
  refine (PTraceKnown.bailiwicklaw10_subs.calls 2 A6 c6 [7] (some ⟨w6.heap.size, 0, none⟩) 1 [7] true (w6.alloc (.cells #[.int .u32 7] 30)) (Kd.C_alloc HD6.out.1 _) HD6.out.2 (lit_C w6 [7] (by decide)) (by decide) (subs_f _ (by decide))).mono ?_
  rintro e w7 ⟨rfl, hd7⟩
  have HB7 : Aside0 (Below w.heap.size w w7) := ⟨below_step (HB6.out.alloc HB6.out.size _) hd7.below⟩
  have HC7 := Aside0.mk (Kd.C_below (Kd.C_alloc HC6.out _) hd7.below)
  clear hd7 HB6 HC6
  go_wp2_with fail
  refine (Who_short A2 c2 storyS 9 0 10 w7 HC7.out HL2.out (by decide) (by decide)).mono ?_
  rintro e w8 ⟨v8, rfl, hr8, hb8⟩
  rw [show coll storyS 9 0 10 = [] from by decide] at hr8
  obtain ⟨A8, c8, rfl, hl8, hC8⟩ := Kd.R_reads hr8
  have HB8 := Aside0.mk (below_step HB7.out hb8)
  have HC8 := Aside0.mk (Kd.C_below HC7.out hb8)
  clear hr8 hb8 hl8 hC8 HB7 HC7
  go_wp2_with fail
  refine (Who_short A2 c2 storyS 9 0 99 w8 HC8.out HL2.out (by decide) (by decide)).mono ?_
  rintro e w9 ⟨v9, rfl, hr9, hb9⟩
  rw [show coll storyS 9 0 99 = [8] from by decide] at hr9
  obtain ⟨A9, c9, rfl, hl9, hC9⟩ := Kd.R_reads hr9
  have HB9 := Aside0.mk (below_step HB8.out hb9)
  have HC9 := Aside0.mk (Kd.C_below HC8.out hb9)
  have HD9 := Aside0.mk (And.intro hC9 hl9)
  clear hr9 hb9 hl9 hC9 HB8 HC8
  go_wp2_with fail
  refine (PTraceKnown.bailiwicklaw10_subs.calls 2 A9 c9 [8] (some ⟨w9.heap.size, 0, none⟩) 1 [8] true (w9.alloc (.cells #[.int .u32 8] 30)) (Kd.C_alloc HD9.out.1 _) HD9.out.2 (lit_C w9 [8] (by decide)) (by decide) (subs_f _ (by decide))).mono ?_
  rintro e w10 ⟨rfl, hd10⟩
  have HB10 : Aside0 (Below w.heap.size w w10) := ⟨below_step (HB9.out.alloc HB9.out.size _) hd10.below⟩
  have HC10 := Aside0.mk (Kd.C_below (Kd.C_alloc HC9.out _) hd10.below)
  clear hd10 HB9 HC9
  go_wp2_with fail
  refine (Apart_calls A2 c2 storyS w10 HC10.out HL2.out (by decide) (by intro s hs; simp only [storyS, List.mem_cons, List.not_mem_nil, or_false] at hs; rcases hs with rfl | rfl <;> exact ⟨rfl, rfl⟩)).mono ?_
  rintro e wz ⟨rfl, hbz⟩
  rw [show apartB storyS = true from by decide]
  have HBZ := Aside0.mk (below_step HB10.out hbz)
  clear hbz
  go_wp2
  go_ret
  exact ⟨rfl, HBZ.out⟩
end Go.Proofs.Ytinjbfgjfmfibaa.Tr
