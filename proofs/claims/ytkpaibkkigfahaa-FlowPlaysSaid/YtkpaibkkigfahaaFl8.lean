/- chapter 19's laws: awake, FlowKnown. -/
import Derived.Test.YtkpaibkkigfahaaFl7
namespace Go.Proofs.Ytkpaibkkigfahaa.Fl
open Go.RowKit Go.Proofs.YtkpaibkkigfahaaW.PrintWords Go.Proofs.YtkpaibkkigfahaaW.PrintLast Go.Proofs.YtkpaibkkigfahaaW.PrintMore Go.Proofs.Ytkpaibkkigfahaa.Bs Go.Proofs.Ytkpaibkkigfahaa.Fr Go.Proofs.Ytkpaibkkigfahaa.Mp Go.Proofs.Ytkpaibkkigfahaa.Srt
open Go.Proofs.Ytkpaibkkigfahaa.PFlowPlays Go.Proofs.Ytkpaibkkigfahaa.FlP
set_option linter.unusedVariables false
set_option linter.unusedSimpArgs false

def fA : S46 := ⟨17, ⟨1, 1⟩, ⟨2, 2⟩, 5, 0, 0⟩
def aggA : Value := .agg #[.int .i64 17, .int .u32 1, .int .i64 1, .int .u32 2, .int .i64 2, .int .i64 5, .int .i64 0, .int .i64 0]
theorem okA : okK (keyF fA) := by unfold okK; decide
theorem len_row {w : World} {base : Nat} {v : Value} {xs : List S46} (h : k46.R 46 w base (fun _ => True) v xs) : ∃ A c, v = .slice A xs.length c := Kd.R_slice h
theorem lay0 : layE [] fA false 10 = 0 ∧ layM [] fA false = [fA] := ⟨by decide, rfl⟩
theorem lay1 : layE [fA] fA false 10 = 10 ∧ layM [fA] fA false = [fA] := ⟨by decide, rfl⟩
theorem PutA (w : World) (base g b : Nat) (h : FT w base g b []) (hb : base ≤ w.heap.size) : Calls Try.prog 22 #[.pointer (some ⟨g, 0, none⟩), .agg #[.int .i64 17, .int .u32 1, .int .i64 1, .int .u32 2, .int .i64 2, .int .i64 5, .int .i64 0, .int .i64 0]] w fun e' w' => e' = .returned (.int .i64 0) ∧ FT w' base g b [fA] ∧ Fr w w' (fun k => k = b) := by
  have h_ := Put_calls w base g b [] h fA okA hb
  rw [lay0.1, lay0.2] at h_
  exact h_
theorem PutB (w : World) (base g b : Nat) (h : FT w base g b [fA]) (hb : base ≤ w.heap.size) : Calls Try.prog 22 #[.pointer (some ⟨g, 0, none⟩), .agg #[.int .i64 17, .int .u32 1, .int .i64 1, .int .u32 2, .int .i64 2, .int .i64 5, .int .i64 0, .int .i64 0]] w fun e' w' => e' = .returned (.int .i64 10) ∧ FT w' base g b [fA] ∧ Fr w w' (fun k => k = b) := by
  have h_ := Put_calls w base g b [fA] h fA okA hb
  rw [lay1.1, lay1.2] at h_
  exact h_
theorem AllA (w : World) (base g b : Nat) (h : FT w base g b [fA]) : Calls Try.prog 23 #[.pointer (some ⟨g, 0, none⟩)] w fun e w' => (∃ A c, e = .returned (.slice A 1 c)) ∧ Below w.heap.size w w' :=
  (All_calls w base g b [fA] h (by decide)).mono (by
    rintro e w' ⟨v, rfl, hr, hb⟩
    obtain ⟨A, c, rfl⟩ := len_row hr
    exact ⟨⟨A, c, rfl⟩, hb⟩)
theorem DueA (w : World) (base g b : Nat) (h : FT w base g b [fA]) (now : Int) (n : Nat) (hn : ([fA].filter (fun f => decide (f.f3 ≤ now))).length = n) : Calls Try.prog 24 #[.pointer (some ⟨g, 0, none⟩), .int .i64 now] w fun e w' => (∃ A c, e = .returned (.slice A n c)) ∧ Below w.heap.size w w' :=
  (Due_calls w base g b [fA] h (by decide) now).mono (by
    rintro e w' ⟨v, rfl, hr, hb⟩
    obtain ⟨A, c, rfl⟩ := len_row hr
    exact ⟨⟨A, c, by rw [hn]⟩, hb⟩)
theorem CountA (w : World) (base g b : Nat) (h : FT w base g b [fA]) : Calls Try.prog 52 #[.pointer (some ⟨g, 0, none⟩), .int .u32 1] w fun e w' => e = .returned (.int .i64 1) ∧ Below w.heap.size w w' := Count_calls w base g b [fA] h (by decide) 1
theorem okA2 : okK (17, 1, 1, 2, 2) := okA
theorem has1 : hasM [fA] (17, 1, 1, 2, 2) = true ∧ delM [fA] (17, 1, 1, 2, 2) = [] := by decide
theorem DropA (w : World) (base g b : Nat) (h : FT w base g b [fA]) : Calls Try.prog 27 #[.pointer (some ⟨g, 0, none⟩), .int .i64 17, .agg #[.int .u32 1, .int .i64 1], .agg #[.int .u32 2, .int .i64 2]] w fun e' w' => e' = .returned (.bool true) ∧ FT w' base g b [] ∧ Fr w w' (fun k => k = b) := by
  have h_ := Drop_calls w base g b [fA] h 17 1 1 2 2 okA2
  rw [has1.1, has1.2] at h_
  exact h_
theorem DropB (w : World) (base g b : Nat) (h : FT w base g b []) : Calls Try.prog 27 #[.pointer (some ⟨g, 0, none⟩), .int .i64 17, .agg #[.int .u32 1, .int .i64 1], .agg #[.int .u32 2, .int .i64 2]] w fun e' w' => e' = .returned (.bool false) ∧ FT w' base g b [] ∧ Fr w w' (fun k => k = b) := Drop_calls w base g b [] h 17 1 1 2 2 okA2
def BA : Obj := .cells #[.int .i64 17, .int .u32 1, .int .i64 1, .int .u32 2, .int .i64 2, .int .i64 5, .int .i64 0, .int .i64 0] 46
set_option maxHeartbeats 2000000 in
set_option maxRecDepth 100000 in
theorem awake_calls (w : World) : Calls Try.prog 20 #[] w fun e w' => e = .returned (.bool true) ∧ Below w.heap.size w w' := by
  go_enter Try.func20, Try.ntmps20
  go_wp2_with fail
  refine (New_calls w).mono ?_
  rintro e w1 ⟨g, b, rfl, hf1, hb1⟩
  have F1 := Aside0.mk (hf1.below (below_alloc (Below.refl _ _) BA))
  have B1 := Aside0.mk (hb1.alloc hb1.size BA)
  clear hf1 hb1
  go_wp2_with fail
  refine (PutA _ _ g b F1.out B1.out.size).mono ?_
  rintro e w2 ⟨rfl, hf2, hr2⟩
  have F2 := Aside0.mk hf2
  have B2 := Aside0.mk (below_fr B1.out B1.out.size hr2 (fun k hk => by rw [hk]; exact F1.out.geb))
  clear hf2 hr2
  go_wp2_with fail
  refine (AllA _ _ g b F2.out).mono ?_
  rintro e w3 ⟨⟨A, c, rfl⟩, hb3⟩
  have F3 := Aside0.mk (F2.out.below hb3)
  have B3 := Aside0.mk (below_step B2.out hb3)
  clear hb3
  go_wp2_with fail
  refine (CountA _ _ g b F3.out).mono ?_
  rintro e w4 ⟨rfl, hb4⟩
  have B4 := Aside0.mk (below_step B3.out hb4)
  clear hb4
  go_wp2_with fail
  go_ret
  exact ⟨rfl, B4.out⟩
set_option maxHeartbeats 4000000 in
set_option maxRecDepth 100000 in
theorem known_walk (w : World) : Calls Try.prog 8 #[] w fun e w' => e = .returned (.bool true) ∧ Below w.heap.size w w' := by
  go_enter Try.func8, Try.ntmps8
  go_wp2_with fail
  refine (awake_calls w).mono ?_
  rintro e w0 ⟨rfl, hb0⟩
  have B0 := Aside0.mk hb0
  clear hb0
  go_wp2_with fail
  refine (New_calls w0).mono ?_
  rintro e w1 ⟨g, b, rfl, hf1, hb1⟩
  have F1 := Aside0.mk (hf1.below (below_alloc (Below.refl _ _) BA))
  have B1 := Aside0.mk ((below_step B0.out hb1).alloc (below_step B0.out hb1).size BA)
  have S1 := Aside0.mk (hb1.alloc hb1.size BA)
  have X1 := Aside0.mk (blk_new w1 BA)
  have GE := Aside0.mk (Nat.le_trans B0.out.size F1.out.geb)
  have hq : ∃ q, q = w1.heap.size := ⟨_, rfl⟩
  obtain ⟨q, hq⟩ := hq
  rw [← hq] at X1
  have HQ := Aside0.mk hq
  clear hf1 hb1 hq
  go_wp2_with fail
  rw [← HQ.out]
  refine (PutA _ _ g b F1.out S1.out.size).mono ?_
  rintro e w2 ⟨rfl, hf2, hr2⟩
  have F2 := Aside0.mk hf2
  have B2 := Aside0.mk (below_fr B1.out B1.out.size hr2 (fun k hk => by rw [hk]; exact GE.out))
  have S2 := Aside0.mk (Nat.le_trans S1.out.size hr2.size)
  have x2 := hr2.blk X1.out (fun he => by
    obtain ⟨l, _, hm⟩ := F1.out.map
    obtain ⟨es, cl, hbm⟩ := hm.obj
    have := X1.out
    rw [he, hbm] at this; cases this)
  have X2 := Aside0.mk x2
  have d20 : w2.cell? ⟨q, 0, none⟩ = some (.int .i64 17) := blk_cell X2.out 0
  have d21 : w2.cell? ⟨q, 1, none⟩ = some (.int .u32 1) := blk_cell X2.out 1
  have d22 : w2.cell? ⟨q, 2, none⟩ = some (.int .i64 1) := blk_cell X2.out 2
  have d23 : w2.cell? ⟨q, 3, none⟩ = some (.int .u32 2) := blk_cell X2.out 3
  have d24 : w2.cell? ⟨q, 4, none⟩ = some (.int .i64 2) := blk_cell X2.out 4
  have d25 : w2.cell? ⟨q, 5, none⟩ = some (.int .i64 5) := blk_cell X2.out 5
  have d26 : w2.cell? ⟨q, 6, none⟩ = some (.int .i64 0) := blk_cell X2.out 6
  have d27 : w2.cell? ⟨q, 7, none⟩ = some (.int .i64 0) := blk_cell X2.out 7
  clear hf2 hr2 x2
  go_wp2_with fail
  refine (PutB _ _ g b F2.out S2.out).mono ?_
  rintro e w3 ⟨rfl, hf3, hr3⟩
  have F3 := Aside0.mk hf3
  have B3 := Aside0.mk (below_fr B2.out B2.out.size hr3 (fun k hk => by rw [hk]; exact GE.out))
  have x3 := hr3.blk X2.out (fun he => by
    obtain ⟨l, _, hm⟩ := F2.out.map
    obtain ⟨es, cl, hbm⟩ := hm.obj
    have := X2.out
    rw [he, hbm] at this; cases this)
  have X3 := Aside0.mk x3
  clear hf3 hr3 x3 d20 d21 d22 d23 d24 d25 d26 d27
  go_wp2_with fail
  refine (DueA _ _ g b F3.out 4 0 (by decide)).mono ?_
  rintro e w4 ⟨⟨A4, c4, rfl⟩, hb4⟩
  have F4 := Aside0.mk (F3.out.below hb4)
  have B4 := Aside0.mk (below_step B3.out hb4)
  have X4 := Aside0.mk (blk_below X3.out hb4)
  clear hb4
  go_wp2_with fail
  refine (DueA _ _ g b F4.out 5 1 (by decide)).mono ?_
  rintro e w5 ⟨⟨A5, c5, rfl⟩, hb5⟩
  have F5 := Aside0.mk (F4.out.below hb5)
  have B5 := Aside0.mk (below_step B4.out hb5)
  have X5 := Aside0.mk (blk_below X4.out hb5)
  have d50 : w5.cell? ⟨q, 0, none⟩ = some (.int .i64 17) := blk_cell X5.out 0
  have d51 : w5.cell? ⟨q, 1, none⟩ = some (.int .u32 1) := blk_cell X5.out 1
  have d52 : w5.cell? ⟨q, 2, none⟩ = some (.int .i64 1) := blk_cell X5.out 2
  have d53 : w5.cell? ⟨q, 3, none⟩ = some (.int .u32 2) := blk_cell X5.out 3
  have d54 : w5.cell? ⟨q, 4, none⟩ = some (.int .i64 2) := blk_cell X5.out 4
  have d55 : w5.cell? ⟨q, 5, none⟩ = some (.int .i64 5) := blk_cell X5.out 5
  have d56 : w5.cell? ⟨q, 6, none⟩ = some (.int .i64 0) := blk_cell X5.out 6
  have d57 : w5.cell? ⟨q, 7, none⟩ = some (.int .i64 0) := blk_cell X5.out 7
  clear hb5
  go_wp2_with fail
  refine (DropA _ _ g b F5.out).mono ?_
  rintro e w6 ⟨rfl, hf6, hr6⟩
  have F6 := Aside0.mk hf6
  have B6 := Aside0.mk (below_fr B5.out B5.out.size hr6 (fun k hk => by rw [hk]; exact GE.out))
  have x6 := hr6.blk X5.out (fun he => by
    obtain ⟨l, _, hm⟩ := F5.out.map
    obtain ⟨es, cl, hbm⟩ := hm.obj
    have := X5.out
    rw [he, hbm] at this; cases this)
  have X6 := Aside0.mk x6
  have d60 : w6.cell? ⟨q, 0, none⟩ = some (.int .i64 17) := blk_cell X6.out 0
  have d61 : w6.cell? ⟨q, 1, none⟩ = some (.int .u32 1) := blk_cell X6.out 1
  have d62 : w6.cell? ⟨q, 2, none⟩ = some (.int .i64 1) := blk_cell X6.out 2
  have d63 : w6.cell? ⟨q, 3, none⟩ = some (.int .u32 2) := blk_cell X6.out 3
  have d64 : w6.cell? ⟨q, 4, none⟩ = some (.int .i64 2) := blk_cell X6.out 4
  have d65 : w6.cell? ⟨q, 5, none⟩ = some (.int .i64 5) := blk_cell X6.out 5
  have d66 : w6.cell? ⟨q, 6, none⟩ = some (.int .i64 0) := blk_cell X6.out 6
  have d67 : w6.cell? ⟨q, 7, none⟩ = some (.int .i64 0) := blk_cell X6.out 7
  clear hf6 hr6 x6 d50 d51 d52 d53 d54 d55 d56 d57
  go_wp2_with fail
  refine (DropB _ _ g b F6.out).mono ?_
  rintro e w7 ⟨rfl, hf7, hr7⟩
  have B7 := Aside0.mk (below_fr B6.out B6.out.size hr7 (fun k hk => by rw [hk]; exact GE.out))
  clear hf7 hr7
  go_wp2_with fail
  go_ret
  exact ⟨rfl, B7.out⟩
end Go.Proofs.Ytkpaibkkigfahaa.Fl
