/- StrandKnown. -/
import Derived.Test.YtldddinebhopcaaSt14
namespace Go.Proofs.Ytldddinebhopcaa.St
open Go.RowKit Go.Shelf Go.Proofs.YtldddinebhopcaaW.PrintWords Go.Proofs.YtldddinebhopcaaW.PrintLast Go.Proofs.YtldddinebhopcaaW.PrintMore Go.Proofs.Ytldddinebhopcaa.Bs Go.Proofs.Ytldddinebhopcaa.Fr Go.Proofs.Ytldddinebhopcaa.Oct Go.Proofs.Ytldddinebhopcaa.Sec Go.Proofs.Ytldddinebhopcaa.Rg
set_option linter.unusedVariables false
set_option linter.unusedSimpArgs false
def z56 : List Int := List.replicate 56 0
def z57 : List Int := List.replicate 57 0
theorem z56_len : z56.length = 56 := by unfold z56; exact List.length_replicate
theorem z56_byt : Byt z56 := fun x hx => by unfold z56 at hx; rw [List.eq_of_mem_replicate hx]; omega
theorem hmk56 (W : World) : (Instr.makeSlice 23 (.int .i64 56) (.int .i64 56)).run Try.prog W = .ok (.slice (some ⟨W.heap.size, 0, none⟩) 56 56) (W.alloc (.cells (encs (Value.int .u8) z56).toArray 5)) := run_mk 56 (by decide) W
theorem hmk57 (W : World) : (Instr.makeSlice 23 (.int .i64 57) (.int .i64 57)).run Try.prog W = .ok (.slice (some ⟨W.heap.size, 0, none⟩) 57 57) (W.alloc (.cells (encs (Value.int .u8) z57).toArray 5)) := run_mk 57 (by decide) W
def fa1 : List Int := [90, 1, 97, 232, 183, 190, 67, 165]
theorem frame_a1 : frameL a1 = fa1 := by decide
theorem wait_wrM {m : DM} (h : m.wait = []) (i : Int) (b : List Int) : (wrM m i b).wait = [] := by
  unfold wrM
  split
  · split
    · show m.wait.tail = []; rw [h]; rfl
    · show m.wait.tail = []; rw [h]; rfl
  · exact h
theorem ops_wrM (m : DM) (i : Int) (b : List Int) : m.ops ≤ (wrM m i b).ops ∧ (wrM m i b).ops ≤ m.ops + 1 ∧ (wrM m i b).since.length ≤ m.since.length + 1 := by
  unfold wrM
  split
  · split
    · show m.ops ≤ m.ops + 1 ∧ m.ops + 1 ≤ m.ops + 1 ∧ m.since.length ≤ m.since.length + 1; omega
    · show m.ops ≤ m.ops + 1 ∧ m.ops + 1 ≤ m.ops + 1 ∧ (m.since ++ [_]).length ≤ m.since.length + 1; rw [List.length_append]; exact ⟨by omega, Int.le_refl _, Nat.le_refl _⟩
  · omega
def s1 : SM := ⟨0, frameL a1, [(a1, 0)]⟩
/-- The second record, of 56 bytes: it goes to the next sector. -/
theorem second_rec (d : DM) (hn : d.now.length = 3) (hw : d.wait = []) : aE s1 d z56 = 0 ∧ aS s1 d z56 = ⟨1, [] ++ frameL z56, [(a1, 0), (z56, 1)]⟩ := by
  have ho : tell (outc d) = 0 := by unfold outc; rw [hw]; rfl
  have hst : stM s1 d z56 = ⟨1, [], [(a1, 0)]⟩ := by
    unfold stM stepM
    rw [if_pos]
    · rfl
    · constructor
      · show (0 : Int) < (d.now.length : Int); rw [hn]; decide
      · show 64 < (frameL a1).length + (z56.length + 7); rw [frameL_len, z56_len, a1_len]; decide
  have hf : ¬ apFull s1 d z56 := by
    unfold apFull
    rw [hst, hn]
    show ¬ ((3 : Int) ≤ 1)
    omega
  have hb : ¬ (z56.length = 0 ∨ 56 < z56.length) := by rw [z56_len]; omega
  unfold aE aS
  rw [if_neg hb, if_neg hb]
  unfold apE apS
  rw [if_neg hf, if_neg hf, hst, ho]
  exact ⟨rfl, rfl⟩
set_option maxHeartbeats 2000000 in
set_option maxRecDepth 100000 in
theorem known_walk (w : World) : Calls Try.prog 3 #[] w fun e w' => e = .returned (.bool true) ∧ Below w.heap.size w w' := by
  have HF1 := Aside0.mk frame_a1
  go_enter Try.func3, Try.ntmps3
  go_wp2_with fail
  refine (awake_calls w).mono ?_
  rintro e w0 ⟨rfl, hb0⟩
  have B0 := Aside0.mk hb0
  have CA0 := Aside0.mk (C_a w0)
  have hconv := conv_a w0
  clear hb0
  go_wp2_with fail
  clear hconv
  refine (Frame_calls (some ⟨w0.heap.size, 0, none⟩) 1 a1 (w0.alloc aO) CA0.out (by rw [a1_len]; exact Nat.le_refl _) (by rw [a1_len]; decide) a1_byt).mono ?_
  rintro e w1 ⟨vf, rfl, hrf, hb1⟩
  rw [HF1.out] at hrf
  obtain ⟨Af, cf, ev⟩ := Kd.R_slice hrf
  subst ev
  have hfl : fa1.length = 8 := rfl
  have RF1 := Aside0.mk hrf
  have CF1 := Aside0.mk (Kd.R_reads' hrf).2.2
  have HCF := Aside0.mk (Kd.R_reads' hrf).2.1
  have B1 := Aside0.mk (below_step (below_alloc B0.out aO) hb1)
  have HCL : Aside0 (∀ a, Af = some a → a.block < w1.heap.size) := ⟨fun a ha => by
    subst ha
    have hc := at_zero CF1.out (by decide)
    obtain ⟨o, ho, _⟩ := not_walk_of_cell hc
    exact blk_lt ho⟩
  clear hrf hb1 CA0 B0
  go_wp2_with fail
  refine (both_calls w1 3 (by omega) (by omega)).mono ?_
  rintro e w2 ⟨g, v0, v1, gR, X, rfl, hT, hb2⟩
  have T2 := Aside0.mk hT
  have B2 := Aside0.mk (below_step B1.out hb2)
  have CF2 := Aside0.mk (Kd.C_below CF1.out hb2)
  have HW1 := Aside0.mk B1.out.size
  clear hT hb2 CF1 B1
  go_wp2_with fail
  refine (SD_open (fun _ => False) T2.out.d T2.out.bs (BM_m0 3) (fun _ h => h.elim) (fun _ _ h => h)).mono ?_
  rintro e w3 ⟨gs, u3, rfl, hS, hgs, hus, hb3⟩
  rw [open_m0] at hS
  have S3 := Aside0.mk hS
  have B3 := Aside0.mk (below_step B2.out hb3)
  have CF3 := Aside0.mk (Kd.C_below CF2.out hb3)
  clear hS hgs hus hb3 B2 CF2
  obtain ⟨fe, fs, fd⟩ := first_rec 3 (by omega)
  have FE := Aside0.mk (And.intro fe (And.intro fs fd))
  clear fe fs fd
  have CA := Aside0.mk (C_a w3)
  have SA := Aside0.mk (S3.out.below (below_alloc (Below.refl _ _) aO))
  have BA := Aside0.mk (below_alloc B3.out aO)
  have CFA := Aside0.mk (Kd.C_below CF3.out (below_alloc (Below.refl _ _) aO))
  have hconv := conv_a w3
  have hmk := hmk56
  go_wp2_with fail
  clear hconv
  refine (SD_append (b := a1) SA.out (m0_fine 3).1 (m0_fine 3).2.1 (by decide) (some ⟨w3.heap.size, 0, none⟩) 1 CA.out (by rw [a1_len]; exact Nat.le_refl _) a1_byt (fun a ha _ hf => by
    injection ha with ha
    subst ha
    exact absurd (S3.out.lt _ hf).1 (Nat.lt_irrefl _))).mono ?_
  rintro e w4 ⟨rfl, x2, x3, y2, y3, hS4, hf4, hft4⟩
  rw [FE.out.1]
  rw [FE.out.2.1, FE.out.2.2] at hS4
  have hS4 : SD w4 w1.heap.size (fun _ => False) g v0 v1 y2 y3 (wrM (m0 3) 0 (padL (frameL a1))) gs x2 x3 s1 := hS4
  have hlow3 : ∀ k, sfoot g v0 v1 (.slice none 0 0) (.slice none 0 0) gs u3 k → w.heap.size ≤ k := fun k hk => Nat.le_trans HW1.out (S3.out.lt k hk).2.1
  have B4 : Aside0 (Below w.heap.size w w4) := ⟨below_fr BA.out BA.out.size hf4 hlow3⟩
  have CF4 : Aside0 (Kd.C (Kd.int .u8) w4 Af fa1.length fa1) := ⟨Cb_kept CFA.out (fun a ha h0 hf => by
    have h1 := (S3.out.lt _ hf).2.1
    have h2 := HCL.out a ha
    omega) hf4⟩
  have S4 := Aside0.mk hS4
  have HD4 : Aside0 ((wrM (m0 3) 0 (padL (frameL a1))).now.length = 3 ∧ (wrM (m0 3) 0 (padL (frameL a1))).wait = [] ∧ (0 ≤ (wrM (m0 3) 0 (padL (frameL a1))).ops ∧ (wrM (m0 3) 0 (padL (frameL a1))).ops ≤ 1000000000) ∧ (wrM (m0 3) 0 (padL (frameL a1))).since.length ≤ 1000000) := ⟨by
    obtain ⟨h1, h2, h3⟩ := ops_wrM (m0 3) 0 (padL (frameL a1))
    have h4 : (m0 3).ops = 0 := rfl
    have h5 : (m0 3).since.length = 0 := rfl
    exact ⟨by rw [wrM_len]; exact (m0_fine 3).2.2.2, wait_wrM rfl _ _, by omega, by omega⟩⟩
  clear hS4 hf4 hft4 hlow3 S3 FE SA BA CFA CF3 B3
  generalize wrM (m0 3) 0 (padL (frameL a1)) = d4 at *
  obtain ⟨ge, gs2⟩ := second_rec d4 HD4.out.1 HD4.out.2.1
  have GE := Aside0.mk (And.intro ge gs2)
  clear ge gs2
  have CZ : Aside0 (Kd.C (Kd.int .u8) (w4.alloc (.cells (encs (Value.int .u8) z56).toArray 5)) (some ⟨w4.heap.size, 0, none⟩) z56.length z56) := ⟨lit_C (enc := Value.int .u8) (h1 := fun _ => rfl) (e := 5) w4 z56 (by rw [z56_len]; decide)⟩
  have SZ := Aside0.mk (S4.out.below (below_alloc (Below.refl _ _) (.cells (encs (Value.int .u8) z56).toArray 5)))
  have BZ := Aside0.mk (below_alloc B4.out (.cells (encs (Value.int .u8) z56).toArray 5))
  have CFZ := Aside0.mk (Kd.C_below CF4.out (below_alloc (Below.refl _ _) (.cells (encs (Value.int .u8) z56).toArray 5)))
  have AP : Aside0 (_) := ⟨SD_append (b := z56) SZ.out HD4.out.2.2.1 HD4.out.2.2.2 (by show 1 ≤ 1000000; decide) (some ⟨w4.heap.size, 0, none⟩) 56 CZ.out (by rw [z56_len]; exact Nat.le_refl _) z56_byt (fun a ha _ hf => by
    injection ha with ha
    subst ha
    exact absurd (S4.out.lt _ hf).1 (Nat.lt_irrefl _))⟩
  rw [z56_len] at AP
  go_wp2_with fail
  clear hmk
  refine AP.out.mono ?_
  rintro e w5 ⟨rfl, z2, z3, q2, q3, hS5, hf5, hft5⟩
  rw [GE.out.1]
  rw [GE.out.2] at hS5
  have B5 : Aside0 (Below w.heap.size w w5) := ⟨below_fr BZ.out BZ.out.size hf5 (fun k hk => Nat.le_trans HW1.out (S4.out.lt k hk).2.1)⟩
  have CF5 : Aside0 (Kd.C (Kd.int .u8) w5 Af fa1.length fa1) := ⟨Cb_kept CFZ.out (fun a ha h0 hf => by
    have h1 := (S4.out.lt _ hf).2.1
    have h2 := HCL.out a ha
    omega) hf5⟩
  have S5 := Aside0.mk hS5
  clear hS5 hf5 hft5 AP S4 SZ BZ CFZ CZ CF4 B4
  go_wp2_with fail
  refine (Place_calls w5 w1.heap.size gs g _ z2 z3 _ S5.out.sv).mono ?_
  rintro e w6 ⟨rfl, rfl⟩
  have hfl2 : (([] ++ frameL z56).length : Int) = 63 := by rw [List.nil_append, frameL_len, z56_len]; rfl
  rw [show (⟨1, [] ++ frameL z56, [(a1, 0), (z56, 1)]⟩ : SM).ahead = [] ++ frameL z56 from rfl, hfl2]
  clear hfl2
  go_wp2_with fail
  refine (Frame_nil none 0 w5.drew).mono ?_
  rintro e w7 ⟨rfl, rfl⟩
  have hmk := hmk57
  go_wp2_with fail
  clear hmk
  refine (Frame_long _ 57 57 _ (by decide)).mono ?_
  rintro e w8 ⟨rfl, rfl⟩
  have B8 := Aside0.mk (below_alloc B5.out (.cells (encs (Value.int .u8) z57).toArray 5)).drew
  have CF8 := Aside0.mk (Kd.C_below CF5.out (below_alloc (Below.refl _ _) (.cells (encs (Value.int .u8) z57).toArray 5)).drew)
  clear CF5 B5
  generalize (w5.alloc (.cells (encs (Value.int .u8) z57).toArray 5)).drew = w9 at *
  have CL : Aside0 (Kd.C (Kd.int .u8) (w9.alloc (.cells (encs (Value.int .u8) fa1).toArray 5)) (some ⟨w9.heap.size, 0, none⟩) fa1.length fa1) := ⟨lit_C (enc := Value.int .u8) (h1 := fun _ => rfl) (e := 5) w9 fa1 (by rw [hfl]; decide)⟩
  have CF9 := Aside0.mk (Kd.C_below CF8.out (below_alloc (Below.refl _ _) (.cells (encs (Value.int .u8) fa1).toArray 5)))
  have SAME : Aside0 (_) := ⟨same_any (w9.alloc (.cells (encs (Value.int .u8) fa1).toArray 5)) Af (some ⟨w9.heap.size, 0, none⟩) cf 8 fa1 fa1 (by rw [hfl]; decide) CF9.out HCF.out CL.out (by rw [hfl]; exact Nat.le_refl _)⟩
  rw [hfl, decide_eq_true (rfl : fa1 = fa1)] at SAME
  go_wp2_with fail
  refine SAME.out.mono ?_
  rintro e w10 ⟨rfl, hb10⟩
  have B10 := Aside0.mk (below_step (below_alloc B8.out (.cells (encs (Value.int .u8) fa1).toArray 5)) hb10)
  go_wp2
  go_ret
  exact ⟨rfl, B10.out⟩
end Go.Proofs.Ytldddinebhopcaa.St
