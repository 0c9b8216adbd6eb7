/- chapter 8: awake. -/
import Derived.Test.YtldddinebhopcaaSt12
import Derived.Lib.SlBytesConst
namespace Go.Proofs.Ytldddinebhopcaa.St
open Go.RowKit Go.Shelf Go.Proofs.YtldddinebhopcaaW.PrintWords Go.Proofs.YtldddinebhopcaaW.PrintLast Go.Proofs.YtldddinebhopcaaW.PrintMore Go.Proofs.Ytldddinebhopcaa.Bs Go.Proofs.Ytldddinebhopcaa.Fr Go.Proofs.Ytldddinebhopcaa.Oct Go.Proofs.Ytldddinebhopcaa.Sec Go.Proofs.Ytldddinebhopcaa.Rg
set_option linter.unusedVariables false
set_option linter.unusedSimpArgs false
theorem m0_fine (n : Nat) : (0 ≤ (m0 n).ops ∧ (m0 n).ops ≤ 1000000000) ∧ (m0 n).since.length ≤ 1000000 ∧ outc (m0 n) = 0 ∧ (m0 n).now.length = n := ⟨⟨Int.le_refl _, by show (0 : Int) ≤ _; omega⟩, by show 0 ≤ _; omega, rfl, by unfold m0; simp⟩
def a1 : List Int := [97]
theorem a1_byt : Byt a1 := fun x hx => by rw [List.mem_singleton.1 hx]; omega
theorem a1_len : a1.length = 1 := rfl
/-- The first record, on a fresh disk. -/
theorem first_rec (n : Nat) (hn : 1 ≤ n) : aE ⟨0, [], []⟩ (m0 n) a1 = 0 ∧ aS ⟨0, [], []⟩ (m0 n) a1 = ⟨0, frameL a1, [(a1, 0)]⟩ ∧ aD ⟨0, [], []⟩ (m0 n) a1 = wrM (m0 n) 0 (padL (frameL a1)) := by
  have hl := (m0_fine n).2.2.2
  have ho := (m0_fine n).2.2.1
  have hst : stM ⟨0, [], []⟩ (m0 n) a1 = ⟨0, [], []⟩ := by
    unfold stM stepM
    rw [if_neg]
    intro h
    have h2 : 64 < 0 + (a1.length + 7) := h.2
    rw [a1_len] at h2
    omega
  have hf : ¬ apFull ⟨0, [], []⟩ (m0 n) a1 := by
    unfold apFull
    rw [hst, hl]
    show ¬ ((n : Int) ≤ 0)
    omega
  have hb : ¬ (a1.length = 0 ∨ 56 < a1.length) := by rw [a1_len]; omega
  have ht : tell (outc (m0 n)) = 0 := by rw [ho]; rfl
  unfold aE aS aD
  rw [if_neg hb, if_neg hb, if_neg hb]
  unfold apE apS apD
  rw [if_neg hf, if_neg hf, if_neg hf, hst, ht]
  exact ⟨rfl, rfl, rfl⟩
/-- The bytes of "a", as a slice of one's own. -/
def aO : Obj := .cells #[.int .u8 97] 5 (1, 2)
theorem conv_a (w : World) : (convert 23 23 (.slice (some ⟨w.heap.size, 0, none⟩) 1 1)).run Try.prog (w.alloc (.cells #[.int .u8 97] 5)) = .ok (.slice (some ⟨w.heap.size, 0, none⟩) 1 1) (w.alloc aO) :=
  Lib.run_convert_bytes_const w 23 5 #[.int .u8 97] 1 1 Try.underlying23 Try.underlying5
theorem C_a (w : World) : Kd.C (Kd.int .u8) (w.alloc aO) (some ⟨w.heap.size, 0, none⟩) a1.length a1 := by
  refine Kd.C_of_reads (d := (0 : Int)) (h1 := fun _ => rfl) ⟨rfl, by rw [a1_len]; decide, fun _ => ⟨⟨w.heap.size, 0, none⟩, rfl, fun j hj => ?_⟩⟩
  rw [a1_len] at hj
  obtain rfl : j = 0 := by omega
  have h := blk_new w aO
  have e : (⟨w.heap.size, 0, none⟩ : Addr).add 0 = ⟨w.heap.size, 0, none⟩ := by rw [add0]
  rw [e]
  unfold World.cell?
  rw [h]
  rfl
set_option maxHeartbeats 2000000 in
set_option maxRecDepth 100000 in
theorem awake_calls (w : World) : Calls Try.prog 10 #[] w fun e w' => e = .returned (.bool true) ∧ Below w.heap.size w w' := by
  go_enter Try.func10, Try.ntmps10
  go_wp2_with fail
  refine (both_calls w 2 (by omega) (by omega)).mono ?_
  rintro e w1 ⟨g, v0, v1, gR, X, rfl, hT, hb1⟩
  have T1 := Aside0.mk hT
  have B1 := Aside0.mk hb1
  clear hT hb1
  go_wp2_with fail
  refine (SD_open (fun _ => False) T1.out.d T1.out.bs (BM_m0 2) (fun _ h => h.elim) (fun _ _ h => h)).mono ?_
  rintro e w2 ⟨gs, u3, rfl, hS, hgs, hus, hb2⟩
  rw [open_m0] at hS
  have S2 := Aside0.mk hS
  have B2 := Aside0.mk (below_step B1.out hb2)
  have HF2 : Aside0 (∀ k, sfoot g v0 v1 (.slice none 0 0) (.slice none 0 0) gs u3 k → w.heap.size ≤ k) := ⟨fun k hk => (hS.lt k hk).2.1⟩
  have HLT2 : Aside0 (∀ k, sfoot g v0 v1 (.slice none 0 0) (.slice none 0 0) gs u3 k → k < w2.heap.size) := ⟨fun k hk => (hS.lt k hk).1⟩
  clear hS hgs hus hb2
  obtain ⟨fe, fs, fd⟩ := first_rec 2 (by omega)
  have FE := Aside0.mk (And.intro fe (And.intro fs fd))
  clear fe fs fd
  have CA := Aside0.mk (C_a w2)
  have SA := Aside0.mk (S2.out.below (below_alloc (Below.refl _ _) aO))
  have hconv := conv_a w2
  go_wp2_with fail
  clear hconv
  refine (SD_append (b := a1) SA.out (m0_fine 2).1 (m0_fine 2).2.1 (by decide) (some ⟨w2.heap.size, 0, none⟩) 1 CA.out (by rw [a1_len]; exact Nat.le_refl _) a1_byt (fun a ha _ hf => by
    injection ha with ha
    subst ha
    have := HLT2.out _ hf
    exact absurd this (Nat.lt_irrefl _))).mono ?_
  rintro e w3 ⟨rfl, x2, x3, y2, y3, hS3, hf3, hft3⟩
  rw [FE.out.1]
  rw [FE.out.2.1] at hS3
  have S3 := Aside0.mk hS3
  have B3 : Aside0 (Below w.heap.size w w3) := ⟨below_fr (below_alloc B2.out aO) (below_alloc B2.out aO).size hf3 (fun k hk => HF2.out k hk)⟩
  clear hS3 hf3 hft3
  go_wp2_with fail
  refine (Place_calls w3 w.heap.size gs g _ x2 x3 _ S3.out.sv).mono ?_
  rintro e w4 ⟨rfl, rfl⟩
  have hfl : ((frameL a1).length : Int) = 8 := by rw [frameL_len]; rfl
  rw [show (⟨0, frameL a1, [(a1, 0)]⟩ : SM).ahead = frameL a1 from rfl, hfl]
  go_wp2_with fail
  refine (All_calls w3.drew w.heap.size gs g _ x2 x3 _ (S3.out.below (below_drew (Below.refl _ _))).sv (by show 1 ≤ _; decide) S3.out.short).mono ?_
  rintro e w5 ⟨v5, rfl, hR5, hb5⟩
  have R5 : Aside0 (Kd.R kL 23 w5 w3.drew.heap.size (fun _ => True) v5 [a1]) := ⟨hR5⟩
  have B5 := Aside0.mk (below_step B3.out.drew hb5)
  clear hR5 hb5
  obtain ⟨g5, c5, rfl, _⟩ := Kd.R_form R5.out (by decide)
  obtain ⟨cs, hcl, hM, hcc, _⟩ := Kd.R_elem R5.out ([] : List Int) 0 (by decide) (by decide)
  obtain ⟨v6, rfl, hR6⟩ := hM
  obtain ⟨A6, c6, ev⟩ := Kd.R_slice hR6
  subst ev
  have hR6 : Kd.R (Kd.int .u8) 5 w5 w3.drew.heap.size _ (.slice A6 a1.length c6) a1 := hR6
  have kk : w5.cell? ⟨g5, 0, none⟩ = some (.slice A6 1 c6) := hcc 0 _ rfl
  have C6 := Aside0.mk (Kd.R_reads' hR6).2.2
  have hst : (convert 23 9 (.slice A6 1 c6)).run Try.prog w5 = .ok (.string ⟨#[97]⟩) w5 := conv_C C6.out (by decide) c6
  have hl1 : [a1].length = 1 := rfl
  rw [hl1]
  clear hcl hcc hR6 hfl
  go_wp2
  go_ret
  exact ⟨rfl, B5.out⟩
end Go.Proofs.Ytldddinebhopcaa.St
