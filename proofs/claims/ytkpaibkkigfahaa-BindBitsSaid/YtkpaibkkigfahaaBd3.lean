/- chapter 18's laws: awake. -/
import Derived.Test.YtkpaibkkigfahaaBd2
namespace Go.Proofs.Ytkpaibkkigfahaa.Bd
open Go.RowKit Go.Proofs.YtkpaibkkigfahaaW.PrintWords Go.Proofs.YtkpaibkkigfahaaW.PrintLast Go.Proofs.YtkpaibkkigfahaaW.PrintMore Go.Proofs.Ytkpaibkkigfahaa.Bs Go.Proofs.Ytkpaibkkigfahaa.Fr Go.Proofs.Ytkpaibkkigfahaa.Mp
open Go.Proofs.Ytkpaibkkigfahaa.PBindLets
set_option linter.unusedVariables false
set_option linter.unusedSimpArgs false
abbrev cA : Int := 167772162
abbrev cO : Int := 16909060
def LiA : List (Key × Value) := [((17, 167772162, 1), vM 17 167772162 1 16909060 9)]
def LoA : List (Key × Value) := [((17, 16909060, 9), .agg #[.int .u32 167772162, .int .i64 1])]
theorem PutA (w : World) (base g bi bo : Nat) (h : BT w base g bi bo [] []) : Calls Try.prog 15 #[.pointer (some ⟨g, 0, none⟩), .agg (lM 17 167772162 1 16909060 9).toArray] w fun e' w' => e' = .returned (.int .i64 0) ∧ BT w' base g bi bo LiA LoA ∧ Fr w w' (fun k => k = bi ∨ k = bo) :=
  (Put_calls w base g bi bo [] [] h 17 167772162 1 16909060 9 (.inr rfl) (by decide) (by decide) (by unfold okK; decide) (by unfold okK; decide) rfl 0 0 false ⟨rfl, rfl⟩).mono (fun e w' hh => ⟨(hh.2.1 rfl).1, (hh.2.1 rfl).2, hh.2.2⟩)
theorem GetA (w : World) (base g bi bo : Nat) (h : BT w base g bi bo LiA LoA) : Calls Try.prog 37 #[.pointer (some ⟨g, 0, none⟩), .int .i64 17, .agg #[.int .u32 167772162, .int .i64 1]] w fun e' w' => e' = .returned (.tuple #[.agg (lM 17 167772162 1 16909060 9).toArray, .bool true]) ∧ Below w.heap.size w w' :=
  Get_found w base g bi bo LiA LoA h 17 167772162 1 (by unfold okK; decide) 17 167772162 1 16909060 9 rfl
theorem BackA (w : World) (base g bi bo : Nat) (h : BT w base g bi bo LiA LoA) : Calls Try.prog 42 #[.pointer (some ⟨g, 0, none⟩), .int .i64 17, .agg #[.int .u32 16909060, .int .i64 9]] w fun e' w' => e' = .returned (.tuple #[.agg (lM 17 167772162 1 16909060 9).toArray, .bool true]) ∧ Below w.heap.size w w' :=
  Back_found w base g bi bo LiA LoA h 17 16909060 9 (by unfold okK; decide) 167772162 1 (by unfold okK; decide) rfl 17 167772162 1 16909060 9 rfl
set_option maxHeartbeats 4000000 in
set_option maxRecDepth 100000 in
theorem awake_calls (w : World) : Calls Try.prog 13 #[] w fun e w' => e = .returned (.bool true) ∧ Below w.heap.size w w' := by
  go_enter Try.func13, Try.ntmps13
  go_wp2_with fail
  refine (New_calls w).mono ?_
  rintro e w1 ⟨g, bi, bo, rfl, hf1, hb1⟩
  have F1 := Aside0.mk hf1
  have B1 := Aside0.mk hb1
  clear hf1 hb1
  go_wp2_with fail
  refine (PutA _ _ g bi bo F1.out).mono ?_
  rintro e w2 ⟨rfl, hf2, hr2⟩
  have F2 := Aside0.mk hf2
  have B2 := Aside0.mk (below_fr B1.out B1.out.size hr2 (fun k hk => by rcases hk with rfl | rfl; exact F1.out.gei; exact F1.out.geo))
  clear hf2 hr2
  go_wp2_with fail
  refine (GetA _ _ g bi bo F2.out).mono ?_
  rintro e w3 ⟨rfl, hb3⟩
  have F3 := Aside0.mk (F2.out.below (hb3.alloc hb3.size Z33))
  have B3 := Aside0.mk (below_step B2.out hb3)
  have X3 := Aside0.mk (blk_new w3 Z33)
  clear hb3
  unfold Z33 at X3
  go_wp2_with (refine wp_fill rfl 33 (.tmp 2) (.tmp 21) rfl w3.heap.size _ 33 (lM 17 167772162 1 16909060 9) X3.out rfl rfl rfl info33 (one_lM 17 167772162 1 16909060 9) ?_; intro w4 hx4 hf4; have X4 := Aside0.mk hx4; have HF4 := Aside0.mk hf4; clear hx4 hf4)
  have B3a := Aside0.mk (B3.out.alloc B3.out.size Z33)
  have B4 := Aside0.mk (below_fr B3a.out B3a.out.size HF4.out (fun k hk => by rw [hk]; exact B3.out.size))
  have F4 : Aside0 (BT w4 w.heap.size g bi bo LiA LoA) := ⟨⟨HF4.out.blk F3.out.blk (fun he => by have := F2.out.lt; have := F3.out.blk; have h2 := X3.out; rw [he] at this; unfold Z33 at this; rw [h2] at this; cases this), F3.out.min.move (HF4.out.2.2 bi F3.out.min.lt (fun he => by obtain ⟨_, _, h1⟩ := F3.out.min.obj; unfold Z33 at h1; rw [he, X3.out] at h1; cases h1)), F3.out.mout.move (HF4.out.2.2 bo F3.out.mout.lt (fun he => by obtain ⟨_, _, h1⟩ := F3.out.mout.obj; unfold Z33 at h1; rw [he, X3.out] at h1; cases h1)), F3.out.ge, F3.out.gei, F3.out.geo, F3.out.nio⟩⟩
  refine (BackA _ _ g bi bo F4.out).mono ?_
  rintro e w5 ⟨rfl, hb5⟩
  have B5 := Aside0.mk (below_step B4.out hb5)
  have X5 := Aside0.mk (blk_below X4.out hb5)
  have X5a := Aside0.mk (blk_alloc (blk_below X4.out hb5) Z33)
  have Y5 := Aside0.mk (blk_new w5 Z33)
  have L5 := Aside0.mk (blk_lt (blk_below X4.out hb5))
  clear hb5 HF4 X3 X4
  unfold Z33 at Y5 X5a
  go_wp2_with (refine wp_fill rfl 33 (.tmp 4) (.tmp 27) rfl w5.heap.size _ 33 (lM 17 167772162 1 16909060 9) Y5.out rfl rfl rfl info33 (one_lM 17 167772162 1 16909060 9) ?_; intro w6 hx6 hf6; have Y6 := Aside0.mk hx6; have HF6 := Aside0.mk hf6; have X6 := Aside0.mk (hf6.blk X5a.out (fun he => by have := L5.out; omega)); clear hx6 hf6; have c1 : w6.cell? ⟨w3.heap.size, 4, none⟩ = some (.int .i64 9) := blk_cell X6.out 4; have c2 : w6.cell? ⟨w5.heap.size, 2, none⟩ = some (.int .i64 1) := blk_cell Y6.out 2)
  go_ret
  exact ⟨rfl, below_fr (B5.out.alloc B5.out.size _) (B5.out.alloc B5.out.size _).size HF6.out (fun k hk => by rw [hk]; exact B5.out.size)⟩
/-- A filter: its address, bits, port. -/
abbrev F3 := Int × Int × Int
def encF (f : F3) : List Value := [.int .u32 f.1, .int .i64 f.2.1, .int .i64 f.2.2]
def kF : Kd F3 := pod 3 encF (fun _ => rfl) (fun x u hu => by
  unfold encF at hu
  simp only [List.mem_cons, List.not_mem_nil, or_false] at hu
  rcases hu with rfl | rfl | rfl <;> rfl)
theorem at_F {w : World} {A : Option Addr} {n : Nat} {fs : List F3} (h : kF.C w A n fs) (i : Int) (h0 : 0 ≤ i) (hi : i < n) :
    ∃ ad, A = some ad ∧ w.cell? (ad.add (i.toNat * 3)) = some (.int .u32 (fs.getD i.toNat (0, 0, 0)).1) ∧ w.cell? ⟨(ad.add (i.toNat * 3)).block, (ad.add (i.toNat * 3)).off + 1, none⟩ = some (.int .i64 (fs.getD i.toNat (0, 0, 0)).2.1) ∧ w.cell? ⟨(ad.add (i.toNat * 3)).block, (ad.add (i.toNat * 3)).off + 2, none⟩ = some (.int .i64 (fs.getD i.toNat (0, 0, 0)).2.2) := by
  obtain ⟨ad, hA, hc⟩ := pod_at h (0, 0, 0) i h0 hi
  have h0 := hc 0 _ rfl
  exact ⟨ad, hA, h0, by rw [← add_field _ _ 1 (by omega)]; exact hc 1 _ rfl, by rw [← add_field _ _ 2 (by omega)]; exact hc 2 _ rfl⟩
end Go.Proofs.Ytkpaibkkigfahaa.Bd
