/- chapter 18: BindKnown. -/
import Derived.Test.YtkpaibkkigfahaaBd4
import Derived.Test.YtkpaibkkigfahaaWGuard
namespace Go.Proofs.Ytkpaibkkigfahaa.Bd
open Go.RowKit Go.Proofs.YtkpaibkkigfahaaW.PrintWords Go.Proofs.YtkpaibkkigfahaaW.PrintLast Go.Proofs.YtkpaibkkigfahaaW.PrintMore Go.Proofs.Ytkpaibkkigfahaa.Bs Go.Proofs.Ytkpaibkkigfahaa.Fr Go.Proofs.Ytkpaibkkigfahaa.Mp
open Go.Proofs.Ytkpaibkkigfahaa.PBindLets
set_option linter.unusedVariables false
set_option linter.unusedSimpArgs false
theorem PutB (w : World) (base g bi bo : Nat) (h : BT w base g bi bo LiA LoA) : Calls Try.prog 15 #[.pointer (some ⟨g, 0, none⟩), .agg (lM 17 167772162 2 16909060 9).toArray] w fun e' w' => e' = .returned (.int .i64 10) ∧ BT w' base g bi bo LiA LoA ∧ Fr w w' (fun k => k = bi ∨ k = bo) :=
  (Put_calls w base g bi bo LiA LoA h 17 167772162 2 16909060 9 (.inr rfl) (by decide) (by decide) (by unfold okK; decide) (by unfold okK; decide) rfl 167772162 1 true ⟨rfl, rfl⟩).mono (fun e w' hh => ⟨(hh.1 rfl).1, (hh.1 rfl).2, hh.2.2⟩)
theorem PutC (w : World) (base g bi bo : Nat) (h : BT w base g bi bo LiA LoA) : Calls Try.prog 15 #[.pointer (some ⟨g, 0, none⟩), .agg (lM 6 167772162 1 16909060 9).toArray] w fun e' w' => e' = .returned (.int .i64 0) ∧ Fr w w' (fun k => k = bi ∨ k = bo) :=
  (Put_calls w base g bi bo LiA LoA h 6 167772162 1 16909060 9 (.inl rfl) (by decide) (by decide) (by unfold okK; decide) (by unfold okK; decide) rfl 0 0 false ⟨rfl, rfl⟩).mono (fun e w' hh => ⟨(hh.2.1 rfl).1, hh.2.2⟩)
def lF (A : Option Addr) (n c : Nat) : List Value := [.int .i64 0, .int .u32 0, .int .i64 0, .int .u32 0, .int .i64 0, .int .i64 0, .int .i64 0, .int .u8 0, .int .u8 0, .int .u8 0, .int .u8 0, .int .u8 0, .int .u8 0, .int .u8 0, .int .u8 0, .int .u8 0, .int .u8 0, .int .u8 0, .int .u8 0, .slice A n c]
theorem one_lF (A : Option Addr) (n c : Nat) : ∀ v ∈ lF A n c, v.oneCell' = true := by
  intro v hv
  unfold lF at hv
  simp only [List.mem_cons, List.not_mem_nil, or_false, or_self] at hv
  rcases hv with rfl | rfl | rfl | rfl | rfl | rfl | rfl | rfl | rfl | rfl | rfl | rfl | rfl | rfl | rfl | rfl | rfl | rfl | rfl | rfl <;> rfl
theorem one_F (w : World) (q : Nat) (t : TypeId) (f1 f2 f3 : Int) (h : w.heap[q]? = some (.cells #[.int .u32 f1, .int .i64 f2, .int .i64 f3] t (0, 0))) : kF.C w (some ⟨q, 0, none⟩) 1 [(f1, f2, f3)] :=
  ⟨rfl, by decide, fun _ => ⟨_, rfl, fun j p hj => by
    rcases j with _ | j
    · obtain rfl := Option.some.inj hj
      refine ⟨encF (f1, f2, f3), rfl, rfl, fun i u hu => ?_⟩
      rcases i with _ | _ | _ | i
      · obtain rfl := Option.some.inj hu; exact blk_cell h 0
      · obtain rfl := Option.some.inj hu; exact blk_cell h 1
      · obtain rfl := Option.some.inj hu; exact blk_cell h 2
      · simp [encF] at hu
    · simp at hj⟩⟩
theorem lets1 : letsF [(134742016, 16, 53)] 134744329 53 = true := by decide
theorem lets2 : letsF [(134742016, 16, 53)] 134744329 54 = false := by decide
theorem lets3 : letsF [(134742016, 16, 53)] 134807552 53 = false := by decide
set_option maxHeartbeats 4000000 in
set_option maxRecDepth 100000 in
theorem known_walk (w : World) : Calls Try.prog 3 #[] w fun e w' => e = .returned (.bool true) ∧ Below w.heap.size w w' := by
  go_enter Try.func3, Try.ntmps3
  go_wp2_with fail
  refine (awake_calls w).mono ?_
  rintro e w0 ⟨rfl, hb0⟩
  have B0 := Aside0.mk hb0
  clear hb0
  go_wp2_with fail
  refine (New_calls w0).mono ?_
  rintro e w1 ⟨g, bi, bo, rfl, hf1, hb1⟩
  have F1 := Aside0.mk hf1
  have B1 := Aside0.mk (below_step B0.out hb1)
  have GE := Aside0.mk (show ∀ k, k = bi ∨ k = bo → w.heap.size ≤ k from fun k hk => by have := B0.out.size; rcases hk with rfl | rfl; exact Nat.le_trans this hf1.gei; exact Nat.le_trans this hf1.geo)
  clear hf1 hb1
  go_wp2_with fail
  refine (PutA _ _ g bi bo F1.out).mono ?_
  rintro e w2 ⟨rfl, hf2, hr2⟩
  have F2 := Aside0.mk hf2
  have B2 := Aside0.mk (below_fr B1.out B1.out.size hr2 GE.out)
  clear hf2 hr2
  go_wp2_with fail
  refine (PutB _ _ g bi bo F2.out).mono ?_
  rintro e w3 ⟨rfl, hf3, hr3⟩
  have F3 := Aside0.mk hf3
  have B3 := Aside0.mk (below_fr B2.out B2.out.size hr3 GE.out)
  clear hf3 hr3
  go_wp2_with fail
  refine (PutC _ _ g bi bo F3.out).mono ?_
  rintro e w4 ⟨rfl, hr4⟩
  have B4 := Aside0.mk (below_fr B3.out B3.out.size hr4 GE.out)
  clear hr4
  go_upto_region 9 with fail
  have X9 := Aside0.mk (two_new w4 (.cells #[.int .u32 134742016, .int .i64 16, .int .i64 53] 35) Z33)
  have R9 := Aside0.mk (blk_alloc (blk_new w4 (.cells #[.int .u32 134742016, .int .i64 16, .int .i64 53] 35)) Z33)
  have B9 := Aside0.mk (Below.alloc (B4.out.alloc B4.out.size (.cells #[.int .u32 134742016, .int .i64 16, .int .i64 53] 35)) (by rw [World.size_alloc]; have := B4.out.size; omega) Z33)
  unfold Z33 at X9 R9 B9
  go_upto_region 10 with (refine wp_fill rfl 33 (.tmp 5) (.tmp 28) rfl (w4.heap.size + 1) _ 33 (lF (some ⟨w4.heap.size, 0, none⟩) 1 1) X9.out rfl rfl rfl info33 (one_lF _ _ _) ?_; intro w5 hx5 hf5; have X5 := Aside0.mk hx5; have HF5 := Aside0.mk hf5; clear hx5 hf5)
  have R5 := Aside0.mk (HF5.out.blk R9.out (fun he => by omega))
  have B5 := Aside0.mk (below_fr B9.out B9.out.size HF5.out (fun k hk => by rw [hk]; have := B4.out.size; omega))
  clear X9 R9 B9 HF5
  go_wp2_with (refine gate_guard (by rfl) ?_; refine wpList_load_mid rfl 33 (.tmp 5) rfl (w4.heap.size + 1) 0 rfl (lF (some ⟨w4.heap.size, 0, none⟩) 1 1) _ (range_blk X5.out) Try.underlying33 rfl info33 ?_)
  refine (Lets_calls _ (lF (some ⟨w4.heap.size, 0, none⟩) 1 1).toArray _ 1 [(134742016, 16, 53)] rfl (one_F _ _ _ _ _ _ R5.out) (by decide) 134744329 53).mono ?_
  rintro e w6 ⟨rfl, hb6⟩
  rw [lets1]
  have B6 := Aside0.mk (below_step B5.out hb6)
  have X6 := Aside0.mk (blk_below X5.out hb6)
  have R6 := Aside0.mk (blk_below R5.out hb6)
  clear hb6
  go_wp2_with (refine gate_guard (by rfl) ?_; refine wpList_load_mid rfl 33 (.tmp 5) rfl (w4.heap.size + 1) 0 rfl (lF (some ⟨w4.heap.size, 0, none⟩) 1 1) _ (range_blk X6.out) Try.underlying33 rfl info33 ?_)
  refine (Lets_calls _ (lF (some ⟨w4.heap.size, 0, none⟩) 1 1).toArray _ 1 [(134742016, 16, 53)] rfl (one_F _ _ _ _ _ _ R6.out) (by decide) 134744329 54).mono ?_
  rintro e w7 ⟨rfl, hb7⟩
  rw [lets2]
  have B7 := Aside0.mk (below_step B6.out hb7)
  have X7 := Aside0.mk (blk_below X6.out hb7)
  have R7 := Aside0.mk (blk_below R6.out hb7)
  clear hb7
  go_wp2_with (refine gate_guard (by rfl) ?_; refine wpList_load_mid rfl 33 (.tmp 5) rfl (w4.heap.size + 1) 0 rfl (lF (some ⟨w4.heap.size, 0, none⟩) 1 1) _ (range_blk X7.out) Try.underlying33 rfl info33 ?_)
  refine (Lets_calls _ (lF (some ⟨w4.heap.size, 0, none⟩) 1 1).toArray _ 1 [(134742016, 16, 53)] rfl (one_F _ _ _ _ _ _ R7.out) (by decide) 134807552 53).mono ?_
  rintro e w8 ⟨rfl, hb8⟩
  rw [lets3]
  have B8 := Aside0.mk (below_step B7.out hb8)
  clear hb8
  go_wp2_with fail
  go_ret
  exact ⟨rfl, B8.out⟩
end Go.Proofs.Ytkpaibkkigfahaa.Bd
