/- chapter 18: BindBits: the walk. -/
import Derived.Test.YtkpaibkkigfahaaBd5
import Derived.Test.YtkpaibkkigfahaaBd7
namespace Go.Proofs.Ytkpaibkkigfahaa.Bd
open Go.RowKit Go.Proofs.YtkpaibkkigfahaaW.PrintWords Go.Proofs.YtkpaibkkigfahaaW.PrintLast Go.Proofs.YtkpaibkkigfahaaW.PrintMore Go.Proofs.Ytkpaibkkigfahaa.Bs Go.Proofs.Ytkpaibkkigfahaa.Fr Go.Proofs.Ytkpaibkkigfahaa.Mp
open Go.Proofs.Ytkpaibkkigfahaa.PBindLets
set_option linter.unusedVariables false
set_option linter.unusedSimpArgs false
def O35 (f1 f2 f3 : Int) : Obj := .cells #[.int .u32 f1, .int .i64 f2, .int .i64 f3] 35
set_option maxHeartbeats 8000000 in
set_option maxRecDepth 100000 in
theorem bits_walk (f1 : Int) (v1 : (Lit.int .u32 f1).wf = true) (f2 : Int) (v2 : (Lit.int .i64 f2).wf = true) (f3 : Int) (v3 : (Lit.int .i64 f3).wf = true) (fa : Int) (v4 : (Lit.int .u32 fa).wf = true) (fp : Int) (v5 : (Lit.int .i64 fp).wf = true) (at_ : Int) (v6 : (Lit.int .i64 at_).wf = true) (w : World) :
    Calls Try.prog 4 #[.agg #[.int .u32 f1, .int .i64 f2, .int .i64 f3], .agg #[.int .u32 fa, .int .i64 fp], .int .i64 at_] w fun e w' => e = .returned (.bool true) ∧ Below w.heap.size w w' := by
  have x1 := blk_alloc (blk_new w (O35 f1 f2 f3)) (E1 fa fp)
  have x2 := two_new w (O35 f1 f2 f3) (E1 fa fp)
  have B1 := Aside0.mk (Below.alloc (below_alloc (Below.refl w.heap.size w) (O35 f1 f2 f3)) (by rw [World.size_alloc]; exact Nat.le_succ _) (E1 fa fp))
  have AW := Aside0.mk (awake_calls ((w.alloc (O35 f1 f2 f3)).alloc (E1 fa fp)))
  have X1 := Aside0.mk x1
  have X2 := Aside0.mk x2
  clear x1 x2
  go_enter Try.func4, Try.ntmps4
  go_wp2_with fail
  refine AW.out.mono ?_
  rintro e wA ⟨rfl, hbA⟩
  have XA := Aside0.mk (blk_below X1.out hbA)
  have YA := Aside0.mk (blk_below X2.out hbA)
  have BA := Aside0.mk (below_step B1.out hbA)
  have a0 : wA.cell? ⟨w.heap.size, 0, none⟩ = some (.int .u32 f1) := blk_cell XA.out 0
  have a1 : wA.cell? ⟨w.heap.size, 1, none⟩ = some (.int .i64 f2) := blk_cell XA.out 1
  have a2 : wA.cell? ⟨w.heap.size, 2, none⟩ = some (.int .i64 f3) := blk_cell XA.out 2
  have R3 := Aside0.mk (blk_alloc (blk_new wA (O35 f1 f2 f3)) Z33)
  have X3 := Aside0.mk (two_new wA (O35 f1 f2 f3) Z33)
  have B3 := Aside0.mk (Below.alloc (BA.out.alloc BA.out.size (O35 f1 f2 f3)) (by rw [World.size_alloc]; have := BA.out.size; omega) Z33)
  have XA3 := Aside0.mk (blk_alloc (blk_alloc XA.out (O35 f1 f2 f3)) Z33)
  have YA3 := Aside0.mk (blk_alloc (blk_alloc YA.out (O35 f1 f2 f3)) Z33)
  have LA := Aside0.mk (show w.heap.size < wA.heap.size ∧ w.heap.size + 1 < wA.heap.size from ⟨blk_lt XA.out, blk_lt YA.out⟩)
  clear hbA XA YA
  unfold O35 Z33 at R3 X3 B3 XA3 YA3
  unfold E1 at YA3
  go_upto_region 4 with (refine wp_fill rfl 33 (.tmp 7) (.tmp 17) rfl (wA.heap.size + 1) _ 33 (lF (some ⟨wA.heap.size, 0, none⟩) 1 1) X3.out rfl rfl rfl info33 (one_lF _ _ _) ?_; intro w5 hx5 hf5; have X5 := Aside0.mk hx5; have HF5 := Aside0.mk hf5; clear hx5 hf5)
  have R5 := Aside0.mk (HF5.out.blk R3.out (fun he => by omega))
  have XA5 := Aside0.mk (HF5.out.blk XA3.out (fun he => by have := LA.out; omega))
  have YA5 := Aside0.mk (HF5.out.blk YA3.out (fun he => by have := LA.out; omega))
  have B5 := Aside0.mk (below_fr B3.out B3.out.size HF5.out (fun k hk => by rw [hk]; have := BA.out.size; omega))
  clear X3 R3 B3 HF5 XA3 YA3 a0 a1 a2
  have a0 : w5.cell? ⟨w.heap.size, 0, none⟩ = some (.int .u32 f1) := blk_cell XA5.out 0
  have a1 : w5.cell? ⟨w.heap.size, 1, none⟩ = some (.int .i64 f2) := blk_cell XA5.out 1
  have a2 : w5.cell? ⟨w.heap.size, 2, none⟩ = some (.int .i64 f3) := blk_cell XA5.out 2
  obtain ⟨n1, rfl⟩ := Int.eq_ofNat_of_zero_le (wf_u32 v1).1
  obtain ⟨na, rfl⟩ := Int.eq_ofNat_of_zero_le (wf_u32 v4).1
  have N1 := Aside0.mk (show n1 < 4294967296 by have := (wf_u32 v1).2; omega)
  have NA := Aside0.mk (show na < 4294967296 by have := (wf_u32 v4).2; omega)
  obtain ⟨kk, hk, hk31⟩ := and31 at_
  obtain ⟨yy, hyy⟩ : ∃ yy, yy = n1 ^^^ 2 ^ (31 - kk) := ⟨_, rfl⟩
  have HK := Aside0.mk hk
  have HXK : Aside0 (bits BinOp.xor IntKind.u32 (n1 : Int) ((2 : Int) ^ min (IntKind.u64.wrap (wrap64 (31 - (kk : Int)))).toNat 32 % 4294967296) = (yy : Int)) := ⟨by rw [hyy]; exact flip_eq n1 kk N1.out hk31⟩
  have HFL : Aside0 (letsF [((n1 : Int), f2, f3)] (yy : Int) f3 = decide ((kk : Int) ≥ clampF f2)) := ⟨by rw [hyy]; exact lets_flip n1 kk N1.out hk31 f2 f3⟩
  clear v1 v2 v3 v4 v5 v6 hk hk31 hyy
  by_cases hb1 : 32 < f2
  · skip
    have hclamp : Aside0 (clampF f2 = 32) := ⟨by unfold clampF; first | (rw [if_pos hb1]; done) | (rw [if_neg hb1, if_pos hb2]; done) | (rw [if_neg hb1, if_neg hb2]; done)⟩
    go_upto_region 6 with fail
    have P6 := Aside0.mk (blk_new w5 (.cells #[.int .u32 (n1 : Int), .int .i64 f3] 29))
    have X6 := Aside0.mk (blk_alloc X5.out (.cells #[.int .u32 (n1 : Int), .int .i64 f3] 29))
    have R6 := Aside0.mk (blk_alloc R5.out (.cells #[.int .u32 (n1 : Int), .int .i64 f3] 29))
    have XA6 := Aside0.mk (blk_alloc XA5.out (.cells #[.int .u32 (n1 : Int), .int .i64 f3] 29))
    have YA6 := Aside0.mk (blk_alloc YA5.out (.cells #[.int .u32 (n1 : Int), .int .i64 f3] 29))
    have B6 := Aside0.mk (B5.out.alloc B5.out.size (.cells #[.int .u32 (n1 : Int), .int .i64 f3] 29))
    generalize w5.alloc (.cells #[.int .u32 (n1 : Int), .int .i64 f3] 29) = w6 at *
    clear a0 a1 a2 X5 R5 XA5 YA5 B5
    have a0 : w6.cell? ⟨w.heap.size, 0, none⟩ = some (.int .u32 (n1 : Int)) := blk_cell XA6.out 0
    have a1 : w6.cell? ⟨w.heap.size, 1, none⟩ = some (.int .i64 f2) := blk_cell XA6.out 1
    have a2 : w6.cell? ⟨w.heap.size, 2, none⟩ = some (.int .i64 f3) := blk_cell XA6.out 2
    have e0 : w6.cell? ⟨w.heap.size + 1, 0, none⟩ = some (.int .u32 (na : Int)) := blk_cell YA6.out 0
    have e1 : w6.cell? ⟨w.heap.size + 1, 1, none⟩ = some (.int .i64 fp) := blk_cell YA6.out 1
    have g0 : w6.cell? ⟨w5.heap.size, 0, none⟩ = some (.int .u32 (n1 : Int)) := blk_cell P6.out 0
    have g1 : w6.cell? ⟨w5.heap.size, 1, none⟩ = some (.int .i64 f3) := blk_cell P6.out 1
    go_wp2_with (refine wpList_load_mid rfl 33 (.tmp 7) rfl (wA.heap.size + 1) 0 rfl (lF (some ⟨wA.heap.size, 0, none⟩) 1 1) _ (range_blk X6.out) Try.underlying33 rfl info33 ?_)
    refine (Lets_calls _ (lF (some ⟨wA.heap.size, 0, none⟩) 1 1).toArray _ 1 [((n1 : Int), f2, f3)] rfl (one_F _ _ _ _ _ _ R6.out) (by simp) n1 f3).mono ?_
    rintro e w7 ⟨rfl, hb7⟩
    rw [lets_self n1 N1.out]
    clear a0 a1 a2 e0 e1 g0 g1
    have X7 := Aside0.mk (blk_below X6.out hb7)
    have R7 := Aside0.mk (blk_below R6.out hb7)
    have XA7 := Aside0.mk (blk_below XA6.out hb7)
    have YA7 := Aside0.mk (blk_below YA6.out hb7)
    have P7 := Aside0.mk (blk_below P6.out hb7)
    have B7 := Aside0.mk (below_step B6.out hb7)
    have a0 : w7.cell? ⟨w.heap.size, 0, none⟩ = some (.int .u32 (n1 : Int)) := blk_cell XA7.out 0
    have a1 : w7.cell? ⟨w.heap.size, 1, none⟩ = some (.int .i64 f2) := blk_cell XA7.out 1
    have a2 : w7.cell? ⟨w.heap.size, 2, none⟩ = some (.int .i64 f3) := blk_cell XA7.out 2
    have e0 : w7.cell? ⟨w.heap.size + 1, 0, none⟩ = some (.int .u32 (na : Int)) := blk_cell YA7.out 0
    have e1 : w7.cell? ⟨w.heap.size + 1, 1, none⟩ = some (.int .i64 fp) := blk_cell YA7.out 1
    have g0 : w7.cell? ⟨w5.heap.size, 0, none⟩ = some (.int .u32 (n1 : Int)) := blk_cell P7.out 0
    have g1 : w7.cell? ⟨w5.heap.size, 1, none⟩ = some (.int .i64 f3) := blk_cell P7.out 1
    clear hb7
    go_wp2_with fail
    refine (Lets_calls _ _ none 0 [] rfl (Kd.C_nil _ _) (by simp) na fp).mono ?_
    rintro e w8 ⟨rfl, hb8⟩
    rw [lets_nil]
    clear a0 a1 a2 e0 e1 g0 g1
    have X8 := Aside0.mk (blk_below X7.out hb8)
    have R8 := Aside0.mk (blk_below R7.out hb8)
    have XA8 := Aside0.mk (blk_below XA7.out hb8)
    have YA8 := Aside0.mk (blk_below YA7.out hb8)
    have P8 := Aside0.mk (blk_below P7.out hb8)
    have B8 := Aside0.mk (below_step B7.out hb8)
    have a0 : w8.cell? ⟨w.heap.size, 0, none⟩ = some (.int .u32 (n1 : Int)) := blk_cell XA8.out 0
    have a1 : w8.cell? ⟨w.heap.size, 1, none⟩ = some (.int .i64 f2) := blk_cell XA8.out 1
    have a2 : w8.cell? ⟨w.heap.size, 2, none⟩ = some (.int .i64 f3) := blk_cell XA8.out 2
    have e0 : w8.cell? ⟨w.heap.size + 1, 0, none⟩ = some (.int .u32 (na : Int)) := blk_cell YA8.out 0
    have e1 : w8.cell? ⟨w.heap.size + 1, 1, none⟩ = some (.int .i64 fp) := blk_cell YA8.out 1
    have g0 : w8.cell? ⟨w5.heap.size, 0, none⟩ = some (.int .u32 (n1 : Int)) := blk_cell P8.out 0
    have g1 : w8.cell? ⟨w5.heap.size, 1, none⟩ = some (.int .i64 f3) := blk_cell P8.out 1
    clear hb8
    go_upto_region 10 with fail
    rw [HK.out, HXK.out]
    have Q9 := Aside0.mk (blk_new w8 (.cells #[.int .u32 (yy : Int), .int .i64 f3] 29))
    have X9 := Aside0.mk (blk_alloc X8.out (.cells #[.int .u32 (yy : Int), .int .i64 f3] 29))
    have R9 := Aside0.mk (blk_alloc R8.out (.cells #[.int .u32 (yy : Int), .int .i64 f3] 29))
    have XA9 := Aside0.mk (blk_alloc XA8.out (.cells #[.int .u32 (yy : Int), .int .i64 f3] 29))
    have YA9 := Aside0.mk (blk_alloc YA8.out (.cells #[.int .u32 (yy : Int), .int .i64 f3] 29))
    have P9 := Aside0.mk (blk_alloc P8.out (.cells #[.int .u32 (yy : Int), .int .i64 f3] 29))
    have B9 := Aside0.mk (B8.out.alloc B8.out.size (.cells #[.int .u32 (yy : Int), .int .i64 f3] 29))
    generalize w8.alloc (.cells #[.int .u32 (yy : Int), .int .i64 f3] 29) = w9 at *
    clear a0 a1 a2 e0 e1 g0 g1
    have a0 : w9.cell? ⟨w.heap.size, 0, none⟩ = some (.int .u32 (n1 : Int)) := blk_cell XA9.out 0
    have a1 : w9.cell? ⟨w.heap.size, 1, none⟩ = some (.int .i64 f2) := blk_cell XA9.out 1
    have a2 : w9.cell? ⟨w.heap.size, 2, none⟩ = some (.int .i64 f3) := blk_cell XA9.out 2
    have e0 : w9.cell? ⟨w.heap.size + 1, 0, none⟩ = some (.int .u32 (na : Int)) := blk_cell YA9.out 0
    have e1 : w9.cell? ⟨w.heap.size + 1, 1, none⟩ = some (.int .i64 fp) := blk_cell YA9.out 1
    have g0 : w9.cell? ⟨w5.heap.size, 0, none⟩ = some (.int .u32 (n1 : Int)) := blk_cell P9.out 0
    have g1 : w9.cell? ⟨w5.heap.size, 1, none⟩ = some (.int .i64 f3) := blk_cell P9.out 1
    have q0 : w9.cell? ⟨w8.heap.size, 0, none⟩ = some (.int .u32 (yy : Int)) := blk_cell Q9.out 0
    have q1 : w9.cell? ⟨w8.heap.size, 1, none⟩ = some (.int .i64 f3) := blk_cell Q9.out 1
    go_wp2_with (refine wpList_load_mid rfl 33 (.tmp 7) rfl (wA.heap.size + 1) 0 rfl (lF (some ⟨wA.heap.size, 0, none⟩) 1 1) _ (range_blk X9.out) Try.underlying33 rfl info33 ?_)
    refine (Lets_calls _ (lF (some ⟨wA.heap.size, 0, none⟩) 1 1).toArray _ 1 [((n1 : Int), f2, f3)] rfl (one_F _ _ _ _ _ _ R9.out) (by simp) yy f3).mono ?_
    rintro e wa ⟨rfl, hba⟩
    rw [HFL.out, hclamp.out]
    clear q0 q1
    clear a0 a1 a2 e0 e1 g0 g1
    have Xa := Aside0.mk (blk_below X9.out hba)
    have Ra := Aside0.mk (blk_below R9.out hba)
    have XAa := Aside0.mk (blk_below XA9.out hba)
    have YAa := Aside0.mk (blk_below YA9.out hba)
    have Pa := Aside0.mk (blk_below P9.out hba)
    have Ba := Aside0.mk (below_step B9.out hba)
    have a0 : wa.cell? ⟨w.heap.size, 0, none⟩ = some (.int .u32 (n1 : Int)) := blk_cell XAa.out 0
    have a1 : wa.cell? ⟨w.heap.size, 1, none⟩ = some (.int .i64 f2) := blk_cell XAa.out 1
    have a2 : wa.cell? ⟨w.heap.size, 2, none⟩ = some (.int .i64 f3) := blk_cell XAa.out 2
    have e0 : wa.cell? ⟨w.heap.size + 1, 0, none⟩ = some (.int .u32 (na : Int)) := blk_cell YAa.out 0
    have e1 : wa.cell? ⟨w.heap.size + 1, 1, none⟩ = some (.int .i64 fp) := blk_cell YAa.out 1
    have g0 : wa.cell? ⟨w5.heap.size, 0, none⟩ = some (.int .u32 (n1 : Int)) := blk_cell Pa.out 0
    have g1 : wa.cell? ⟨w5.heap.size, 1, none⟩ = some (.int .i64 f3) := blk_cell Pa.out 1
    clear hba
    go_upto_region 12 with fail
    by_cases h0 : f3 = 0
    · have h0b : (f3 != 0) = false := by simp [h0]
      clear h0
      go_upto_region 14 with fail
      have R12 := Aside0.mk (blk_alloc (blk_new wa (.cells #[.int .u32 (n1 : Int), .int .i64 (33), .int .i64 f3] 35)) Z33)
      have Z12 := Aside0.mk (two_new wa (.cells #[.int .u32 (n1 : Int), .int .i64 (33), .int .i64 f3] 35) Z33)
      have B12 := Aside0.mk (Below.alloc (Ba.out.alloc Ba.out.size (.cells #[.int .u32 (n1 : Int), .int .i64 (33), .int .i64 f3] 35)) (by rw [World.size_alloc]; have := Ba.out.size; omega) Z33)
      have X12 := Aside0.mk (blk_alloc (blk_alloc Xa.out (.cells #[.int .u32 (n1 : Int), .int .i64 (33), .int .i64 f3] 35)) Z33)
      have XA12 := Aside0.mk (blk_alloc (blk_alloc XAa.out (.cells #[.int .u32 (n1 : Int), .int .i64 (33), .int .i64 f3] 35)) Z33)
      have YA12 := Aside0.mk (blk_alloc (blk_alloc YAa.out (.cells #[.int .u32 (n1 : Int), .int .i64 (33), .int .i64 f3] 35)) Z33)
      have RR12 := Aside0.mk (blk_alloc (blk_alloc Ra.out (.cells #[.int .u32 (n1 : Int), .int .i64 (33), .int .i64 f3] 35)) Z33)
      have L12 := Aside0.mk (show wA.heap.size < wa.heap.size ∧ wA.heap.size + 1 < wa.heap.size ∧ w.heap.size + 1 < wa.heap.size from ⟨blk_lt Ra.out, blk_lt Xa.out, blk_lt YAa.out⟩)
      unfold Z33 at R12 Z12 B12 X12 XA12 YA12 RR12
      go_upto_region 15 with (refine wp_fill rfl 33 (.tmp 12) (.tmp 79) rfl (wa.heap.size + 1) _ 33 (lF (some ⟨wa.heap.size, 0, none⟩) 1 1) Z12.out rfl rfl rfl info33 (one_lF _ _ _) ?_; intro wc hxc hfc; have Yc := Aside0.mk hxc; have HFc := Aside0.mk hfc; clear hxc hfc)
      have Rc := Aside0.mk (HFc.out.blk R12.out (fun he => by omega))
      have RRc := Aside0.mk (HFc.out.blk RR12.out (fun he => by have := L12.out; omega))
      have Xc := Aside0.mk (HFc.out.blk X12.out (fun he => by have := L12.out; omega))
      have YAc := Aside0.mk (HFc.out.blk YA12.out (fun he => by have := L12.out; omega))
      have Bc := Aside0.mk (below_fr B12.out B12.out.size HFc.out (fun k hk => by rw [hk]; have := Ba.out.size; omega))
      clear a0 a1 a2 e0 e1 g0 g1
      have e0 : wc.cell? ⟨w.heap.size + 1, 0, none⟩ = some (.int .u32 (na : Int)) := blk_cell YAc.out 0
      have e1 : wc.cell? ⟨w.heap.size + 1, 1, none⟩ = some (.int .i64 fp) := blk_cell YAc.out 1
      go_wp2_with (refine wpList_load_mid rfl 33 (.tmp 12) rfl (wa.heap.size + 1) 0 rfl (lF (some ⟨wa.heap.size, 0, none⟩) 1 1) _ (range_blk Yc.out) Try.underlying33 rfl info33 ?_)
      refine (Lets_calls _ (lF (some ⟨wa.heap.size, 0, none⟩) 1 1).toArray _ 1 [((n1 : Int), 33, f3)] rfl (one_F _ _ _ _ _ _ Rc.out) (by simp) na fp).mono ?_
      rintro e wd ⟨rfl, hbd⟩
      have Bd := Aside0.mk (below_step Bc.out hbd)
      have Xd := Aside0.mk (blk_below Xc.out hbd)
      have Rd := Aside0.mk (blk_below RRc.out hbd)
      clear e0 e1
      have e0 : wd.cell? ⟨w.heap.size + 1, 0, none⟩ = some (.int .u32 (na : Int)) := blk_cell (blk_below YAc.out hbd) 0
      have e1 : wd.cell? ⟨w.heap.size + 1, 1, none⟩ = some (.int .i64 fp) := blk_cell (blk_below YAc.out hbd) 1
      clear hbd
      by_cases hL : letsF [((n1 : Int), 33, f3)] na fp = true
      · have HLM := Aside0.mk (lets_more n1 na N1.out NA.out f2 f3 fp (by rw [hclamp.out]; exact hL))
        rw [hL]
        clear hL
        go_wp2_with (refine gate_guard (by rfl) ?_; refine wpList_load_mid rfl 33 (.tmp 7) rfl (wA.heap.size + 1) 0 rfl (lF (some ⟨wA.heap.size, 0, none⟩) 1 1) _ (range_blk Xd.out) Try.underlying33 rfl info33 ?_)
        refine (Lets_calls _ (lF (some ⟨wA.heap.size, 0, none⟩) 1 1).toArray _ 1 [((n1 : Int), f2, f3)] rfl (one_F _ _ _ _ _ _ Rd.out) (by simp) na fp).mono ?_
        rintro e we ⟨rfl, hbe⟩
        rw [HLM.out]
        have Be := Aside0.mk (below_step Bd.out hbe)
        clear hbe e0 e1
        go_wp2_with fail
        go_ret
        exact ⟨rfl, Be.out⟩
      · have hL' : letsF [((n1 : Int), 33, f3)] na fp = false := by simpa using hL
        rw [hL']
        clear hL hL'
        go_wp2_with fail
        go_ret
        exact ⟨rfl, Bd.out⟩
    have h0b : (f3 != 0) = true := by simp [h0]
    by_cases h2 : fp = f3
    · have h2b : (fp != f3) = false := by simp [h2]
      clear h0 h2
      go_upto_region 14 with fail
      have R12 := Aside0.mk (blk_alloc (blk_new wa (.cells #[.int .u32 (n1 : Int), .int .i64 (33), .int .i64 f3] 35)) Z33)
      have Z12 := Aside0.mk (two_new wa (.cells #[.int .u32 (n1 : Int), .int .i64 (33), .int .i64 f3] 35) Z33)
      have B12 := Aside0.mk (Below.alloc (Ba.out.alloc Ba.out.size (.cells #[.int .u32 (n1 : Int), .int .i64 (33), .int .i64 f3] 35)) (by rw [World.size_alloc]; have := Ba.out.size; omega) Z33)
      have X12 := Aside0.mk (blk_alloc (blk_alloc Xa.out (.cells #[.int .u32 (n1 : Int), .int .i64 (33), .int .i64 f3] 35)) Z33)
      have XA12 := Aside0.mk (blk_alloc (blk_alloc XAa.out (.cells #[.int .u32 (n1 : Int), .int .i64 (33), .int .i64 f3] 35)) Z33)
      have YA12 := Aside0.mk (blk_alloc (blk_alloc YAa.out (.cells #[.int .u32 (n1 : Int), .int .i64 (33), .int .i64 f3] 35)) Z33)
      have RR12 := Aside0.mk (blk_alloc (blk_alloc Ra.out (.cells #[.int .u32 (n1 : Int), .int .i64 (33), .int .i64 f3] 35)) Z33)
      have L12 := Aside0.mk (show wA.heap.size < wa.heap.size ∧ wA.heap.size + 1 < wa.heap.size ∧ w.heap.size + 1 < wa.heap.size from ⟨blk_lt Ra.out, blk_lt Xa.out, blk_lt YAa.out⟩)
      unfold Z33 at R12 Z12 B12 X12 XA12 YA12 RR12
      go_upto_region 15 with (refine wp_fill rfl 33 (.tmp 12) (.tmp 79) rfl (wa.heap.size + 1) _ 33 (lF (some ⟨wa.heap.size, 0, none⟩) 1 1) Z12.out rfl rfl rfl info33 (one_lF _ _ _) ?_; intro wc hxc hfc; have Yc := Aside0.mk hxc; have HFc := Aside0.mk hfc; clear hxc hfc)
      have Rc := Aside0.mk (HFc.out.blk R12.out (fun he => by omega))
      have RRc := Aside0.mk (HFc.out.blk RR12.out (fun he => by have := L12.out; omega))
      have Xc := Aside0.mk (HFc.out.blk X12.out (fun he => by have := L12.out; omega))
      have YAc := Aside0.mk (HFc.out.blk YA12.out (fun he => by have := L12.out; omega))
      have Bc := Aside0.mk (below_fr B12.out B12.out.size HFc.out (fun k hk => by rw [hk]; have := Ba.out.size; omega))
      clear a0 a1 a2 e0 e1 g0 g1
      have e0 : wc.cell? ⟨w.heap.size + 1, 0, none⟩ = some (.int .u32 (na : Int)) := blk_cell YAc.out 0
      have e1 : wc.cell? ⟨w.heap.size + 1, 1, none⟩ = some (.int .i64 fp) := blk_cell YAc.out 1
      go_wp2_with (refine wpList_load_mid rfl 33 (.tmp 12) rfl (wa.heap.size + 1) 0 rfl (lF (some ⟨wa.heap.size, 0, none⟩) 1 1) _ (range_blk Yc.out) Try.underlying33 rfl info33 ?_)
      refine (Lets_calls _ (lF (some ⟨wa.heap.size, 0, none⟩) 1 1).toArray _ 1 [((n1 : Int), 33, f3)] rfl (one_F _ _ _ _ _ _ Rc.out) (by simp) na fp).mono ?_
      rintro e wd ⟨rfl, hbd⟩
      have Bd := Aside0.mk (below_step Bc.out hbd)
      have Xd := Aside0.mk (blk_below Xc.out hbd)
      have Rd := Aside0.mk (blk_below RRc.out hbd)
      clear e0 e1
      have e0 : wd.cell? ⟨w.heap.size + 1, 0, none⟩ = some (.int .u32 (na : Int)) := blk_cell (blk_below YAc.out hbd) 0
      have e1 : wd.cell? ⟨w.heap.size + 1, 1, none⟩ = some (.int .i64 fp) := blk_cell (blk_below YAc.out hbd) 1
      clear hbd
      by_cases hL : letsF [((n1 : Int), 33, f3)] na fp = true
      · have HLM := Aside0.mk (lets_more n1 na N1.out NA.out f2 f3 fp (by rw [hclamp.out]; exact hL))
        rw [hL]
        clear hL
        go_wp2_with (refine gate_guard (by rfl) ?_; refine wpList_load_mid rfl 33 (.tmp 7) rfl (wA.heap.size + 1) 0 rfl (lF (some ⟨wA.heap.size, 0, none⟩) 1 1) _ (range_blk Xd.out) Try.underlying33 rfl info33 ?_)
        refine (Lets_calls _ (lF (some ⟨wA.heap.size, 0, none⟩) 1 1).toArray _ 1 [((n1 : Int), f2, f3)] rfl (one_F _ _ _ _ _ _ Rd.out) (by simp) na fp).mono ?_
        rintro e we ⟨rfl, hbe⟩
        rw [HLM.out]
        have Be := Aside0.mk (below_step Bd.out hbe)
        clear hbe e0 e1
        go_wp2_with fail
        go_ret
        exact ⟨rfl, Be.out⟩
      · have hL' : letsF [((n1 : Int), 33, f3)] na fp = false := by simpa using hL
        rw [hL']
        clear hL hL'
        go_wp2_with fail
        go_ret
        exact ⟨rfl, Bd.out⟩
    have h2b : (fp != f3) = true := by simp [h2]
    have HPT := Aside0.mk (lets_port n1 f2 f3 na fp h0 h2)
    clear h0 h2
    go_wp2_with (refine gate_guard (by rfl) ?_; refine wpList_load_mid rfl 33 (.tmp 7) rfl (wA.heap.size + 1) 0 rfl (lF (some ⟨wA.heap.size, 0, none⟩) 1 1) _ (range_blk Xa.out) Try.underlying33 rfl info33 ?_)
    refine (Lets_calls _ (lF (some ⟨wA.heap.size, 0, none⟩) 1 1).toArray _ 1 [((n1 : Int), f2, f3)] rfl (one_F _ _ _ _ _ _ Ra.out) (by simp) na fp).mono ?_
    rintro e wb ⟨rfl, hbb⟩
    rw [HPT.out]
    clear a0 a1 a2 e0 e1 g0 g1
    have Xb := Aside0.mk (blk_below Xa.out hbb)
    have Rb := Aside0.mk (blk_below Ra.out hbb)
    have XAb := Aside0.mk (blk_below XAa.out hbb)
    have YAb := Aside0.mk (blk_below YAa.out hbb)
    have Pb := Aside0.mk (blk_below Pa.out hbb)
    have Bb := Aside0.mk (below_step Ba.out hbb)
    have a0 : wb.cell? ⟨w.heap.size, 0, none⟩ = some (.int .u32 (n1 : Int)) := blk_cell XAb.out 0
    have a1 : wb.cell? ⟨w.heap.size, 1, none⟩ = some (.int .i64 f2) := blk_cell XAb.out 1
    have a2 : wb.cell? ⟨w.heap.size, 2, none⟩ = some (.int .i64 f3) := blk_cell XAb.out 2
    have e0 : wb.cell? ⟨w.heap.size + 1, 0, none⟩ = some (.int .u32 (na : Int)) := blk_cell YAb.out 0
    have e1 : wb.cell? ⟨w.heap.size + 1, 1, none⟩ = some (.int .i64 fp) := blk_cell YAb.out 1
    have g0 : wb.cell? ⟨w5.heap.size, 0, none⟩ = some (.int .u32 (n1 : Int)) := blk_cell Pb.out 0
    have g1 : wb.cell? ⟨w5.heap.size, 1, none⟩ = some (.int .i64 f3) := blk_cell Pb.out 1
    clear hbb
    go_upto_region 14 with fail
    have R12 := Aside0.mk (blk_alloc (blk_new wb (.cells #[.int .u32 (n1 : Int), .int .i64 (33), .int .i64 f3] 35)) Z33)
    have Z12 := Aside0.mk (two_new wb (.cells #[.int .u32 (n1 : Int), .int .i64 (33), .int .i64 f3] 35) Z33)
    have B12 := Aside0.mk (Below.alloc (Bb.out.alloc Bb.out.size (.cells #[.int .u32 (n1 : Int), .int .i64 (33), .int .i64 f3] 35)) (by rw [World.size_alloc]; have := Bb.out.size; omega) Z33)
    have X12 := Aside0.mk (blk_alloc (blk_alloc Xb.out (.cells #[.int .u32 (n1 : Int), .int .i64 (33), .int .i64 f3] 35)) Z33)
    have XA12 := Aside0.mk (blk_alloc (blk_alloc XAb.out (.cells #[.int .u32 (n1 : Int), .int .i64 (33), .int .i64 f3] 35)) Z33)
    have YA12 := Aside0.mk (blk_alloc (blk_alloc YAb.out (.cells #[.int .u32 (n1 : Int), .int .i64 (33), .int .i64 f3] 35)) Z33)
    have RR12 := Aside0.mk (blk_alloc (blk_alloc Rb.out (.cells #[.int .u32 (n1 : Int), .int .i64 (33), .int .i64 f3] 35)) Z33)
    have L12 := Aside0.mk (show wA.heap.size < wb.heap.size ∧ wA.heap.size + 1 < wb.heap.size ∧ w.heap.size + 1 < wb.heap.size from ⟨blk_lt Rb.out, blk_lt Xb.out, blk_lt YAb.out⟩)
    unfold Z33 at R12 Z12 B12 X12 XA12 YA12 RR12
    go_upto_region 15 with (refine wp_fill rfl 33 (.tmp 12) (.tmp 79) rfl (wb.heap.size + 1) _ 33 (lF (some ⟨wb.heap.size, 0, none⟩) 1 1) Z12.out rfl rfl rfl info33 (one_lF _ _ _) ?_; intro wc hxc hfc; have Yc := Aside0.mk hxc; have HFc := Aside0.mk hfc; clear hxc hfc)
    have Rc := Aside0.mk (HFc.out.blk R12.out (fun he => by omega))
    have RRc := Aside0.mk (HFc.out.blk RR12.out (fun he => by have := L12.out; omega))
    have Xc := Aside0.mk (HFc.out.blk X12.out (fun he => by have := L12.out; omega))
    have YAc := Aside0.mk (HFc.out.blk YA12.out (fun he => by have := L12.out; omega))
    have Bc := Aside0.mk (below_fr B12.out B12.out.size HFc.out (fun k hk => by rw [hk]; have := Bb.out.size; omega))
    clear a0 a1 a2 e0 e1 g0 g1
    have e0 : wc.cell? ⟨w.heap.size + 1, 0, none⟩ = some (.int .u32 (na : Int)) := blk_cell YAc.out 0
    have e1 : wc.cell? ⟨w.heap.size + 1, 1, none⟩ = some (.int .i64 fp) := blk_cell YAc.out 1
    go_wp2_with (refine wpList_load_mid rfl 33 (.tmp 12) rfl (wb.heap.size + 1) 0 rfl (lF (some ⟨wb.heap.size, 0, none⟩) 1 1) _ (range_blk Yc.out) Try.underlying33 rfl info33 ?_)
    refine (Lets_calls _ (lF (some ⟨wb.heap.size, 0, none⟩) 1 1).toArray _ 1 [((n1 : Int), 33, f3)] rfl (one_F _ _ _ _ _ _ Rc.out) (by simp) na fp).mono ?_
    rintro e wd ⟨rfl, hbd⟩
    have Bd := Aside0.mk (below_step Bc.out hbd)
    have Xd := Aside0.mk (blk_below Xc.out hbd)
    have Rd := Aside0.mk (blk_below RRc.out hbd)
    clear e0 e1
    have e0 : wd.cell? ⟨w.heap.size + 1, 0, none⟩ = some (.int .u32 (na : Int)) := blk_cell (blk_below YAc.out hbd) 0
    have e1 : wd.cell? ⟨w.heap.size + 1, 1, none⟩ = some (.int .i64 fp) := blk_cell (blk_below YAc.out hbd) 1
    clear hbd
    by_cases hL : letsF [((n1 : Int), 33, f3)] na fp = true
    · have HLM := Aside0.mk (lets_more n1 na N1.out NA.out f2 f3 fp (by rw [hclamp.out]; exact hL))
      rw [hL]
      clear hL
      go_wp2_with (refine gate_guard (by rfl) ?_; refine wpList_load_mid rfl 33 (.tmp 7) rfl (wA.heap.size + 1) 0 rfl (lF (some ⟨wA.heap.size, 0, none⟩) 1 1) _ (range_blk Xd.out) Try.underlying33 rfl info33 ?_)
      refine (Lets_calls _ (lF (some ⟨wA.heap.size, 0, none⟩) 1 1).toArray _ 1 [((n1 : Int), f2, f3)] rfl (one_F _ _ _ _ _ _ Rd.out) (by simp) na fp).mono ?_
      rintro e we ⟨rfl, hbe⟩
      rw [HLM.out]
      have Be := Aside0.mk (below_step Bd.out hbe)
      clear hbe e0 e1
      go_wp2_with fail
      go_ret
      exact ⟨rfl, Be.out⟩
    · have hL' : letsF [((n1 : Int), 33, f3)] na fp = false := by simpa using hL
      rw [hL']
      clear hL hL'
      go_wp2_with fail
      go_ret
      exact ⟨rfl, Bd.out⟩
  by_cases hb2 : 0 < f2
  · skip
    have hclamp : Aside0 (clampF f2 = f2) := ⟨by unfold clampF; first | (rw [if_pos hb1]; done) | (rw [if_neg hb1, if_pos hb2]; done) | (rw [if_neg hb1, if_neg hb2]; done)⟩
    go_upto_region 6 with fail
    have P6 := Aside0.mk (blk_new w5 (.cells #[.int .u32 (n1 : Int), .int .i64 f3] 29))
    have X6 := Aside0.mk (blk_alloc X5.out (.cells #[.int .u32 (n1 : Int), .int .i64 f3] 29))
    have R6 := Aside0.mk (blk_alloc R5.out (.cells #[.int .u32 (n1 : Int), .int .i64 f3] 29))
    have XA6 := Aside0.mk (blk_alloc XA5.out (.cells #[.int .u32 (n1 : Int), .int .i64 f3] 29))
    have YA6 := Aside0.mk (blk_alloc YA5.out (.cells #[.int .u32 (n1 : Int), .int .i64 f3] 29))
    have B6 := Aside0.mk (B5.out.alloc B5.out.size (.cells #[.int .u32 (n1 : Int), .int .i64 f3] 29))
    generalize w5.alloc (.cells #[.int .u32 (n1 : Int), .int .i64 f3] 29) = w6 at *
    clear a0 a1 a2 X5 R5 XA5 YA5 B5
    have a0 : w6.cell? ⟨w.heap.size, 0, none⟩ = some (.int .u32 (n1 : Int)) := blk_cell XA6.out 0
    have a1 : w6.cell? ⟨w.heap.size, 1, none⟩ = some (.int .i64 f2) := blk_cell XA6.out 1
    have a2 : w6.cell? ⟨w.heap.size, 2, none⟩ = some (.int .i64 f3) := blk_cell XA6.out 2
    have e0 : w6.cell? ⟨w.heap.size + 1, 0, none⟩ = some (.int .u32 (na : Int)) := blk_cell YA6.out 0
    have e1 : w6.cell? ⟨w.heap.size + 1, 1, none⟩ = some (.int .i64 fp) := blk_cell YA6.out 1
    have g0 : w6.cell? ⟨w5.heap.size, 0, none⟩ = some (.int .u32 (n1 : Int)) := blk_cell P6.out 0
    have g1 : w6.cell? ⟨w5.heap.size, 1, none⟩ = some (.int .i64 f3) := blk_cell P6.out 1
    go_wp2_with (refine wpList_load_mid rfl 33 (.tmp 7) rfl (wA.heap.size + 1) 0 rfl (lF (some ⟨wA.heap.size, 0, none⟩) 1 1) _ (range_blk X6.out) Try.underlying33 rfl info33 ?_)
    refine (Lets_calls _ (lF (some ⟨wA.heap.size, 0, none⟩) 1 1).toArray _ 1 [((n1 : Int), f2, f3)] rfl (one_F _ _ _ _ _ _ R6.out) (by simp) n1 f3).mono ?_
    rintro e w7 ⟨rfl, hb7⟩
    rw [lets_self n1 N1.out]
    clear a0 a1 a2 e0 e1 g0 g1
    have X7 := Aside0.mk (blk_below X6.out hb7)
    have R7 := Aside0.mk (blk_below R6.out hb7)
    have XA7 := Aside0.mk (blk_below XA6.out hb7)
    have YA7 := Aside0.mk (blk_below YA6.out hb7)
    have P7 := Aside0.mk (blk_below P6.out hb7)
    have B7 := Aside0.mk (below_step B6.out hb7)
    have a0 : w7.cell? ⟨w.heap.size, 0, none⟩ = some (.int .u32 (n1 : Int)) := blk_cell XA7.out 0
    have a1 : w7.cell? ⟨w.heap.size, 1, none⟩ = some (.int .i64 f2) := blk_cell XA7.out 1
    have a2 : w7.cell? ⟨w.heap.size, 2, none⟩ = some (.int .i64 f3) := blk_cell XA7.out 2
    have e0 : w7.cell? ⟨w.heap.size + 1, 0, none⟩ = some (.int .u32 (na : Int)) := blk_cell YA7.out 0
    have e1 : w7.cell? ⟨w.heap.size + 1, 1, none⟩ = some (.int .i64 fp) := blk_cell YA7.out 1
    have g0 : w7.cell? ⟨w5.heap.size, 0, none⟩ = some (.int .u32 (n1 : Int)) := blk_cell P7.out 0
    have g1 : w7.cell? ⟨w5.heap.size, 1, none⟩ = some (.int .i64 f3) := blk_cell P7.out 1
    clear hb7
    go_wp2_with fail
    refine (Lets_calls _ _ none 0 [] rfl (Kd.C_nil _ _) (by simp) na fp).mono ?_
    rintro e w8 ⟨rfl, hb8⟩
    rw [lets_nil]
    clear a0 a1 a2 e0 e1 g0 g1
    have X8 := Aside0.mk (blk_below X7.out hb8)
    have R8 := Aside0.mk (blk_below R7.out hb8)
    have XA8 := Aside0.mk (blk_below XA7.out hb8)
    have YA8 := Aside0.mk (blk_below YA7.out hb8)
    have P8 := Aside0.mk (blk_below P7.out hb8)
    have B8 := Aside0.mk (below_step B7.out hb8)
    have a0 : w8.cell? ⟨w.heap.size, 0, none⟩ = some (.int .u32 (n1 : Int)) := blk_cell XA8.out 0
    have a1 : w8.cell? ⟨w.heap.size, 1, none⟩ = some (.int .i64 f2) := blk_cell XA8.out 1
    have a2 : w8.cell? ⟨w.heap.size, 2, none⟩ = some (.int .i64 f3) := blk_cell XA8.out 2
    have e0 : w8.cell? ⟨w.heap.size + 1, 0, none⟩ = some (.int .u32 (na : Int)) := blk_cell YA8.out 0
    have e1 : w8.cell? ⟨w.heap.size + 1, 1, none⟩ = some (.int .i64 fp) := blk_cell YA8.out 1
    have g0 : w8.cell? ⟨w5.heap.size, 0, none⟩ = some (.int .u32 (n1 : Int)) := blk_cell P8.out 0
    have g1 : w8.cell? ⟨w5.heap.size, 1, none⟩ = some (.int .i64 f3) := blk_cell P8.out 1
    clear hb8
    go_upto_region 10 with fail
    rw [HK.out, HXK.out]
    have Q9 := Aside0.mk (blk_new w8 (.cells #[.int .u32 (yy : Int), .int .i64 f3] 29))
    have X9 := Aside0.mk (blk_alloc X8.out (.cells #[.int .u32 (yy : Int), .int .i64 f3] 29))
    have R9 := Aside0.mk (blk_alloc R8.out (.cells #[.int .u32 (yy : Int), .int .i64 f3] 29))
    have XA9 := Aside0.mk (blk_alloc XA8.out (.cells #[.int .u32 (yy : Int), .int .i64 f3] 29))
    have YA9 := Aside0.mk (blk_alloc YA8.out (.cells #[.int .u32 (yy : Int), .int .i64 f3] 29))
    have P9 := Aside0.mk (blk_alloc P8.out (.cells #[.int .u32 (yy : Int), .int .i64 f3] 29))
    have B9 := Aside0.mk (B8.out.alloc B8.out.size (.cells #[.int .u32 (yy : Int), .int .i64 f3] 29))
    generalize w8.alloc (.cells #[.int .u32 (yy : Int), .int .i64 f3] 29) = w9 at *
    clear a0 a1 a2 e0 e1 g0 g1
    have a0 : w9.cell? ⟨w.heap.size, 0, none⟩ = some (.int .u32 (n1 : Int)) := blk_cell XA9.out 0
    have a1 : w9.cell? ⟨w.heap.size, 1, none⟩ = some (.int .i64 f2) := blk_cell XA9.out 1
    have a2 : w9.cell? ⟨w.heap.size, 2, none⟩ = some (.int .i64 f3) := blk_cell XA9.out 2
    have e0 : w9.cell? ⟨w.heap.size + 1, 0, none⟩ = some (.int .u32 (na : Int)) := blk_cell YA9.out 0
    have e1 : w9.cell? ⟨w.heap.size + 1, 1, none⟩ = some (.int .i64 fp) := blk_cell YA9.out 1
    have g0 : w9.cell? ⟨w5.heap.size, 0, none⟩ = some (.int .u32 (n1 : Int)) := blk_cell P9.out 0
    have g1 : w9.cell? ⟨w5.heap.size, 1, none⟩ = some (.int .i64 f3) := blk_cell P9.out 1
    have q0 : w9.cell? ⟨w8.heap.size, 0, none⟩ = some (.int .u32 (yy : Int)) := blk_cell Q9.out 0
    have q1 : w9.cell? ⟨w8.heap.size, 1, none⟩ = some (.int .i64 f3) := blk_cell Q9.out 1
    go_wp2_with (refine wpList_load_mid rfl 33 (.tmp 7) rfl (wA.heap.size + 1) 0 rfl (lF (some ⟨wA.heap.size, 0, none⟩) 1 1) _ (range_blk X9.out) Try.underlying33 rfl info33 ?_)
    refine (Lets_calls _ (lF (some ⟨wA.heap.size, 0, none⟩) 1 1).toArray _ 1 [((n1 : Int), f2, f3)] rfl (one_F _ _ _ _ _ _ R9.out) (by simp) yy f3).mono ?_
    rintro e wa ⟨rfl, hba⟩
    rw [HFL.out, hclamp.out]
    clear q0 q1
    clear a0 a1 a2 e0 e1 g0 g1
    have Xa := Aside0.mk (blk_below X9.out hba)
    have Ra := Aside0.mk (blk_below R9.out hba)
    have XAa := Aside0.mk (blk_below XA9.out hba)
    have YAa := Aside0.mk (blk_below YA9.out hba)
    have Pa := Aside0.mk (blk_below P9.out hba)
    have Ba := Aside0.mk (below_step B9.out hba)
    have a0 : wa.cell? ⟨w.heap.size, 0, none⟩ = some (.int .u32 (n1 : Int)) := blk_cell XAa.out 0
    have a1 : wa.cell? ⟨w.heap.size, 1, none⟩ = some (.int .i64 f2) := blk_cell XAa.out 1
    have a2 : wa.cell? ⟨w.heap.size, 2, none⟩ = some (.int .i64 f3) := blk_cell XAa.out 2
    have e0 : wa.cell? ⟨w.heap.size + 1, 0, none⟩ = some (.int .u32 (na : Int)) := blk_cell YAa.out 0
    have e1 : wa.cell? ⟨w.heap.size + 1, 1, none⟩ = some (.int .i64 fp) := blk_cell YAa.out 1
    have g0 : wa.cell? ⟨w5.heap.size, 0, none⟩ = some (.int .u32 (n1 : Int)) := blk_cell Pa.out 0
    have g1 : wa.cell? ⟨w5.heap.size, 1, none⟩ = some (.int .i64 f3) := blk_cell Pa.out 1
    clear hba
    go_upto_region 12 with fail
    by_cases h0 : f3 = 0
    · have h0b : (f3 != 0) = false := by simp [h0]
      clear h0
      go_upto_region 14 with fail
      have R12 := Aside0.mk (blk_alloc (blk_new wa (.cells #[.int .u32 (n1 : Int), .int .i64 (f2 + 1), .int .i64 f3] 35)) Z33)
      have Z12 := Aside0.mk (two_new wa (.cells #[.int .u32 (n1 : Int), .int .i64 (f2 + 1), .int .i64 f3] 35) Z33)
      have B12 := Aside0.mk (Below.alloc (Ba.out.alloc Ba.out.size (.cells #[.int .u32 (n1 : Int), .int .i64 (f2 + 1), .int .i64 f3] 35)) (by rw [World.size_alloc]; have := Ba.out.size; omega) Z33)
      have X12 := Aside0.mk (blk_alloc (blk_alloc Xa.out (.cells #[.int .u32 (n1 : Int), .int .i64 (f2 + 1), .int .i64 f3] 35)) Z33)
      have XA12 := Aside0.mk (blk_alloc (blk_alloc XAa.out (.cells #[.int .u32 (n1 : Int), .int .i64 (f2 + 1), .int .i64 f3] 35)) Z33)
      have YA12 := Aside0.mk (blk_alloc (blk_alloc YAa.out (.cells #[.int .u32 (n1 : Int), .int .i64 (f2 + 1), .int .i64 f3] 35)) Z33)
      have RR12 := Aside0.mk (blk_alloc (blk_alloc Ra.out (.cells #[.int .u32 (n1 : Int), .int .i64 (f2 + 1), .int .i64 f3] 35)) Z33)
      have L12 := Aside0.mk (show wA.heap.size < wa.heap.size ∧ wA.heap.size + 1 < wa.heap.size ∧ w.heap.size + 1 < wa.heap.size from ⟨blk_lt Ra.out, blk_lt Xa.out, blk_lt YAa.out⟩)
      unfold Z33 at R12 Z12 B12 X12 XA12 YA12 RR12
      go_upto_region 15 with (refine wp_fill rfl 33 (.tmp 12) (.tmp 79) rfl (wa.heap.size + 1) _ 33 (lF (some ⟨wa.heap.size, 0, none⟩) 1 1) Z12.out rfl rfl rfl info33 (one_lF _ _ _) ?_; intro wc hxc hfc; have Yc := Aside0.mk hxc; have HFc := Aside0.mk hfc; clear hxc hfc)
      have Rc := Aside0.mk (HFc.out.blk R12.out (fun he => by omega))
      have RRc := Aside0.mk (HFc.out.blk RR12.out (fun he => by have := L12.out; omega))
      have Xc := Aside0.mk (HFc.out.blk X12.out (fun he => by have := L12.out; omega))
      have YAc := Aside0.mk (HFc.out.blk YA12.out (fun he => by have := L12.out; omega))
      have Bc := Aside0.mk (below_fr B12.out B12.out.size HFc.out (fun k hk => by rw [hk]; have := Ba.out.size; omega))
      clear a0 a1 a2 e0 e1 g0 g1
      have e0 : wc.cell? ⟨w.heap.size + 1, 0, none⟩ = some (.int .u32 (na : Int)) := blk_cell YAc.out 0
      have e1 : wc.cell? ⟨w.heap.size + 1, 1, none⟩ = some (.int .i64 fp) := blk_cell YAc.out 1
      go_wp2_with (refine wpList_load_mid rfl 33 (.tmp 12) rfl (wa.heap.size + 1) 0 rfl (lF (some ⟨wa.heap.size, 0, none⟩) 1 1) _ (range_blk Yc.out) Try.underlying33 rfl info33 ?_)
      refine (Lets_calls _ (lF (some ⟨wa.heap.size, 0, none⟩) 1 1).toArray _ 1 [((n1 : Int), f2 + 1, f3)] rfl (one_F _ _ _ _ _ _ Rc.out) (by simp) na fp).mono ?_
      rintro e wd ⟨rfl, hbd⟩
      have Bd := Aside0.mk (below_step Bc.out hbd)
      have Xd := Aside0.mk (blk_below Xc.out hbd)
      have Rd := Aside0.mk (blk_below RRc.out hbd)
      clear e0 e1
      have e0 : wd.cell? ⟨w.heap.size + 1, 0, none⟩ = some (.int .u32 (na : Int)) := blk_cell (blk_below YAc.out hbd) 0
      have e1 : wd.cell? ⟨w.heap.size + 1, 1, none⟩ = some (.int .i64 fp) := blk_cell (blk_below YAc.out hbd) 1
      clear hbd
      by_cases hL : letsF [((n1 : Int), f2 + 1, f3)] na fp = true
      · have HLM := Aside0.mk (lets_more n1 na N1.out NA.out f2 f3 fp (by rw [hclamp.out]; exact hL))
        rw [hL]
        clear hL
        go_wp2_with (refine gate_guard (by rfl) ?_; refine wpList_load_mid rfl 33 (.tmp 7) rfl (wA.heap.size + 1) 0 rfl (lF (some ⟨wA.heap.size, 0, none⟩) 1 1) _ (range_blk Xd.out) Try.underlying33 rfl info33 ?_)
        refine (Lets_calls _ (lF (some ⟨wA.heap.size, 0, none⟩) 1 1).toArray _ 1 [((n1 : Int), f2, f3)] rfl (one_F _ _ _ _ _ _ Rd.out) (by simp) na fp).mono ?_
        rintro e we ⟨rfl, hbe⟩
        rw [HLM.out]
        have Be := Aside0.mk (below_step Bd.out hbe)
        clear hbe e0 e1
        go_wp2_with fail
        go_ret
        exact ⟨rfl, Be.out⟩
      · have hL' : letsF [((n1 : Int), f2 + 1, f3)] na fp = false := by simpa using hL
        rw [hL']
        clear hL hL'
        go_wp2_with fail
        go_ret
        exact ⟨rfl, Bd.out⟩
    have h0b : (f3 != 0) = true := by simp [h0]
    by_cases h2 : fp = f3
    · have h2b : (fp != f3) = false := by simp [h2]
      clear h0 h2
      go_upto_region 14 with fail
      have R12 := Aside0.mk (blk_alloc (blk_new wa (.cells #[.int .u32 (n1 : Int), .int .i64 (f2 + 1), .int .i64 f3] 35)) Z33)
      have Z12 := Aside0.mk (two_new wa (.cells #[.int .u32 (n1 : Int), .int .i64 (f2 + 1), .int .i64 f3] 35) Z33)
      have B12 := Aside0.mk (Below.alloc (Ba.out.alloc Ba.out.size (.cells #[.int .u32 (n1 : Int), .int .i64 (f2 + 1), .int .i64 f3] 35)) (by rw [World.size_alloc]; have := Ba.out.size; omega) Z33)
      have X12 := Aside0.mk (blk_alloc (blk_alloc Xa.out (.cells #[.int .u32 (n1 : Int), .int .i64 (f2 + 1), .int .i64 f3] 35)) Z33)
      have XA12 := Aside0.mk (blk_alloc (blk_alloc XAa.out (.cells #[.int .u32 (n1 : Int), .int .i64 (f2 + 1), .int .i64 f3] 35)) Z33)
      have YA12 := Aside0.mk (blk_alloc (blk_alloc YAa.out (.cells #[.int .u32 (n1 : Int), .int .i64 (f2 + 1), .int .i64 f3] 35)) Z33)
      have RR12 := Aside0.mk (blk_alloc (blk_alloc Ra.out (.cells #[.int .u32 (n1 : Int), .int .i64 (f2 + 1), .int .i64 f3] 35)) Z33)
      have L12 := Aside0.mk (show wA.heap.size < wa.heap.size ∧ wA.heap.size + 1 < wa.heap.size ∧ w.heap.size + 1 < wa.heap.size from ⟨blk_lt Ra.out, blk_lt Xa.out, blk_lt YAa.out⟩)
      unfold Z33 at R12 Z12 B12 X12 XA12 YA12 RR12
      go_upto_region 15 with (refine wp_fill rfl 33 (.tmp 12) (.tmp 79) rfl (wa.heap.size + 1) _ 33 (lF (some ⟨wa.heap.size, 0, none⟩) 1 1) Z12.out rfl rfl rfl info33 (one_lF _ _ _) ?_; intro wc hxc hfc; have Yc := Aside0.mk hxc; have HFc := Aside0.mk hfc; clear hxc hfc)
      have Rc := Aside0.mk (HFc.out.blk R12.out (fun he => by omega))
      have RRc := Aside0.mk (HFc.out.blk RR12.out (fun he => by have := L12.out; omega))
      have Xc := Aside0.mk (HFc.out.blk X12.out (fun he => by have := L12.out; omega))
      have YAc := Aside0.mk (HFc.out.blk YA12.out (fun he => by have := L12.out; omega))
      have Bc := Aside0.mk (below_fr B12.out B12.out.size HFc.out (fun k hk => by rw [hk]; have := Ba.out.size; omega))
      clear a0 a1 a2 e0 e1 g0 g1
      have e0 : wc.cell? ⟨w.heap.size + 1, 0, none⟩ = some (.int .u32 (na : Int)) := blk_cell YAc.out 0
      have e1 : wc.cell? ⟨w.heap.size + 1, 1, none⟩ = some (.int .i64 fp) := blk_cell YAc.out 1
      go_wp2_with (refine wpList_load_mid rfl 33 (.tmp 12) rfl (wa.heap.size + 1) 0 rfl (lF (some ⟨wa.heap.size, 0, none⟩) 1 1) _ (range_blk Yc.out) Try.underlying33 rfl info33 ?_)
      refine (Lets_calls _ (lF (some ⟨wa.heap.size, 0, none⟩) 1 1).toArray _ 1 [((n1 : Int), f2 + 1, f3)] rfl (one_F _ _ _ _ _ _ Rc.out) (by simp) na fp).mono ?_
      rintro e wd ⟨rfl, hbd⟩
      have Bd := Aside0.mk (below_step Bc.out hbd)
      have Xd := Aside0.mk (blk_below Xc.out hbd)
      have Rd := Aside0.mk (blk_below RRc.out hbd)
      clear e0 e1
      have e0 : wd.cell? ⟨w.heap.size + 1, 0, none⟩ = some (.int .u32 (na : Int)) := blk_cell (blk_below YAc.out hbd) 0
      have e1 : wd.cell? ⟨w.heap.size + 1, 1, none⟩ = some (.int .i64 fp) := blk_cell (blk_below YAc.out hbd) 1
      clear hbd
      by_cases hL : letsF [((n1 : Int), f2 + 1, f3)] na fp = true
      · have HLM := Aside0.mk (lets_more n1 na N1.out NA.out f2 f3 fp (by rw [hclamp.out]; exact hL))
        rw [hL]
        clear hL
        go_wp2_with (refine gate_guard (by rfl) ?_; refine wpList_load_mid rfl 33 (.tmp 7) rfl (wA.heap.size + 1) 0 rfl (lF (some ⟨wA.heap.size, 0, none⟩) 1 1) _ (range_blk Xd.out) Try.underlying33 rfl info33 ?_)
        refine (Lets_calls _ (lF (some ⟨wA.heap.size, 0, none⟩) 1 1).toArray _ 1 [((n1 : Int), f2, f3)] rfl (one_F _ _ _ _ _ _ Rd.out) (by simp) na fp).mono ?_
        rintro e we ⟨rfl, hbe⟩
        rw [HLM.out]
        have Be := Aside0.mk (below_step Bd.out hbe)
        clear hbe e0 e1
        go_wp2_with fail
        go_ret
        exact ⟨rfl, Be.out⟩
      · have hL' : letsF [((n1 : Int), f2 + 1, f3)] na fp = false := by simpa using hL
        rw [hL']
        clear hL hL'
        go_wp2_with fail
        go_ret
        exact ⟨rfl, Bd.out⟩
    have h2b : (fp != f3) = true := by simp [h2]
    have HPT := Aside0.mk (lets_port n1 f2 f3 na fp h0 h2)
    clear h0 h2
    go_wp2_with (refine gate_guard (by rfl) ?_; refine wpList_load_mid rfl 33 (.tmp 7) rfl (wA.heap.size + 1) 0 rfl (lF (some ⟨wA.heap.size, 0, none⟩) 1 1) _ (range_blk Xa.out) Try.underlying33 rfl info33 ?_)
    refine (Lets_calls _ (lF (some ⟨wA.heap.size, 0, none⟩) 1 1).toArray _ 1 [((n1 : Int), f2, f3)] rfl (one_F _ _ _ _ _ _ Ra.out) (by simp) na fp).mono ?_
    rintro e wb ⟨rfl, hbb⟩
    rw [HPT.out]
    clear a0 a1 a2 e0 e1 g0 g1
    have Xb := Aside0.mk (blk_below Xa.out hbb)
    have Rb := Aside0.mk (blk_below Ra.out hbb)
    have XAb := Aside0.mk (blk_below XAa.out hbb)
    have YAb := Aside0.mk (blk_below YAa.out hbb)
    have Pb := Aside0.mk (blk_below Pa.out hbb)
    have Bb := Aside0.mk (below_step Ba.out hbb)
    have a0 : wb.cell? ⟨w.heap.size, 0, none⟩ = some (.int .u32 (n1 : Int)) := blk_cell XAb.out 0
    have a1 : wb.cell? ⟨w.heap.size, 1, none⟩ = some (.int .i64 f2) := blk_cell XAb.out 1
    have a2 : wb.cell? ⟨w.heap.size, 2, none⟩ = some (.int .i64 f3) := blk_cell XAb.out 2
    have e0 : wb.cell? ⟨w.heap.size + 1, 0, none⟩ = some (.int .u32 (na : Int)) := blk_cell YAb.out 0
    have e1 : wb.cell? ⟨w.heap.size + 1, 1, none⟩ = some (.int .i64 fp) := blk_cell YAb.out 1
    have g0 : wb.cell? ⟨w5.heap.size, 0, none⟩ = some (.int .u32 (n1 : Int)) := blk_cell Pb.out 0
    have g1 : wb.cell? ⟨w5.heap.size, 1, none⟩ = some (.int .i64 f3) := blk_cell Pb.out 1
    clear hbb
    go_upto_region 14 with fail
    have R12 := Aside0.mk (blk_alloc (blk_new wb (.cells #[.int .u32 (n1 : Int), .int .i64 (f2 + 1), .int .i64 f3] 35)) Z33)
    have Z12 := Aside0.mk (two_new wb (.cells #[.int .u32 (n1 : Int), .int .i64 (f2 + 1), .int .i64 f3] 35) Z33)
    have B12 := Aside0.mk (Below.alloc (Bb.out.alloc Bb.out.size (.cells #[.int .u32 (n1 : Int), .int .i64 (f2 + 1), .int .i64 f3] 35)) (by rw [World.size_alloc]; have := Bb.out.size; omega) Z33)
    have X12 := Aside0.mk (blk_alloc (blk_alloc Xb.out (.cells #[.int .u32 (n1 : Int), .int .i64 (f2 + 1), .int .i64 f3] 35)) Z33)
    have XA12 := Aside0.mk (blk_alloc (blk_alloc XAb.out (.cells #[.int .u32 (n1 : Int), .int .i64 (f2 + 1), .int .i64 f3] 35)) Z33)
    have YA12 := Aside0.mk (blk_alloc (blk_alloc YAb.out (.cells #[.int .u32 (n1 : Int), .int .i64 (f2 + 1), .int .i64 f3] 35)) Z33)
    have RR12 := Aside0.mk (blk_alloc (blk_alloc Rb.out (.cells #[.int .u32 (n1 : Int), .int .i64 (f2 + 1), .int .i64 f3] 35)) Z33)
    have L12 := Aside0.mk (show wA.heap.size < wb.heap.size ∧ wA.heap.size + 1 < wb.heap.size ∧ w.heap.size + 1 < wb.heap.size from ⟨blk_lt Rb.out, blk_lt Xb.out, blk_lt YAb.out⟩)
    unfold Z33 at R12 Z12 B12 X12 XA12 YA12 RR12
    go_upto_region 15 with (refine wp_fill rfl 33 (.tmp 12) (.tmp 79) rfl (wb.heap.size + 1) _ 33 (lF (some ⟨wb.heap.size, 0, none⟩) 1 1) Z12.out rfl rfl rfl info33 (one_lF _ _ _) ?_; intro wc hxc hfc; have Yc := Aside0.mk hxc; have HFc := Aside0.mk hfc; clear hxc hfc)
    have Rc := Aside0.mk (HFc.out.blk R12.out (fun he => by omega))
    have RRc := Aside0.mk (HFc.out.blk RR12.out (fun he => by have := L12.out; omega))
    have Xc := Aside0.mk (HFc.out.blk X12.out (fun he => by have := L12.out; omega))
    have YAc := Aside0.mk (HFc.out.blk YA12.out (fun he => by have := L12.out; omega))
    have Bc := Aside0.mk (below_fr B12.out B12.out.size HFc.out (fun k hk => by rw [hk]; have := Bb.out.size; omega))
    clear a0 a1 a2 e0 e1 g0 g1
    have e0 : wc.cell? ⟨w.heap.size + 1, 0, none⟩ = some (.int .u32 (na : Int)) := blk_cell YAc.out 0
    have e1 : wc.cell? ⟨w.heap.size + 1, 1, none⟩ = some (.int .i64 fp) := blk_cell YAc.out 1
    go_wp2_with (refine wpList_load_mid rfl 33 (.tmp 12) rfl (wb.heap.size + 1) 0 rfl (lF (some ⟨wb.heap.size, 0, none⟩) 1 1) _ (range_blk Yc.out) Try.underlying33 rfl info33 ?_)
    refine (Lets_calls _ (lF (some ⟨wb.heap.size, 0, none⟩) 1 1).toArray _ 1 [((n1 : Int), f2 + 1, f3)] rfl (one_F _ _ _ _ _ _ Rc.out) (by simp) na fp).mono ?_
    rintro e wd ⟨rfl, hbd⟩
    have Bd := Aside0.mk (below_step Bc.out hbd)
    have Xd := Aside0.mk (blk_below Xc.out hbd)
    have Rd := Aside0.mk (blk_below RRc.out hbd)
    clear e0 e1
    have e0 : wd.cell? ⟨w.heap.size + 1, 0, none⟩ = some (.int .u32 (na : Int)) := blk_cell (blk_below YAc.out hbd) 0
    have e1 : wd.cell? ⟨w.heap.size + 1, 1, none⟩ = some (.int .i64 fp) := blk_cell (blk_below YAc.out hbd) 1
    clear hbd
    by_cases hL : letsF [((n1 : Int), f2 + 1, f3)] na fp = true
    · have HLM := Aside0.mk (lets_more n1 na N1.out NA.out f2 f3 fp (by rw [hclamp.out]; exact hL))
      rw [hL]
      clear hL
      go_wp2_with (refine gate_guard (by rfl) ?_; refine wpList_load_mid rfl 33 (.tmp 7) rfl (wA.heap.size + 1) 0 rfl (lF (some ⟨wA.heap.size, 0, none⟩) 1 1) _ (range_blk Xd.out) Try.underlying33 rfl info33 ?_)
      refine (Lets_calls _ (lF (some ⟨wA.heap.size, 0, none⟩) 1 1).toArray _ 1 [((n1 : Int), f2, f3)] rfl (one_F _ _ _ _ _ _ Rd.out) (by simp) na fp).mono ?_
      rintro e we ⟨rfl, hbe⟩
      rw [HLM.out]
      have Be := Aside0.mk (below_step Bd.out hbe)
      clear hbe e0 e1
      go_wp2_with fail
      go_ret
      exact ⟨rfl, Be.out⟩
    · have hL' : letsF [((n1 : Int), f2 + 1, f3)] na fp = false := by simpa using hL
      rw [hL']
      clear hL hL'
      go_wp2_with fail
      go_ret
      exact ⟨rfl, Bd.out⟩
  by_cases hb3 : f2 = 0
  · subst hb3
    have hclamp : Aside0 (clampF (0 : Int) = 0) := ⟨by unfold clampF; first | (rw [if_pos hb1]; done) | (rw [if_neg hb1, if_pos hb2]; done) | (rw [if_neg hb1, if_neg hb2]; done)⟩
    go_upto_region 6 with fail
    have P6 := Aside0.mk (blk_new w5 (.cells #[.int .u32 (n1 : Int), .int .i64 f3] 29))
    have X6 := Aside0.mk (blk_alloc X5.out (.cells #[.int .u32 (n1 : Int), .int .i64 f3] 29))
    have R6 := Aside0.mk (blk_alloc R5.out (.cells #[.int .u32 (n1 : Int), .int .i64 f3] 29))
    have XA6 := Aside0.mk (blk_alloc XA5.out (.cells #[.int .u32 (n1 : Int), .int .i64 f3] 29))
    have YA6 := Aside0.mk (blk_alloc YA5.out (.cells #[.int .u32 (n1 : Int), .int .i64 f3] 29))
    have B6 := Aside0.mk (B5.out.alloc B5.out.size (.cells #[.int .u32 (n1 : Int), .int .i64 f3] 29))
    generalize w5.alloc (.cells #[.int .u32 (n1 : Int), .int .i64 f3] 29) = w6 at *
    clear a0 a1 a2 X5 R5 XA5 YA5 B5
    have a0 : w6.cell? ⟨w.heap.size, 0, none⟩ = some (.int .u32 (n1 : Int)) := blk_cell XA6.out 0
    have a1 : w6.cell? ⟨w.heap.size, 1, none⟩ = some (.int .i64 (0 : Int)) := blk_cell XA6.out 1
    have a2 : w6.cell? ⟨w.heap.size, 2, none⟩ = some (.int .i64 f3) := blk_cell XA6.out 2
    have e0 : w6.cell? ⟨w.heap.size + 1, 0, none⟩ = some (.int .u32 (na : Int)) := blk_cell YA6.out 0
    have e1 : w6.cell? ⟨w.heap.size + 1, 1, none⟩ = some (.int .i64 fp) := blk_cell YA6.out 1
    have g0 : w6.cell? ⟨w5.heap.size, 0, none⟩ = some (.int .u32 (n1 : Int)) := blk_cell P6.out 0
    have g1 : w6.cell? ⟨w5.heap.size, 1, none⟩ = some (.int .i64 f3) := blk_cell P6.out 1
    go_wp2_with (refine wpList_load_mid rfl 33 (.tmp 7) rfl (wA.heap.size + 1) 0 rfl (lF (some ⟨wA.heap.size, 0, none⟩) 1 1) _ (range_blk X6.out) Try.underlying33 rfl info33 ?_)
    refine (Lets_calls _ (lF (some ⟨wA.heap.size, 0, none⟩) 1 1).toArray _ 1 [((n1 : Int), (0 : Int), f3)] rfl (one_F _ _ _ _ _ _ R6.out) (by simp) n1 f3).mono ?_
    rintro e w7 ⟨rfl, hb7⟩
    rw [lets_self n1 N1.out]
    clear a0 a1 a2 e0 e1 g0 g1
    have X7 := Aside0.mk (blk_below X6.out hb7)
    have R7 := Aside0.mk (blk_below R6.out hb7)
    have XA7 := Aside0.mk (blk_below XA6.out hb7)
    have YA7 := Aside0.mk (blk_below YA6.out hb7)
    have P7 := Aside0.mk (blk_below P6.out hb7)
    have B7 := Aside0.mk (below_step B6.out hb7)
    have a0 : w7.cell? ⟨w.heap.size, 0, none⟩ = some (.int .u32 (n1 : Int)) := blk_cell XA7.out 0
    have a1 : w7.cell? ⟨w.heap.size, 1, none⟩ = some (.int .i64 (0 : Int)) := blk_cell XA7.out 1
    have a2 : w7.cell? ⟨w.heap.size, 2, none⟩ = some (.int .i64 f3) := blk_cell XA7.out 2
    have e0 : w7.cell? ⟨w.heap.size + 1, 0, none⟩ = some (.int .u32 (na : Int)) := blk_cell YA7.out 0
    have e1 : w7.cell? ⟨w.heap.size + 1, 1, none⟩ = some (.int .i64 fp) := blk_cell YA7.out 1
    have g0 : w7.cell? ⟨w5.heap.size, 0, none⟩ = some (.int .u32 (n1 : Int)) := blk_cell P7.out 0
    have g1 : w7.cell? ⟨w5.heap.size, 1, none⟩ = some (.int .i64 f3) := blk_cell P7.out 1
    clear hb7
    go_wp2_with fail
    refine (Lets_calls _ _ none 0 [] rfl (Kd.C_nil _ _) (by simp) na fp).mono ?_
    rintro e w8 ⟨rfl, hb8⟩
    rw [lets_nil]
    clear a0 a1 a2 e0 e1 g0 g1
    have X8 := Aside0.mk (blk_below X7.out hb8)
    have R8 := Aside0.mk (blk_below R7.out hb8)
    have XA8 := Aside0.mk (blk_below XA7.out hb8)
    have YA8 := Aside0.mk (blk_below YA7.out hb8)
    have P8 := Aside0.mk (blk_below P7.out hb8)
    have B8 := Aside0.mk (below_step B7.out hb8)
    have a0 : w8.cell? ⟨w.heap.size, 0, none⟩ = some (.int .u32 (n1 : Int)) := blk_cell XA8.out 0
    have a1 : w8.cell? ⟨w.heap.size, 1, none⟩ = some (.int .i64 (0 : Int)) := blk_cell XA8.out 1
    have a2 : w8.cell? ⟨w.heap.size, 2, none⟩ = some (.int .i64 f3) := blk_cell XA8.out 2
    have e0 : w8.cell? ⟨w.heap.size + 1, 0, none⟩ = some (.int .u32 (na : Int)) := blk_cell YA8.out 0
    have e1 : w8.cell? ⟨w.heap.size + 1, 1, none⟩ = some (.int .i64 fp) := blk_cell YA8.out 1
    have g0 : w8.cell? ⟨w5.heap.size, 0, none⟩ = some (.int .u32 (n1 : Int)) := blk_cell P8.out 0
    have g1 : w8.cell? ⟨w5.heap.size, 1, none⟩ = some (.int .i64 f3) := blk_cell P8.out 1
    clear hb8
    go_upto_region 10 with fail
    rw [HK.out, HXK.out]
    have Q9 := Aside0.mk (blk_new w8 (.cells #[.int .u32 (yy : Int), .int .i64 f3] 29))
    have X9 := Aside0.mk (blk_alloc X8.out (.cells #[.int .u32 (yy : Int), .int .i64 f3] 29))
    have R9 := Aside0.mk (blk_alloc R8.out (.cells #[.int .u32 (yy : Int), .int .i64 f3] 29))
    have XA9 := Aside0.mk (blk_alloc XA8.out (.cells #[.int .u32 (yy : Int), .int .i64 f3] 29))
    have YA9 := Aside0.mk (blk_alloc YA8.out (.cells #[.int .u32 (yy : Int), .int .i64 f3] 29))
    have P9 := Aside0.mk (blk_alloc P8.out (.cells #[.int .u32 (yy : Int), .int .i64 f3] 29))
    have B9 := Aside0.mk (B8.out.alloc B8.out.size (.cells #[.int .u32 (yy : Int), .int .i64 f3] 29))
    generalize w8.alloc (.cells #[.int .u32 (yy : Int), .int .i64 f3] 29) = w9 at *
    clear a0 a1 a2 e0 e1 g0 g1
    have a0 : w9.cell? ⟨w.heap.size, 0, none⟩ = some (.int .u32 (n1 : Int)) := blk_cell XA9.out 0
    have a1 : w9.cell? ⟨w.heap.size, 1, none⟩ = some (.int .i64 (0 : Int)) := blk_cell XA9.out 1
    have a2 : w9.cell? ⟨w.heap.size, 2, none⟩ = some (.int .i64 f3) := blk_cell XA9.out 2
    have e0 : w9.cell? ⟨w.heap.size + 1, 0, none⟩ = some (.int .u32 (na : Int)) := blk_cell YA9.out 0
    have e1 : w9.cell? ⟨w.heap.size + 1, 1, none⟩ = some (.int .i64 fp) := blk_cell YA9.out 1
    have g0 : w9.cell? ⟨w5.heap.size, 0, none⟩ = some (.int .u32 (n1 : Int)) := blk_cell P9.out 0
    have g1 : w9.cell? ⟨w5.heap.size, 1, none⟩ = some (.int .i64 f3) := blk_cell P9.out 1
    have q0 : w9.cell? ⟨w8.heap.size, 0, none⟩ = some (.int .u32 (yy : Int)) := blk_cell Q9.out 0
    have q1 : w9.cell? ⟨w8.heap.size, 1, none⟩ = some (.int .i64 f3) := blk_cell Q9.out 1
    go_wp2_with (refine wpList_load_mid rfl 33 (.tmp 7) rfl (wA.heap.size + 1) 0 rfl (lF (some ⟨wA.heap.size, 0, none⟩) 1 1) _ (range_blk X9.out) Try.underlying33 rfl info33 ?_)
    refine (Lets_calls _ (lF (some ⟨wA.heap.size, 0, none⟩) 1 1).toArray _ 1 [((n1 : Int), (0 : Int), f3)] rfl (one_F _ _ _ _ _ _ R9.out) (by simp) yy f3).mono ?_
    rintro e wa ⟨rfl, hba⟩
    rw [HFL.out, hclamp.out]
    clear q0 q1
    clear a0 a1 a2 e0 e1 g0 g1
    have Xa := Aside0.mk (blk_below X9.out hba)
    have Ra := Aside0.mk (blk_below R9.out hba)
    have XAa := Aside0.mk (blk_below XA9.out hba)
    have YAa := Aside0.mk (blk_below YA9.out hba)
    have Pa := Aside0.mk (blk_below P9.out hba)
    have Ba := Aside0.mk (below_step B9.out hba)
    have a0 : wa.cell? ⟨w.heap.size, 0, none⟩ = some (.int .u32 (n1 : Int)) := blk_cell XAa.out 0
    have a1 : wa.cell? ⟨w.heap.size, 1, none⟩ = some (.int .i64 (0 : Int)) := blk_cell XAa.out 1
    have a2 : wa.cell? ⟨w.heap.size, 2, none⟩ = some (.int .i64 f3) := blk_cell XAa.out 2
    have e0 : wa.cell? ⟨w.heap.size + 1, 0, none⟩ = some (.int .u32 (na : Int)) := blk_cell YAa.out 0
    have e1 : wa.cell? ⟨w.heap.size + 1, 1, none⟩ = some (.int .i64 fp) := blk_cell YAa.out 1
    have g0 : wa.cell? ⟨w5.heap.size, 0, none⟩ = some (.int .u32 (n1 : Int)) := blk_cell Pa.out 0
    have g1 : wa.cell? ⟨w5.heap.size, 1, none⟩ = some (.int .i64 f3) := blk_cell Pa.out 1
    clear hba
    go_upto_region 12 with fail
    by_cases h0 : f3 = 0
    · have h0b : (f3 != 0) = false := by simp [h0]
      clear h0
      go_upto_region 14 with fail
      have R12 := Aside0.mk (blk_alloc (blk_new wa (.cells #[.int .u32 (n1 : Int), .int .i64 (1), .int .i64 f3] 35)) Z33)
      have Z12 := Aside0.mk (two_new wa (.cells #[.int .u32 (n1 : Int), .int .i64 (1), .int .i64 f3] 35) Z33)
      have B12 := Aside0.mk (Below.alloc (Ba.out.alloc Ba.out.size (.cells #[.int .u32 (n1 : Int), .int .i64 (1), .int .i64 f3] 35)) (by rw [World.size_alloc]; have := Ba.out.size; omega) Z33)
      have X12 := Aside0.mk (blk_alloc (blk_alloc Xa.out (.cells #[.int .u32 (n1 : Int), .int .i64 (1), .int .i64 f3] 35)) Z33)
      have XA12 := Aside0.mk (blk_alloc (blk_alloc XAa.out (.cells #[.int .u32 (n1 : Int), .int .i64 (1), .int .i64 f3] 35)) Z33)
      have YA12 := Aside0.mk (blk_alloc (blk_alloc YAa.out (.cells #[.int .u32 (n1 : Int), .int .i64 (1), .int .i64 f3] 35)) Z33)
      have RR12 := Aside0.mk (blk_alloc (blk_alloc Ra.out (.cells #[.int .u32 (n1 : Int), .int .i64 (1), .int .i64 f3] 35)) Z33)
      have L12 := Aside0.mk (show wA.heap.size < wa.heap.size ∧ wA.heap.size + 1 < wa.heap.size ∧ w.heap.size + 1 < wa.heap.size from ⟨blk_lt Ra.out, blk_lt Xa.out, blk_lt YAa.out⟩)
      unfold Z33 at R12 Z12 B12 X12 XA12 YA12 RR12
      go_upto_region 15 with (refine wp_fill rfl 33 (.tmp 12) (.tmp 79) rfl (wa.heap.size + 1) _ 33 (lF (some ⟨wa.heap.size, 0, none⟩) 1 1) Z12.out rfl rfl rfl info33 (one_lF _ _ _) ?_; intro wc hxc hfc; have Yc := Aside0.mk hxc; have HFc := Aside0.mk hfc; clear hxc hfc)
      have Rc := Aside0.mk (HFc.out.blk R12.out (fun he => by omega))
      have RRc := Aside0.mk (HFc.out.blk RR12.out (fun he => by have := L12.out; omega))
      have Xc := Aside0.mk (HFc.out.blk X12.out (fun he => by have := L12.out; omega))
      have YAc := Aside0.mk (HFc.out.blk YA12.out (fun he => by have := L12.out; omega))
      have Bc := Aside0.mk (below_fr B12.out B12.out.size HFc.out (fun k hk => by rw [hk]; have := Ba.out.size; omega))
      clear a0 a1 a2 e0 e1 g0 g1
      have e0 : wc.cell? ⟨w.heap.size + 1, 0, none⟩ = some (.int .u32 (na : Int)) := blk_cell YAc.out 0
      have e1 : wc.cell? ⟨w.heap.size + 1, 1, none⟩ = some (.int .i64 fp) := blk_cell YAc.out 1
      go_wp2_with (refine wpList_load_mid rfl 33 (.tmp 12) rfl (wa.heap.size + 1) 0 rfl (lF (some ⟨wa.heap.size, 0, none⟩) 1 1) _ (range_blk Yc.out) Try.underlying33 rfl info33 ?_)
      refine (Lets_calls _ (lF (some ⟨wa.heap.size, 0, none⟩) 1 1).toArray _ 1 [((n1 : Int), 1, f3)] rfl (one_F _ _ _ _ _ _ Rc.out) (by simp) na fp).mono ?_
      rintro e wd ⟨rfl, hbd⟩
      have Bd := Aside0.mk (below_step Bc.out hbd)
      have Xd := Aside0.mk (blk_below Xc.out hbd)
      have Rd := Aside0.mk (blk_below RRc.out hbd)
      clear e0 e1
      have e0 : wd.cell? ⟨w.heap.size + 1, 0, none⟩ = some (.int .u32 (na : Int)) := blk_cell (blk_below YAc.out hbd) 0
      have e1 : wd.cell? ⟨w.heap.size + 1, 1, none⟩ = some (.int .i64 fp) := blk_cell (blk_below YAc.out hbd) 1
      clear hbd
      by_cases hL : letsF [((n1 : Int), 1, f3)] na fp = true
      · have HLM := Aside0.mk (lets_more n1 na N1.out NA.out (0 : Int) f3 fp (by rw [hclamp.out]; exact hL))
        rw [hL]
        clear hL
        go_wp2_with (refine gate_guard (by rfl) ?_; refine wpList_load_mid rfl 33 (.tmp 7) rfl (wA.heap.size + 1) 0 rfl (lF (some ⟨wA.heap.size, 0, none⟩) 1 1) _ (range_blk Xd.out) Try.underlying33 rfl info33 ?_)
        refine (Lets_calls _ (lF (some ⟨wA.heap.size, 0, none⟩) 1 1).toArray _ 1 [((n1 : Int), (0 : Int), f3)] rfl (one_F _ _ _ _ _ _ Rd.out) (by simp) na fp).mono ?_
        rintro e we ⟨rfl, hbe⟩
        rw [HLM.out]
        have Be := Aside0.mk (below_step Bd.out hbe)
        clear hbe e0 e1
        go_wp2_with fail
        go_ret
        exact ⟨rfl, Be.out⟩
      · have hL' : letsF [((n1 : Int), 1, f3)] na fp = false := by simpa using hL
        rw [hL']
        clear hL hL'
        go_wp2_with fail
        go_ret
        exact ⟨rfl, Bd.out⟩
    have h0b : (f3 != 0) = true := by simp [h0]
    by_cases h2 : fp = f3
    · have h2b : (fp != f3) = false := by simp [h2]
      clear h0 h2
      go_upto_region 14 with fail
      have R12 := Aside0.mk (blk_alloc (blk_new wa (.cells #[.int .u32 (n1 : Int), .int .i64 (1), .int .i64 f3] 35)) Z33)
      have Z12 := Aside0.mk (two_new wa (.cells #[.int .u32 (n1 : Int), .int .i64 (1), .int .i64 f3] 35) Z33)
      have B12 := Aside0.mk (Below.alloc (Ba.out.alloc Ba.out.size (.cells #[.int .u32 (n1 : Int), .int .i64 (1), .int .i64 f3] 35)) (by rw [World.size_alloc]; have := Ba.out.size; omega) Z33)
      have X12 := Aside0.mk (blk_alloc (blk_alloc Xa.out (.cells #[.int .u32 (n1 : Int), .int .i64 (1), .int .i64 f3] 35)) Z33)
      have XA12 := Aside0.mk (blk_alloc (blk_alloc XAa.out (.cells #[.int .u32 (n1 : Int), .int .i64 (1), .int .i64 f3] 35)) Z33)
      have YA12 := Aside0.mk (blk_alloc (blk_alloc YAa.out (.cells #[.int .u32 (n1 : Int), .int .i64 (1), .int .i64 f3] 35)) Z33)
      have RR12 := Aside0.mk (blk_alloc (blk_alloc Ra.out (.cells #[.int .u32 (n1 : Int), .int .i64 (1), .int .i64 f3] 35)) Z33)
      have L12 := Aside0.mk (show wA.heap.size < wa.heap.size ∧ wA.heap.size + 1 < wa.heap.size ∧ w.heap.size + 1 < wa.heap.size from ⟨blk_lt Ra.out, blk_lt Xa.out, blk_lt YAa.out⟩)
      unfold Z33 at R12 Z12 B12 X12 XA12 YA12 RR12
      go_upto_region 15 with (refine wp_fill rfl 33 (.tmp 12) (.tmp 79) rfl (wa.heap.size + 1) _ 33 (lF (some ⟨wa.heap.size, 0, none⟩) 1 1) Z12.out rfl rfl rfl info33 (one_lF _ _ _) ?_; intro wc hxc hfc; have Yc := Aside0.mk hxc; have HFc := Aside0.mk hfc; clear hxc hfc)
      have Rc := Aside0.mk (HFc.out.blk R12.out (fun he => by omega))
      have RRc := Aside0.mk (HFc.out.blk RR12.out (fun he => by have := L12.out; omega))
      have Xc := Aside0.mk (HFc.out.blk X12.out (fun he => by have := L12.out; omega))
      have YAc := Aside0.mk (HFc.out.blk YA12.out (fun he => by have := L12.out; omega))
      have Bc := Aside0.mk (below_fr B12.out B12.out.size HFc.out (fun k hk => by rw [hk]; have := Ba.out.size; omega))
      clear a0 a1 a2 e0 e1 g0 g1
      have e0 : wc.cell? ⟨w.heap.size + 1, 0, none⟩ = some (.int .u32 (na : Int)) := blk_cell YAc.out 0
      have e1 : wc.cell? ⟨w.heap.size + 1, 1, none⟩ = some (.int .i64 fp) := blk_cell YAc.out 1
      go_wp2_with (refine wpList_load_mid rfl 33 (.tmp 12) rfl (wa.heap.size + 1) 0 rfl (lF (some ⟨wa.heap.size, 0, none⟩) 1 1) _ (range_blk Yc.out) Try.underlying33 rfl info33 ?_)
      refine (Lets_calls _ (lF (some ⟨wa.heap.size, 0, none⟩) 1 1).toArray _ 1 [((n1 : Int), 1, f3)] rfl (one_F _ _ _ _ _ _ Rc.out) (by simp) na fp).mono ?_
      rintro e wd ⟨rfl, hbd⟩
      have Bd := Aside0.mk (below_step Bc.out hbd)
      have Xd := Aside0.mk (blk_below Xc.out hbd)
      have Rd := Aside0.mk (blk_below RRc.out hbd)
      clear e0 e1
      have e0 : wd.cell? ⟨w.heap.size + 1, 0, none⟩ = some (.int .u32 (na : Int)) := blk_cell (blk_below YAc.out hbd) 0
      have e1 : wd.cell? ⟨w.heap.size + 1, 1, none⟩ = some (.int .i64 fp) := blk_cell (blk_below YAc.out hbd) 1
      clear hbd
      by_cases hL : letsF [((n1 : Int), 1, f3)] na fp = true
      · have HLM := Aside0.mk (lets_more n1 na N1.out NA.out (0 : Int) f3 fp (by rw [hclamp.out]; exact hL))
        rw [hL]
        clear hL
        go_wp2_with (refine gate_guard (by rfl) ?_; refine wpList_load_mid rfl 33 (.tmp 7) rfl (wA.heap.size + 1) 0 rfl (lF (some ⟨wA.heap.size, 0, none⟩) 1 1) _ (range_blk Xd.out) Try.underlying33 rfl info33 ?_)
        refine (Lets_calls _ (lF (some ⟨wA.heap.size, 0, none⟩) 1 1).toArray _ 1 [((n1 : Int), (0 : Int), f3)] rfl (one_F _ _ _ _ _ _ Rd.out) (by simp) na fp).mono ?_
        rintro e we ⟨rfl, hbe⟩
        rw [HLM.out]
        have Be := Aside0.mk (below_step Bd.out hbe)
        clear hbe e0 e1
        go_wp2_with fail
        go_ret
        exact ⟨rfl, Be.out⟩
      · have hL' : letsF [((n1 : Int), 1, f3)] na fp = false := by simpa using hL
        rw [hL']
        clear hL hL'
        go_wp2_with fail
        go_ret
        exact ⟨rfl, Bd.out⟩
    have h2b : (fp != f3) = true := by simp [h2]
    have HPT := Aside0.mk (lets_port n1 (0 : Int) f3 na fp h0 h2)
    clear h0 h2
    go_wp2_with (refine gate_guard (by rfl) ?_; refine wpList_load_mid rfl 33 (.tmp 7) rfl (wA.heap.size + 1) 0 rfl (lF (some ⟨wA.heap.size, 0, none⟩) 1 1) _ (range_blk Xa.out) Try.underlying33 rfl info33 ?_)
    refine (Lets_calls _ (lF (some ⟨wA.heap.size, 0, none⟩) 1 1).toArray _ 1 [((n1 : Int), (0 : Int), f3)] rfl (one_F _ _ _ _ _ _ Ra.out) (by simp) na fp).mono ?_
    rintro e wb ⟨rfl, hbb⟩
    rw [HPT.out]
    clear a0 a1 a2 e0 e1 g0 g1
    have Xb := Aside0.mk (blk_below Xa.out hbb)
    have Rb := Aside0.mk (blk_below Ra.out hbb)
    have XAb := Aside0.mk (blk_below XAa.out hbb)
    have YAb := Aside0.mk (blk_below YAa.out hbb)
    have Pb := Aside0.mk (blk_below Pa.out hbb)
    have Bb := Aside0.mk (below_step Ba.out hbb)
    have a0 : wb.cell? ⟨w.heap.size, 0, none⟩ = some (.int .u32 (n1 : Int)) := blk_cell XAb.out 0
    have a1 : wb.cell? ⟨w.heap.size, 1, none⟩ = some (.int .i64 (0 : Int)) := blk_cell XAb.out 1
    have a2 : wb.cell? ⟨w.heap.size, 2, none⟩ = some (.int .i64 f3) := blk_cell XAb.out 2
    have e0 : wb.cell? ⟨w.heap.size + 1, 0, none⟩ = some (.int .u32 (na : Int)) := blk_cell YAb.out 0
    have e1 : wb.cell? ⟨w.heap.size + 1, 1, none⟩ = some (.int .i64 fp) := blk_cell YAb.out 1
    have g0 : wb.cell? ⟨w5.heap.size, 0, none⟩ = some (.int .u32 (n1 : Int)) := blk_cell Pb.out 0
    have g1 : wb.cell? ⟨w5.heap.size, 1, none⟩ = some (.int .i64 f3) := blk_cell Pb.out 1
    clear hbb
    go_upto_region 14 with fail
    have R12 := Aside0.mk (blk_alloc (blk_new wb (.cells #[.int .u32 (n1 : Int), .int .i64 (1), .int .i64 f3] 35)) Z33)
    have Z12 := Aside0.mk (two_new wb (.cells #[.int .u32 (n1 : Int), .int .i64 (1), .int .i64 f3] 35) Z33)
    have B12 := Aside0.mk (Below.alloc (Bb.out.alloc Bb.out.size (.cells #[.int .u32 (n1 : Int), .int .i64 (1), .int .i64 f3] 35)) (by rw [World.size_alloc]; have := Bb.out.size; omega) Z33)
    have X12 := Aside0.mk (blk_alloc (blk_alloc Xb.out (.cells #[.int .u32 (n1 : Int), .int .i64 (1), .int .i64 f3] 35)) Z33)
    have XA12 := Aside0.mk (blk_alloc (blk_alloc XAb.out (.cells #[.int .u32 (n1 : Int), .int .i64 (1), .int .i64 f3] 35)) Z33)
    have YA12 := Aside0.mk (blk_alloc (blk_alloc YAb.out (.cells #[.int .u32 (n1 : Int), .int .i64 (1), .int .i64 f3] 35)) Z33)
    have RR12 := Aside0.mk (blk_alloc (blk_alloc Rb.out (.cells #[.int .u32 (n1 : Int), .int .i64 (1), .int .i64 f3] 35)) Z33)
    have L12 := Aside0.mk (show wA.heap.size < wb.heap.size ∧ wA.heap.size + 1 < wb.heap.size ∧ w.heap.size + 1 < wb.heap.size from ⟨blk_lt Rb.out, blk_lt Xb.out, blk_lt YAb.out⟩)
    unfold Z33 at R12 Z12 B12 X12 XA12 YA12 RR12
    go_upto_region 15 with (refine wp_fill rfl 33 (.tmp 12) (.tmp 79) rfl (wb.heap.size + 1) _ 33 (lF (some ⟨wb.heap.size, 0, none⟩) 1 1) Z12.out rfl rfl rfl info33 (one_lF _ _ _) ?_; intro wc hxc hfc; have Yc := Aside0.mk hxc; have HFc := Aside0.mk hfc; clear hxc hfc)
    have Rc := Aside0.mk (HFc.out.blk R12.out (fun he => by omega))
    have RRc := Aside0.mk (HFc.out.blk RR12.out (fun he => by have := L12.out; omega))
    have Xc := Aside0.mk (HFc.out.blk X12.out (fun he => by have := L12.out; omega))
    have YAc := Aside0.mk (HFc.out.blk YA12.out (fun he => by have := L12.out; omega))
    have Bc := Aside0.mk (below_fr B12.out B12.out.size HFc.out (fun k hk => by rw [hk]; have := Bb.out.size; omega))
    clear a0 a1 a2 e0 e1 g0 g1
    have e0 : wc.cell? ⟨w.heap.size + 1, 0, none⟩ = some (.int .u32 (na : Int)) := blk_cell YAc.out 0
    have e1 : wc.cell? ⟨w.heap.size + 1, 1, none⟩ = some (.int .i64 fp) := blk_cell YAc.out 1
    go_wp2_with (refine wpList_load_mid rfl 33 (.tmp 12) rfl (wb.heap.size + 1) 0 rfl (lF (some ⟨wb.heap.size, 0, none⟩) 1 1) _ (range_blk Yc.out) Try.underlying33 rfl info33 ?_)
    refine (Lets_calls _ (lF (some ⟨wb.heap.size, 0, none⟩) 1 1).toArray _ 1 [((n1 : Int), 1, f3)] rfl (one_F _ _ _ _ _ _ Rc.out) (by simp) na fp).mono ?_
    rintro e wd ⟨rfl, hbd⟩
    have Bd := Aside0.mk (below_step Bc.out hbd)
    have Xd := Aside0.mk (blk_below Xc.out hbd)
    have Rd := Aside0.mk (blk_below RRc.out hbd)
    clear e0 e1
    have e0 : wd.cell? ⟨w.heap.size + 1, 0, none⟩ = some (.int .u32 (na : Int)) := blk_cell (blk_below YAc.out hbd) 0
    have e1 : wd.cell? ⟨w.heap.size + 1, 1, none⟩ = some (.int .i64 fp) := blk_cell (blk_below YAc.out hbd) 1
    clear hbd
    by_cases hL : letsF [((n1 : Int), 1, f3)] na fp = true
    · have HLM := Aside0.mk (lets_more n1 na N1.out NA.out (0 : Int) f3 fp (by rw [hclamp.out]; exact hL))
      rw [hL]
      clear hL
      go_wp2_with (refine gate_guard (by rfl) ?_; refine wpList_load_mid rfl 33 (.tmp 7) rfl (wA.heap.size + 1) 0 rfl (lF (some ⟨wA.heap.size, 0, none⟩) 1 1) _ (range_blk Xd.out) Try.underlying33 rfl info33 ?_)
      refine (Lets_calls _ (lF (some ⟨wA.heap.size, 0, none⟩) 1 1).toArray _ 1 [((n1 : Int), (0 : Int), f3)] rfl (one_F _ _ _ _ _ _ Rd.out) (by simp) na fp).mono ?_
      rintro e we ⟨rfl, hbe⟩
      rw [HLM.out]
      have Be := Aside0.mk (below_step Bd.out hbe)
      clear hbe e0 e1
      go_wp2_with fail
      go_ret
      exact ⟨rfl, Be.out⟩
    · have hL' : letsF [((n1 : Int), 1, f3)] na fp = false := by simpa using hL
      rw [hL']
      clear hL hL'
      go_wp2_with fail
      go_ret
      exact ⟨rfl, Bd.out⟩
  · have hb4 : f2 < 0 := by omega
    have hclamp : Aside0 (clampF f2 = 0) := ⟨by unfold clampF; first | (rw [if_pos hb1]; done) | (rw [if_neg hb1, if_pos hb2]; done) | (rw [if_neg hb1, if_neg hb2]; done)⟩
    go_upto_region 6 with fail
    have P6 := Aside0.mk (blk_new w5 (.cells #[.int .u32 (n1 : Int), .int .i64 f3] 29))
    have X6 := Aside0.mk (blk_alloc X5.out (.cells #[.int .u32 (n1 : Int), .int .i64 f3] 29))
    have R6 := Aside0.mk (blk_alloc R5.out (.cells #[.int .u32 (n1 : Int), .int .i64 f3] 29))
    have XA6 := Aside0.mk (blk_alloc XA5.out (.cells #[.int .u32 (n1 : Int), .int .i64 f3] 29))
    have YA6 := Aside0.mk (blk_alloc YA5.out (.cells #[.int .u32 (n1 : Int), .int .i64 f3] 29))
    have B6 := Aside0.mk (B5.out.alloc B5.out.size (.cells #[.int .u32 (n1 : Int), .int .i64 f3] 29))
    generalize w5.alloc (.cells #[.int .u32 (n1 : Int), .int .i64 f3] 29) = w6 at *
    clear a0 a1 a2 X5 R5 XA5 YA5 B5
    have a0 : w6.cell? ⟨w.heap.size, 0, none⟩ = some (.int .u32 (n1 : Int)) := blk_cell XA6.out 0
    have a1 : w6.cell? ⟨w.heap.size, 1, none⟩ = some (.int .i64 f2) := blk_cell XA6.out 1
    have a2 : w6.cell? ⟨w.heap.size, 2, none⟩ = some (.int .i64 f3) := blk_cell XA6.out 2
    have e0 : w6.cell? ⟨w.heap.size + 1, 0, none⟩ = some (.int .u32 (na : Int)) := blk_cell YA6.out 0
    have e1 : w6.cell? ⟨w.heap.size + 1, 1, none⟩ = some (.int .i64 fp) := blk_cell YA6.out 1
    have g0 : w6.cell? ⟨w5.heap.size, 0, none⟩ = some (.int .u32 (n1 : Int)) := blk_cell P6.out 0
    have g1 : w6.cell? ⟨w5.heap.size, 1, none⟩ = some (.int .i64 f3) := blk_cell P6.out 1
    go_wp2_with (refine wpList_load_mid rfl 33 (.tmp 7) rfl (wA.heap.size + 1) 0 rfl (lF (some ⟨wA.heap.size, 0, none⟩) 1 1) _ (range_blk X6.out) Try.underlying33 rfl info33 ?_)
    refine (Lets_calls _ (lF (some ⟨wA.heap.size, 0, none⟩) 1 1).toArray _ 1 [((n1 : Int), f2, f3)] rfl (one_F _ _ _ _ _ _ R6.out) (by simp) n1 f3).mono ?_
    rintro e w7 ⟨rfl, hb7⟩
    rw [lets_self n1 N1.out]
    clear a0 a1 a2 e0 e1 g0 g1
    have X7 := Aside0.mk (blk_below X6.out hb7)
    have R7 := Aside0.mk (blk_below R6.out hb7)
    have XA7 := Aside0.mk (blk_below XA6.out hb7)
    have YA7 := Aside0.mk (blk_below YA6.out hb7)
    have P7 := Aside0.mk (blk_below P6.out hb7)
    have B7 := Aside0.mk (below_step B6.out hb7)
    have a0 : w7.cell? ⟨w.heap.size, 0, none⟩ = some (.int .u32 (n1 : Int)) := blk_cell XA7.out 0
    have a1 : w7.cell? ⟨w.heap.size, 1, none⟩ = some (.int .i64 f2) := blk_cell XA7.out 1
    have a2 : w7.cell? ⟨w.heap.size, 2, none⟩ = some (.int .i64 f3) := blk_cell XA7.out 2
    have e0 : w7.cell? ⟨w.heap.size + 1, 0, none⟩ = some (.int .u32 (na : Int)) := blk_cell YA7.out 0
    have e1 : w7.cell? ⟨w.heap.size + 1, 1, none⟩ = some (.int .i64 fp) := blk_cell YA7.out 1
    have g0 : w7.cell? ⟨w5.heap.size, 0, none⟩ = some (.int .u32 (n1 : Int)) := blk_cell P7.out 0
    have g1 : w7.cell? ⟨w5.heap.size, 1, none⟩ = some (.int .i64 f3) := blk_cell P7.out 1
    clear hb7
    go_wp2_with fail
    refine (Lets_calls _ _ none 0 [] rfl (Kd.C_nil _ _) (by simp) na fp).mono ?_
    rintro e w8 ⟨rfl, hb8⟩
    rw [lets_nil]
    clear a0 a1 a2 e0 e1 g0 g1
    have X8 := Aside0.mk (blk_below X7.out hb8)
    have R8 := Aside0.mk (blk_below R7.out hb8)
    have XA8 := Aside0.mk (blk_below XA7.out hb8)
    have YA8 := Aside0.mk (blk_below YA7.out hb8)
    have P8 := Aside0.mk (blk_below P7.out hb8)
    have B8 := Aside0.mk (below_step B7.out hb8)
    have a0 : w8.cell? ⟨w.heap.size, 0, none⟩ = some (.int .u32 (n1 : Int)) := blk_cell XA8.out 0
    have a1 : w8.cell? ⟨w.heap.size, 1, none⟩ = some (.int .i64 f2) := blk_cell XA8.out 1
    have a2 : w8.cell? ⟨w.heap.size, 2, none⟩ = some (.int .i64 f3) := blk_cell XA8.out 2
    have e0 : w8.cell? ⟨w.heap.size + 1, 0, none⟩ = some (.int .u32 (na : Int)) := blk_cell YA8.out 0
    have e1 : w8.cell? ⟨w.heap.size + 1, 1, none⟩ = some (.int .i64 fp) := blk_cell YA8.out 1
    have g0 : w8.cell? ⟨w5.heap.size, 0, none⟩ = some (.int .u32 (n1 : Int)) := blk_cell P8.out 0
    have g1 : w8.cell? ⟨w5.heap.size, 1, none⟩ = some (.int .i64 f3) := blk_cell P8.out 1
    clear hb8
    go_upto_region 10 with fail
    rw [HK.out, HXK.out]
    have Q9 := Aside0.mk (blk_new w8 (.cells #[.int .u32 (yy : Int), .int .i64 f3] 29))
    have X9 := Aside0.mk (blk_alloc X8.out (.cells #[.int .u32 (yy : Int), .int .i64 f3] 29))
    have R9 := Aside0.mk (blk_alloc R8.out (.cells #[.int .u32 (yy : Int), .int .i64 f3] 29))
    have XA9 := Aside0.mk (blk_alloc XA8.out (.cells #[.int .u32 (yy : Int), .int .i64 f3] 29))
    have YA9 := Aside0.mk (blk_alloc YA8.out (.cells #[.int .u32 (yy : Int), .int .i64 f3] 29))
    have P9 := Aside0.mk (blk_alloc P8.out (.cells #[.int .u32 (yy : Int), .int .i64 f3] 29))
    have B9 := Aside0.mk (B8.out.alloc B8.out.size (.cells #[.int .u32 (yy : Int), .int .i64 f3] 29))
    generalize w8.alloc (.cells #[.int .u32 (yy : Int), .int .i64 f3] 29) = w9 at *
    clear a0 a1 a2 e0 e1 g0 g1
    have a0 : w9.cell? ⟨w.heap.size, 0, none⟩ = some (.int .u32 (n1 : Int)) := blk_cell XA9.out 0
    have a1 : w9.cell? ⟨w.heap.size, 1, none⟩ = some (.int .i64 f2) := blk_cell XA9.out 1
    have a2 : w9.cell? ⟨w.heap.size, 2, none⟩ = some (.int .i64 f3) := blk_cell XA9.out 2
    have e0 : w9.cell? ⟨w.heap.size + 1, 0, none⟩ = some (.int .u32 (na : Int)) := blk_cell YA9.out 0
    have e1 : w9.cell? ⟨w.heap.size + 1, 1, none⟩ = some (.int .i64 fp) := blk_cell YA9.out 1
    have g0 : w9.cell? ⟨w5.heap.size, 0, none⟩ = some (.int .u32 (n1 : Int)) := blk_cell P9.out 0
    have g1 : w9.cell? ⟨w5.heap.size, 1, none⟩ = some (.int .i64 f3) := blk_cell P9.out 1
    have q0 : w9.cell? ⟨w8.heap.size, 0, none⟩ = some (.int .u32 (yy : Int)) := blk_cell Q9.out 0
    have q1 : w9.cell? ⟨w8.heap.size, 1, none⟩ = some (.int .i64 f3) := blk_cell Q9.out 1
    go_wp2_with (refine wpList_load_mid rfl 33 (.tmp 7) rfl (wA.heap.size + 1) 0 rfl (lF (some ⟨wA.heap.size, 0, none⟩) 1 1) _ (range_blk X9.out) Try.underlying33 rfl info33 ?_)
    refine (Lets_calls _ (lF (some ⟨wA.heap.size, 0, none⟩) 1 1).toArray _ 1 [((n1 : Int), f2, f3)] rfl (one_F _ _ _ _ _ _ R9.out) (by simp) yy f3).mono ?_
    rintro e wa ⟨rfl, hba⟩
    rw [HFL.out, hclamp.out]
    clear q0 q1
    clear a0 a1 a2 e0 e1 g0 g1
    have Xa := Aside0.mk (blk_below X9.out hba)
    have Ra := Aside0.mk (blk_below R9.out hba)
    have XAa := Aside0.mk (blk_below XA9.out hba)
    have YAa := Aside0.mk (blk_below YA9.out hba)
    have Pa := Aside0.mk (blk_below P9.out hba)
    have Ba := Aside0.mk (below_step B9.out hba)
    have a0 : wa.cell? ⟨w.heap.size, 0, none⟩ = some (.int .u32 (n1 : Int)) := blk_cell XAa.out 0
    have a1 : wa.cell? ⟨w.heap.size, 1, none⟩ = some (.int .i64 f2) := blk_cell XAa.out 1
    have a2 : wa.cell? ⟨w.heap.size, 2, none⟩ = some (.int .i64 f3) := blk_cell XAa.out 2
    have e0 : wa.cell? ⟨w.heap.size + 1, 0, none⟩ = some (.int .u32 (na : Int)) := blk_cell YAa.out 0
    have e1 : wa.cell? ⟨w.heap.size + 1, 1, none⟩ = some (.int .i64 fp) := blk_cell YAa.out 1
    have g0 : wa.cell? ⟨w5.heap.size, 0, none⟩ = some (.int .u32 (n1 : Int)) := blk_cell Pa.out 0
    have g1 : wa.cell? ⟨w5.heap.size, 1, none⟩ = some (.int .i64 f3) := blk_cell Pa.out 1
    clear hba
    go_upto_region 12 with fail
    by_cases h0 : f3 = 0
    · have h0b : (f3 != 0) = false := by simp [h0]
      clear h0
      go_upto_region 14 with fail
      have R12 := Aside0.mk (blk_alloc (blk_new wa (.cells #[.int .u32 (n1 : Int), .int .i64 (1), .int .i64 f3] 35)) Z33)
      have Z12 := Aside0.mk (two_new wa (.cells #[.int .u32 (n1 : Int), .int .i64 (1), .int .i64 f3] 35) Z33)
      have B12 := Aside0.mk (Below.alloc (Ba.out.alloc Ba.out.size (.cells #[.int .u32 (n1 : Int), .int .i64 (1), .int .i64 f3] 35)) (by rw [World.size_alloc]; have := Ba.out.size; omega) Z33)
      have X12 := Aside0.mk (blk_alloc (blk_alloc Xa.out (.cells #[.int .u32 (n1 : Int), .int .i64 (1), .int .i64 f3] 35)) Z33)
      have XA12 := Aside0.mk (blk_alloc (blk_alloc XAa.out (.cells #[.int .u32 (n1 : Int), .int .i64 (1), .int .i64 f3] 35)) Z33)
      have YA12 := Aside0.mk (blk_alloc (blk_alloc YAa.out (.cells #[.int .u32 (n1 : Int), .int .i64 (1), .int .i64 f3] 35)) Z33)
      have RR12 := Aside0.mk (blk_alloc (blk_alloc Ra.out (.cells #[.int .u32 (n1 : Int), .int .i64 (1), .int .i64 f3] 35)) Z33)
      have L12 := Aside0.mk (show wA.heap.size < wa.heap.size ∧ wA.heap.size + 1 < wa.heap.size ∧ w.heap.size + 1 < wa.heap.size from ⟨blk_lt Ra.out, blk_lt Xa.out, blk_lt YAa.out⟩)
      unfold Z33 at R12 Z12 B12 X12 XA12 YA12 RR12
      go_upto_region 15 with (refine wp_fill rfl 33 (.tmp 12) (.tmp 79) rfl (wa.heap.size + 1) _ 33 (lF (some ⟨wa.heap.size, 0, none⟩) 1 1) Z12.out rfl rfl rfl info33 (one_lF _ _ _) ?_; intro wc hxc hfc; have Yc := Aside0.mk hxc; have HFc := Aside0.mk hfc; clear hxc hfc)
      have Rc := Aside0.mk (HFc.out.blk R12.out (fun he => by omega))
      have RRc := Aside0.mk (HFc.out.blk RR12.out (fun he => by have := L12.out; omega))
      have Xc := Aside0.mk (HFc.out.blk X12.out (fun he => by have := L12.out; omega))
      have YAc := Aside0.mk (HFc.out.blk YA12.out (fun he => by have := L12.out; omega))
      have Bc := Aside0.mk (below_fr B12.out B12.out.size HFc.out (fun k hk => by rw [hk]; have := Ba.out.size; omega))
      clear a0 a1 a2 e0 e1 g0 g1
      have e0 : wc.cell? ⟨w.heap.size + 1, 0, none⟩ = some (.int .u32 (na : Int)) := blk_cell YAc.out 0
      have e1 : wc.cell? ⟨w.heap.size + 1, 1, none⟩ = some (.int .i64 fp) := blk_cell YAc.out 1
      go_wp2_with (refine wpList_load_mid rfl 33 (.tmp 12) rfl (wa.heap.size + 1) 0 rfl (lF (some ⟨wa.heap.size, 0, none⟩) 1 1) _ (range_blk Yc.out) Try.underlying33 rfl info33 ?_)
      refine (Lets_calls _ (lF (some ⟨wa.heap.size, 0, none⟩) 1 1).toArray _ 1 [((n1 : Int), 1, f3)] rfl (one_F _ _ _ _ _ _ Rc.out) (by simp) na fp).mono ?_
      rintro e wd ⟨rfl, hbd⟩
      have Bd := Aside0.mk (below_step Bc.out hbd)
      have Xd := Aside0.mk (blk_below Xc.out hbd)
      have Rd := Aside0.mk (blk_below RRc.out hbd)
      clear e0 e1
      have e0 : wd.cell? ⟨w.heap.size + 1, 0, none⟩ = some (.int .u32 (na : Int)) := blk_cell (blk_below YAc.out hbd) 0
      have e1 : wd.cell? ⟨w.heap.size + 1, 1, none⟩ = some (.int .i64 fp) := blk_cell (blk_below YAc.out hbd) 1
      clear hbd
      by_cases hL : letsF [((n1 : Int), 1, f3)] na fp = true
      · have HLM := Aside0.mk (lets_more n1 na N1.out NA.out f2 f3 fp (by rw [hclamp.out]; exact hL))
        rw [hL]
        clear hL
        go_wp2_with (refine gate_guard (by rfl) ?_; refine wpList_load_mid rfl 33 (.tmp 7) rfl (wA.heap.size + 1) 0 rfl (lF (some ⟨wA.heap.size, 0, none⟩) 1 1) _ (range_blk Xd.out) Try.underlying33 rfl info33 ?_)
        refine (Lets_calls _ (lF (some ⟨wA.heap.size, 0, none⟩) 1 1).toArray _ 1 [((n1 : Int), f2, f3)] rfl (one_F _ _ _ _ _ _ Rd.out) (by simp) na fp).mono ?_
        rintro e we ⟨rfl, hbe⟩
        rw [HLM.out]
        have Be := Aside0.mk (below_step Bd.out hbe)
        clear hbe e0 e1
        go_wp2_with fail
        go_ret
        exact ⟨rfl, Be.out⟩
      · have hL' : letsF [((n1 : Int), 1, f3)] na fp = false := by simpa using hL
        rw [hL']
        clear hL hL'
        go_wp2_with fail
        go_ret
        exact ⟨rfl, Bd.out⟩
    have h0b : (f3 != 0) = true := by simp [h0]
    by_cases h2 : fp = f3
    · have h2b : (fp != f3) = false := by simp [h2]
      clear h0 h2
      go_upto_region 14 with fail
      have R12 := Aside0.mk (blk_alloc (blk_new wa (.cells #[.int .u32 (n1 : Int), .int .i64 (1), .int .i64 f3] 35)) Z33)
      have Z12 := Aside0.mk (two_new wa (.cells #[.int .u32 (n1 : Int), .int .i64 (1), .int .i64 f3] 35) Z33)
      have B12 := Aside0.mk (Below.alloc (Ba.out.alloc Ba.out.size (.cells #[.int .u32 (n1 : Int), .int .i64 (1), .int .i64 f3] 35)) (by rw [World.size_alloc]; have := Ba.out.size; omega) Z33)
      have X12 := Aside0.mk (blk_alloc (blk_alloc Xa.out (.cells #[.int .u32 (n1 : Int), .int .i64 (1), .int .i64 f3] 35)) Z33)
      have XA12 := Aside0.mk (blk_alloc (blk_alloc XAa.out (.cells #[.int .u32 (n1 : Int), .int .i64 (1), .int .i64 f3] 35)) Z33)
      have YA12 := Aside0.mk (blk_alloc (blk_alloc YAa.out (.cells #[.int .u32 (n1 : Int), .int .i64 (1), .int .i64 f3] 35)) Z33)
      have RR12 := Aside0.mk (blk_alloc (blk_alloc Ra.out (.cells #[.int .u32 (n1 : Int), .int .i64 (1), .int .i64 f3] 35)) Z33)
      have L12 := Aside0.mk (show wA.heap.size < wa.heap.size ∧ wA.heap.size + 1 < wa.heap.size ∧ w.heap.size + 1 < wa.heap.size from ⟨blk_lt Ra.out, blk_lt Xa.out, blk_lt YAa.out⟩)
      unfold Z33 at R12 Z12 B12 X12 XA12 YA12 RR12
      go_upto_region 15 with (refine wp_fill rfl 33 (.tmp 12) (.tmp 79) rfl (wa.heap.size + 1) _ 33 (lF (some ⟨wa.heap.size, 0, none⟩) 1 1) Z12.out rfl rfl rfl info33 (one_lF _ _ _) ?_; intro wc hxc hfc; have Yc := Aside0.mk hxc; have HFc := Aside0.mk hfc; clear hxc hfc)
      have Rc := Aside0.mk (HFc.out.blk R12.out (fun he => by omega))
      have RRc := Aside0.mk (HFc.out.blk RR12.out (fun he => by have := L12.out; omega))
      have Xc := Aside0.mk (HFc.out.blk X12.out (fun he => by have := L12.out; omega))
      have YAc := Aside0.mk (HFc.out.blk YA12.out (fun he => by have := L12.out; omega))
      have Bc := Aside0.mk (below_fr B12.out B12.out.size HFc.out (fun k hk => by rw [hk]; have := Ba.out.size; omega))
      clear a0 a1 a2 e0 e1 g0 g1
      have e0 : wc.cell? ⟨w.heap.size + 1, 0, none⟩ = some (.int .u32 (na : Int)) := blk_cell YAc.out 0
      have e1 : wc.cell? ⟨w.heap.size + 1, 1, none⟩ = some (.int .i64 fp) := blk_cell YAc.out 1
      go_wp2_with (refine wpList_load_mid rfl 33 (.tmp 12) rfl (wa.heap.size + 1) 0 rfl (lF (some ⟨wa.heap.size, 0, none⟩) 1 1) _ (range_blk Yc.out) Try.underlying33 rfl info33 ?_)
      refine (Lets_calls _ (lF (some ⟨wa.heap.size, 0, none⟩) 1 1).toArray _ 1 [((n1 : Int), 1, f3)] rfl (one_F _ _ _ _ _ _ Rc.out) (by simp) na fp).mono ?_
      rintro e wd ⟨rfl, hbd⟩
      have Bd := Aside0.mk (below_step Bc.out hbd)
      have Xd := Aside0.mk (blk_below Xc.out hbd)
      have Rd := Aside0.mk (blk_below RRc.out hbd)
      clear e0 e1
      have e0 : wd.cell? ⟨w.heap.size + 1, 0, none⟩ = some (.int .u32 (na : Int)) := blk_cell (blk_below YAc.out hbd) 0
      have e1 : wd.cell? ⟨w.heap.size + 1, 1, none⟩ = some (.int .i64 fp) := blk_cell (blk_below YAc.out hbd) 1
      clear hbd
      by_cases hL : letsF [((n1 : Int), 1, f3)] na fp = true
      · have HLM := Aside0.mk (lets_more n1 na N1.out NA.out f2 f3 fp (by rw [hclamp.out]; exact hL))
        rw [hL]
        clear hL
        go_wp2_with (refine gate_guard (by rfl) ?_; refine wpList_load_mid rfl 33 (.tmp 7) rfl (wA.heap.size + 1) 0 rfl (lF (some ⟨wA.heap.size, 0, none⟩) 1 1) _ (range_blk Xd.out) Try.underlying33 rfl info33 ?_)
        refine (Lets_calls _ (lF (some ⟨wA.heap.size, 0, none⟩) 1 1).toArray _ 1 [((n1 : Int), f2, f3)] rfl (one_F _ _ _ _ _ _ Rd.out) (by simp) na fp).mono ?_
        rintro e we ⟨rfl, hbe⟩
        rw [HLM.out]
        have Be := Aside0.mk (below_step Bd.out hbe)
        clear hbe e0 e1
        go_wp2_with fail
        go_ret
        exact ⟨rfl, Be.out⟩
      · have hL' : letsF [((n1 : Int), 1, f3)] na fp = false := by simpa using hL
        rw [hL']
        clear hL hL'
        go_wp2_with fail
        go_ret
        exact ⟨rfl, Bd.out⟩
    have h2b : (fp != f3) = true := by simp [h2]
    have HPT := Aside0.mk (lets_port n1 f2 f3 na fp h0 h2)
    clear h0 h2
    go_wp2_with (refine gate_guard (by rfl) ?_; refine wpList_load_mid rfl 33 (.tmp 7) rfl (wA.heap.size + 1) 0 rfl (lF (some ⟨wA.heap.size, 0, none⟩) 1 1) _ (range_blk Xa.out) Try.underlying33 rfl info33 ?_)
    refine (Lets_calls _ (lF (some ⟨wA.heap.size, 0, none⟩) 1 1).toArray _ 1 [((n1 : Int), f2, f3)] rfl (one_F _ _ _ _ _ _ Ra.out) (by simp) na fp).mono ?_
    rintro e wb ⟨rfl, hbb⟩
    rw [HPT.out]
    clear a0 a1 a2 e0 e1 g0 g1
    have Xb := Aside0.mk (blk_below Xa.out hbb)
    have Rb := Aside0.mk (blk_below Ra.out hbb)
    have XAb := Aside0.mk (blk_below XAa.out hbb)
    have YAb := Aside0.mk (blk_below YAa.out hbb)
    have Pb := Aside0.mk (blk_below Pa.out hbb)
    have Bb := Aside0.mk (below_step Ba.out hbb)
    have a0 : wb.cell? ⟨w.heap.size, 0, none⟩ = some (.int .u32 (n1 : Int)) := blk_cell XAb.out 0
    have a1 : wb.cell? ⟨w.heap.size, 1, none⟩ = some (.int .i64 f2) := blk_cell XAb.out 1
    have a2 : wb.cell? ⟨w.heap.size, 2, none⟩ = some (.int .i64 f3) := blk_cell XAb.out 2
    have e0 : wb.cell? ⟨w.heap.size + 1, 0, none⟩ = some (.int .u32 (na : Int)) := blk_cell YAb.out 0
    have e1 : wb.cell? ⟨w.heap.size + 1, 1, none⟩ = some (.int .i64 fp) := blk_cell YAb.out 1
    have g0 : wb.cell? ⟨w5.heap.size, 0, none⟩ = some (.int .u32 (n1 : Int)) := blk_cell Pb.out 0
    have g1 : wb.cell? ⟨w5.heap.size, 1, none⟩ = some (.int .i64 f3) := blk_cell Pb.out 1
    clear hbb
    go_upto_region 14 with fail
    have R12 := Aside0.mk (blk_alloc (blk_new wb (.cells #[.int .u32 (n1 : Int), .int .i64 (1), .int .i64 f3] 35)) Z33)
    have Z12 := Aside0.mk (two_new wb (.cells #[.int .u32 (n1 : Int), .int .i64 (1), .int .i64 f3] 35) Z33)
    have B12 := Aside0.mk (Below.alloc (Bb.out.alloc Bb.out.size (.cells #[.int .u32 (n1 : Int), .int .i64 (1), .int .i64 f3] 35)) (by rw [World.size_alloc]; have := Bb.out.size; omega) Z33)
    have X12 := Aside0.mk (blk_alloc (blk_alloc Xb.out (.cells #[.int .u32 (n1 : Int), .int .i64 (1), .int .i64 f3] 35)) Z33)
    have XA12 := Aside0.mk (blk_alloc (blk_alloc XAb.out (.cells #[.int .u32 (n1 : Int), .int .i64 (1), .int .i64 f3] 35)) Z33)
    have YA12 := Aside0.mk (blk_alloc (blk_alloc YAb.out (.cells #[.int .u32 (n1 : Int), .int .i64 (1), .int .i64 f3] 35)) Z33)
    have RR12 := Aside0.mk (blk_alloc (blk_alloc Rb.out (.cells #[.int .u32 (n1 : Int), .int .i64 (1), .int .i64 f3] 35)) Z33)
    have L12 := Aside0.mk (show wA.heap.size < wb.heap.size ∧ wA.heap.size + 1 < wb.heap.size ∧ w.heap.size + 1 < wb.heap.size from ⟨blk_lt Rb.out, blk_lt Xb.out, blk_lt YAb.out⟩)
    unfold Z33 at R12 Z12 B12 X12 XA12 YA12 RR12
    go_upto_region 15 with (refine wp_fill rfl 33 (.tmp 12) (.tmp 79) rfl (wb.heap.size + 1) _ 33 (lF (some ⟨wb.heap.size, 0, none⟩) 1 1) Z12.out rfl rfl rfl info33 (one_lF _ _ _) ?_; intro wc hxc hfc; have Yc := Aside0.mk hxc; have HFc := Aside0.mk hfc; clear hxc hfc)
    have Rc := Aside0.mk (HFc.out.blk R12.out (fun he => by omega))
    have RRc := Aside0.mk (HFc.out.blk RR12.out (fun he => by have := L12.out; omega))
    have Xc := Aside0.mk (HFc.out.blk X12.out (fun he => by have := L12.out; omega))
    have YAc := Aside0.mk (HFc.out.blk YA12.out (fun he => by have := L12.out; omega))
    have Bc := Aside0.mk (below_fr B12.out B12.out.size HFc.out (fun k hk => by rw [hk]; have := Bb.out.size; omega))
    clear a0 a1 a2 e0 e1 g0 g1
    have e0 : wc.cell? ⟨w.heap.size + 1, 0, none⟩ = some (.int .u32 (na : Int)) := blk_cell YAc.out 0
    have e1 : wc.cell? ⟨w.heap.size + 1, 1, none⟩ = some (.int .i64 fp) := blk_cell YAc.out 1
    go_wp2_with (refine wpList_load_mid rfl 33 (.tmp 12) rfl (wb.heap.size + 1) 0 rfl (lF (some ⟨wb.heap.size, 0, none⟩) 1 1) _ (range_blk Yc.out) Try.underlying33 rfl info33 ?_)
    refine (Lets_calls _ (lF (some ⟨wb.heap.size, 0, none⟩) 1 1).toArray _ 1 [((n1 : Int), 1, f3)] rfl (one_F _ _ _ _ _ _ Rc.out) (by simp) na fp).mono ?_
    rintro e wd ⟨rfl, hbd⟩
    have Bd := Aside0.mk (below_step Bc.out hbd)
    have Xd := Aside0.mk (blk_below Xc.out hbd)
    have Rd := Aside0.mk (blk_below RRc.out hbd)
    clear e0 e1
    have e0 : wd.cell? ⟨w.heap.size + 1, 0, none⟩ = some (.int .u32 (na : Int)) := blk_cell (blk_below YAc.out hbd) 0
    have e1 : wd.cell? ⟨w.heap.size + 1, 1, none⟩ = some (.int .i64 fp) := blk_cell (blk_below YAc.out hbd) 1
    clear hbd
    by_cases hL : letsF [((n1 : Int), 1, f3)] na fp = true
    · have HLM := Aside0.mk (lets_more n1 na N1.out NA.out f2 f3 fp (by rw [hclamp.out]; exact hL))
      rw [hL]
      clear hL
      go_wp2_with (refine gate_guard (by rfl) ?_; refine wpList_load_mid rfl 33 (.tmp 7) rfl (wA.heap.size + 1) 0 rfl (lF (some ⟨wA.heap.size, 0, none⟩) 1 1) _ (range_blk Xd.out) Try.underlying33 rfl info33 ?_)
      refine (Lets_calls _ (lF (some ⟨wA.heap.size, 0, none⟩) 1 1).toArray _ 1 [((n1 : Int), f2, f3)] rfl (one_F _ _ _ _ _ _ Rd.out) (by simp) na fp).mono ?_
      rintro e we ⟨rfl, hbe⟩
      rw [HLM.out]
      have Be := Aside0.mk (below_step Bd.out hbe)
      clear hbe e0 e1
      go_wp2_with fail
      go_ret
      exact ⟨rfl, Be.out⟩
    · have hL' : letsF [((n1 : Int), 1, f3)] na fp = false := by simpa using hL
      rw [hL']
      clear hL hL'
      go_wp2_with fail
      go_ret
      exact ⟨rfl, Bd.out⟩
end Go.Proofs.Ytkpaibkkigfahaa.Bd
