/- awake: a version is refused. -/
import Derived.Test.YtpjkbokojlpjoaaAsk2
namespace Go.Proofs.Ytpjkbokojlpjoaa.Ak
open Go.RowKit Go.Proofs.YtpjkbokojlpjoaaW.PrintWords Go.Proofs.YtpjkbokojlpjoaaW.PrintLast Go.Proofs.YtpjkbokojlpjoaaW.PrintMore Go.Proofs.Ytpjkbokojlpjoaa.Bs Go.Proofs.Ytpjkbokojlpjoaa.Fr Go.Proofs.Ytpjkbokojlpjoaa.Oct
set_option linter.unusedVariables false
set_option linter.unusedSimpArgs false
/-- A version that is not known. -/
theorem Read_version (A : Option Addr) (c : Nat) (b : List Int) (fm : Int) (w : World) (hC : Kd.C (Kd.int .u8) w A b.length b) (hl : 2 ≤ b.length) (h0 : 0 ≤ rd b 1) (hb : rd b 1 < 128) (hv : ¬ rd b (0 : Nat) = 2) :
    Calls Try.prog 9 #[.slice A b.length c, .int .u32 fm] w fun e w' => e = .returned (.tuple #[az.val, .int .i64 1, .bool true]) ∧ Below w.heap.size w w' :=
  Read_head A c b fm 1 w hC hl h0 hb (fun w1 g hr hc => head_version g A c az b w1 hr hc hl hv)
set_option maxHeartbeats 1000000 in
set_option maxRecDepth 100000 in
theorem awake_calls (w : World) : Calls Try.prog 8 #[] w fun e w' => e = .returned (.bool true) ∧ Below w.heap.size w w' := by
  have h29 := z29
  have hC := Aside0.mk (lit_C (enc := Value.int .u8) (h1 := fun _ => rfl) (e := 5) w [1, 1] (by decide))
  have hB := Aside0.mk (below_alloc (Below.refl w.heap.size w) (.cells (encs (Value.int .u8) [1, 1]).toArray 5))
  go_enter Try.func8, Try.ntmps8
  go_wp2_with fail
  refine (Read_version _ 2 [1, 1] 5 _ hC.out (by decide) (by decide) (by decide) (by decide)).mono ?_
  rintro e w1 ⟨rfl, hb1⟩
  have B1 := Aside0.mk (below_step hB.out hb1)
  clear hb1 hB hC
  have N1 := Aside0.mk (blk_new w1 (.cells zc29 29))
  go_wp2_with (refine wp_fill rfl 29 (.tmp 1) (.tmp 10) rfl w1.heap.size _ 29 az.cells N1.out rfl rfl (by rw [zc29_size, AM.len az_ok]) (by rw [info29, zc29_size]) (AM.one az_ok) ?_; intro w2 hx2 hf2; have B2 := Aside0.mk (below_fr (Below.alloc B1.out B1.out.size (.cells zc29 29)) (by rw [World.size_alloc]; exact Nat.le_succ_of_le B1.out.size) hf2 (fun k hk => by rw [hk]; exact B1.out.size)); clear hx2 hf2)
  have hB3 := Aside0.mk (Below.alloc B2.out B2.out.size (.cells (encs (Value.int .u8) [2]).toArray 5))
  refine (Read_short _ 1 1 (by decide) 5 _).mono ?_
  rintro e w4 ⟨rfl, hb4⟩
  have B4 := Aside0.mk (below_step hB3.out hb4)
  clear hb4 hB3 B2
  have N4 := Aside0.mk (blk_new w4 (.cells zc29 29))
  go_upto_region 3 with (refine wp_fill rfl 29 (.tmp 4) (.tmp 16) rfl w4.heap.size _ 29 az.cells N4.out rfl rfl (by rw [zc29_size, AM.len az_ok]) (by rw [info29, zc29_size]) (AM.one az_ok) ?_; intro w5 hx5 hf5; have B5 := Aside0.mk (below_fr (Below.alloc B4.out B4.out.size (.cells zc29 29)) (by rw [World.size_alloc]; exact Nat.le_succ_of_le B4.out.size) hf5 (fun k hk => by rw [hk]; exact B4.out.size)); clear hx5 hf5)
  have kt : Aside0 (decide ((1 : Int) ≤ 2 ∧ (2 : Int) ≤ 3) = true) := ⟨rfl⟩
  have kf : Aside0 (decide ((1 : Int) ≤ 4 ∧ (4 : Int) ≤ 3) = false) := ⟨rfl⟩
  clear h29 N4 N1 B4 B1
  go_wp2_with fail
  refine (Known_calls 2 _).mono ?_
  rintro e w6 ⟨rfl, rfl⟩
  rw [kt.out]
  go_wp2_with fail
  refine (Known_calls 4 _).mono ?_
  rintro e w7 ⟨rfl, rfl⟩
  rw [kf.out]
  go_wp2
  go_ret
  exact ⟨rfl, B5.out⟩
end Go.Proofs.Ytpjkbokojlpjoaa.Ak
