/- What entry.Decode answers. -/
import Derived.Test.YtinjbfgjfmfibaaDec1
namespace Go.Proofs.Ytinjbfgjfmfibaa.Dec
open Go.RowKit Go.Proofs.YtinjbfgjfmfibaaW.PrintWords Go.Proofs.YtinjbfgjfmfibaaW.PrintLast Go.Proofs.YtinjbfgjfmfibaaW.PrintMore Go.Proofs.Ytinjbfgjfmfibaa.Oct Go.Proofs.Ytinjbfgjfmfibaa.Bs
set_option linter.unusedVariables false
set_option linter.unusedSimpArgs false

set_option maxHeartbeats 1000000 in
set_option maxRecDepth 100000 in
theorem Decode_nil (A : Option Addr) (c : Nat) (w : World) :
    Calls Try.prog 27 #[.slice A 0 c] w fun e w' => e = .returned (.tuple #[(bad 2).agg, .int .i64 2]) ∧ Below w.heap.size w w' := by
  go_enter Try.func27, Try.ntmps27
  go_wp2
  refine bodyPost_ret (results_ct rfl _ _ w.heap.size 32 #[.int .i64 0, .int .i64 0, .int .u32 0, .int .u32 0, .int .i64 0] (0, 0) _ rfl ?_ Try.underlying32 rfl (by kernel_rfl)) rfl ⟨rfl, ?_⟩
  · exact blk_new _ _
  · exact (Below.refl _ _).alloc (Nat.le_refl _) _

/-- What is at hand of bytes that came in: they are not empty; the first of them is k. -/
structure Args (w : World) (A : Option Addr) (c : Nat) (l : List Int) (ad : Addr) (k : Int) : Prop where
  C : Kd.C (Kd.int .u8) w A l.length l
  cap : l.length ≤ c
  len : l.length ≤ 140737488351232
  byt : Byt l
  pos : 0 < l.length
  adr : A = some ad
  cell : w.cell? ad = some (.int .u8 k)
  rd0 : rd l 0 = k
theorem Args.of {w : World} {A : Option Addr} {c : Nat} {l : List Int} (hC : Kd.C (Kd.int .u8) w A l.length l) (hc : l.length ≤ c) (hm : l.length ≤ 140737488351232) (hl : Byt l) (hp : 0 < l.length) : ∃ ad k, Args w A c l ad k := by
  obtain ⟨ad, e1, hcell⟩ := (Kd.reads_of_C (d := (0 : Int)) hC).at_ 0 (by omega) (by omega)
  have e2 : ad.add (0 : Int).toNat = ad := by show ad.add 0 = ad; unfold Addr.add; simp
  rw [e2] at hcell
  exact ⟨ad, rd l 0, hC, hc, hm, hl, hp, e1, hcell, rfl⟩

set_option maxHeartbeats 1000000 in
set_option maxRecDepth 100000 in
theorem Decode_bad (A : Option Addr) (c : Nat) (l : List Int) (ad : Addr) (k : Int) (w : World) (h : Args w A c l ad k) (hk : sizeOf k = 0 ∨ (l.length : Int) ≠ sizeOf k) (x : Int) (hx : x = if sizeOf k = 0 then 4 else if (l.length : Int) < sizeOf k then 2 else 3) :
    Calls Try.prog 27 #[.slice A l.length c] w fun e w' => e = .returned (.tuple #[(bad 0).agg, .int .i64 x]) ∧ Below w.heap.size w w' := by
  obtain rfl := h.adr
  have hcell := cell_alloc_old h.cell (.cells #[.int .i64 0, .int .i64 0, .int .u32 0, .int .u32 0, .int .i64 0] 32)
  have hp := h.pos
  have hlen : (0 : Int) < (l.length : Int) := by omega
  have hl0 : ((l.length : Int) == 0) = false := beq_eq_false_iff_ne.mpr (by omega)
  by_cases h0 : sizeOf k = 0
  · obtain rfl : x = 4 := by rw [hx, if_pos h0]
    have HZ := Aside0.mk h0
    clear h hk hx h0
    go_enter Try.func27, Try.ntmps27
    go_wp2_with (go_at_call 43; refine (size_calls k _).mono ?_; rintro e w' ⟨rfl, rfl⟩; rw [HZ.out])
    refine bodyPost_ret (results_ct rfl _ _ w.heap.size 32 #[.int .i64 0, .int .i64 0, .int .u32 0, .int .u32 0, .int .i64 0] (0, 0) _ rfl ?_ Try.underlying32 rfl (by kernel_rfl)) rfl ⟨rfl, ?_⟩
    · exact blk_new _ _
    · exact (Below.refl _ _).alloc (Nat.le_refl _) _
  · obtain ⟨z, hz⟩ : ∃ z, z = sizeOf k := ⟨_, rfl⟩
    have HZ := Aside0.mk hz
    rw [← hz] at h0 hk hx
    have hz0 : (z == 0) = false := beq_eq_false_iff_ne.mpr h0
    have hne : (l.length : Int) ≠ z := by rcases hk with hk | hk; exact absurd hk h0; exact hk
    by_cases h1 : (l.length : Int) < z
    · obtain rfl : x = 2 := by rw [hx, if_neg h0, if_pos h1]
      clear h hk hx h0 hz hne
      go_enter Try.func27, Try.ntmps27
      go_wp2_with (go_at_call 43; refine (size_calls k _).mono ?_; rintro e w' ⟨rfl, rfl⟩; rw [← HZ.out])
      refine bodyPost_ret (results_ct rfl _ _ w.heap.size 32 #[.int .i64 0, .int .i64 0, .int .u32 0, .int .u32 0, .int .i64 0] (0, 0) _ rfl ?_ Try.underlying32 rfl (by kernel_rfl)) rfl ⟨rfl, ?_⟩
      · exact blk_new _ _
      · exact (Below.refl _ _).alloc (Nat.le_refl _) _
    · obtain rfl : x = 3 := by rw [hx, if_neg h0, if_neg h1]
      have h2 : z < (l.length : Int) := by omega
      clear h hk hx h0 hz hne
      go_enter Try.func27, Try.ntmps27
      go_wp2_with (go_at_call 43; refine (size_calls k _).mono ?_; rintro e w' ⟨rfl, rfl⟩; rw [← HZ.out])
      refine bodyPost_ret (results_ct rfl _ _ w.heap.size 32 #[.int .i64 0, .int .i64 0, .int .u32 0, .int .u32 0, .int .i64 0] (0, 0) _ rfl ?_ Try.underlying32 rfl (by kernel_rfl)) rfl ⟨rfl, ?_⟩
      · exact blk_new _ _
      · exact (Below.refl _ _).alloc (Nat.le_refl _) _
end Go.Proofs.Ytinjbfgjfmfibaa.Dec
