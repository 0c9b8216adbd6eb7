/- What the reference's Decode answers: the same. -/
import Derived.Test.YtinjbfgjfmfibaaDec4
namespace Go.Proofs.Ytinjbfgjfmfibaa.Dec
open Go.RowKit Go.Proofs.YtinjbfgjfmfibaaW.PrintWords Go.Proofs.YtinjbfgjfmfibaaW.PrintLast Go.Proofs.YtinjbfgjfmfibaaW.PrintMore Go.Proofs.Ytinjbfgjfmfibaa.Oct Go.Proofs.Ytinjbfgjfmfibaa.Bs
set_option linter.unusedVariables false
set_option linter.unusedSimpArgs false

theorem may_of {l : List Int} {at_ n : Int} (h : 1 ≤ n ∧ n ≤ 8 ∧ 0 ≤ at_ ∧ at_ + n ≤ (l.length : Int)) : mayB l.length at_ n = true := by
  unfold mayB; exact decide_eq_true h
set_option maxHeartbeats 1000000 in
set_option maxRecDepth 100000 in
theorem refDecode_nil (A : Option Addr) (c : Nat) (w : World) :
    Calls Try.prog 28 #[.slice A 0 c] w fun e w' => e = .returned (.tuple #[(bad 2).agg, .int .i64 2]) ∧ Below w.heap.size w w' := by
  go_enter Try.func28, Try.ntmps28
  go_wp2
  refine bodyPost_ret (results_ct rfl _ _ w.heap.size 32 #[.int .i64 0, .int .i64 0, .int .u32 0, .int .u32 0, .int .i64 0] (0, 0) _ rfl ?_ Try.underlying32 rfl (by kernel_rfl)) rfl ⟨rfl, ?_⟩
  · exact blk_new _ _
  · exact (Below.refl _ _).alloc (Nat.le_refl _) _

set_option maxHeartbeats 1000000 in
set_option maxRecDepth 100000 in
theorem refDecode_bad (A : Option Addr) (c : Nat) (l : List Int) (ad : Addr) (k : Int) (w : World) (h : Args w A c l ad k) (hk : sizeOf k = 0 ∨ (l.length : Int) ≠ sizeOf k) (x : Int) (hx : x = if sizeOf k = 0 then 4 else if (l.length : Int) < sizeOf k then 2 else 3) :
    Calls Try.prog 28 #[.slice A l.length c] w fun e w' => e = .returned (.tuple #[(bad 0).agg, .int .i64 x]) ∧ Below w.heap.size w w' := by
  obtain rfl := h.adr
  have hcell := cell_alloc_old h.cell (.cells #[.int .i64 0, .int .i64 0, .int .u32 0, .int .u32 0, .int .i64 0] 32)
  have hp := h.pos
  have gk := h.byt.rd 0
  rw [show ((0 : Nat) : Int) = 0 from rfl, h.rd0] at gk
  have hlen : (0 : Int) < (l.length : Int) := by omega
  have hl0 : ((l.length : Int) == 0) = false := beq_eq_false_iff_ne.mpr (by omega)
  by_cases h0 : sizeOf k = 0
  · obtain rfl : x = 4 := by rw [hx, if_pos h0]
    have HZ := Aside0.mk h0
    clear h hk hx h0
    go_enter Try.func28, Try.ntmps28
    go_wp2_with (go_at_call 45; refine (refsize_calls k _).mono ?_; rintro e w' ⟨rfl, rfl⟩; rw [HZ.out])
    refine bodyPost_ret (results_ct rfl _ _ w.heap.size 32 #[.int .i64 0, .int .i64 0, .int .u32 0, .int .u32 0, .int .i64 0] (0, 0) _ rfl ?_ Try.underlying32 rfl (by kernel_rfl)) rfl ⟨rfl, ?_⟩
    · exact blk_new _ _
    · exact (Below.refl _ _).alloc (Nat.le_refl _) _
  · obtain ⟨z, hz⟩ : ∃ z, z = sizeOf k := ⟨_, rfl⟩
    have HZ := Aside0.mk hz
    rw [← hz] at h0 hk hx
    have hz0 : (z == 0) = false := beq_eq_false_iff_ne.mpr h0
    have hne : (l.length : Int) ≠ z := by rcases hk with hk | hk; exact absurd hk h0; exact hk
    by_cases h1 : (l.length : Int) < z
    · obtain rfl : x = 2 := by rw [hx, if_neg h0, if_pos h1]
      clear h hk hx h0 hz hne
      go_enter Try.func28, Try.ntmps28
      go_wp2_with (go_at_call 45; refine (refsize_calls k _).mono ?_; rintro e w' ⟨rfl, rfl⟩; rw [← HZ.out])
      refine bodyPost_ret (results_ct rfl _ _ w.heap.size 32 #[.int .i64 0, .int .i64 0, .int .u32 0, .int .u32 0, .int .i64 0] (0, 0) _ rfl ?_ Try.underlying32 rfl (by kernel_rfl)) rfl ⟨rfl, ?_⟩
      · exact blk_new _ _
      · exact (Below.refl _ _).alloc (Nat.le_refl _) _
    · obtain rfl : x = 3 := by rw [hx, if_neg h0, if_neg h1]
      have h2 : z < (l.length : Int) := by omega
      clear h hk hx h0 hz hne
      go_enter Try.func28, Try.ntmps28
      go_wp2_with (go_at_call 45; refine (refsize_calls k _).mono ?_; rintro e w' ⟨rfl, rfl⟩; rw [← HZ.out])
      refine bodyPost_ret (results_ct rfl _ _ w.heap.size 32 #[.int .i64 0, .int .i64 0, .int .u32 0, .int .u32 0, .int .i64 0] (0, 0) _ rfl ?_ Try.underlying32 rfl (by kernel_rfl)) rfl ⟨rfl, ?_⟩
      · exact blk_new _ _
      · exact (Below.refl _ _).alloc (Nat.le_refl _) _
set_option maxHeartbeats 2000000 in
set_option maxRecDepth 100000 in
theorem refDecode_one (A : Option Addr) (c : Nat) (l : List Int) (ad : Addr) (k : Int) (w : World) (h : Args w A c l ad k) (hk : k = 1) (hsz : (l.length : Int) = 9) (t : Int) (ht : t = getV l 1 8) (ht2 : t ≤ 1099511627776) :
    Calls Try.prog 28 #[.slice A l.length c] w fun e w' => e = .returned (.tuple #[.agg #[.int .i64 1, .int .i64 t, .int .u32 0, .int .u32 0, .int .i64 0], .int .i64 0]) ∧ Below w.heap.size w w' := by
  obtain rfl := h.adr
  have hcell := cell_alloc_old h.cell (.cells #[.int .i64 0, .int .i64 0, .int .u32 0, .int .u32 0, .int .i64 0] 32)
  have hp := h.pos
  have hlen : (0 : Int) < (l.length : Int) := by omega
  have hl0 : ((l.length : Int) == 0) = false := beq_eq_false_iff_ne.mpr (by omega)
  have hl1 : ¬ ((l.length : Int) < 9) := by omega
  have hl2 : ¬ ((l.length : Int) > 9) := by omega
  have HL : Aside0 (l.length = 9) := ⟨by omega⟩
  have H := Aside0.mk h
  have HZ : Aside0 (sizeOf 1 = 9) := ⟨rfl⟩
  have HV1 := Aside0.mk ht.symm
  have gt0 : 0 ≤ t := by rw [ht]; exact (getV_range h.byt 1 8).1
  subst hk
  clear h hsz ht
  go_enter Try.func28, Try.ntmps28
  go_wp2_with (go_at_call 45; refine (refsize_calls 1 _).mono ?_; rintro e w' ⟨rfl, rfl⟩; rw [HZ.out])
  have HB : Aside0 (Below w.heap.size w (w.alloc (.cells #[.int .i64 0, .int .i64 0, .int .u32 0, .int .u32 0, .int .i64 0] 32))) := ⟨(Below.refl _ _).alloc (Nat.le_refl _) _⟩
  refine (refGet_calls (some ad) c l 1 8 _ (Kd.C_below H.out.C HB.out) H.out.cap H.out.len H.out.byt (may_of (by have := HL.out; omega))).mono ?_
  rintro e w' ⟨rfl, rfl⟩
  rw [HV1.out]
  go_wp2
  refine bodyPost_ret (results_ct rfl _ _ w.heap.size 32 #[.int .i64 1, .int .i64 t, .int .u32 0, .int .u32 0, .int .i64 0] (0, 0) _ rfl ?_ Try.underlying32 rfl (by kernel_rfl)) rfl ⟨rfl, ?_⟩
  · exact blk_alloc (blk_new _ _) _
  · exact ((Below.refl _ _).alloc (Nat.le_refl _) _).alloc (by simp) _
set_option maxHeartbeats 2000000 in
set_option maxRecDepth 100000 in
theorem refDecode_two (A : Option Addr) (c : Nat) (l : List Int) (ad : Addr) (k : Int) (w : World) (h : Args w A c l ad k) (hk : k = 2) (hsz : (l.length : Int) = 19) (t : Int) (ht : t = getV l 1 8) (s : Int) (hs : s = getV l 9 4) (a : Int) (ha : a = getV l 13 4) (b : Int) (hb : b = getV l 17 2) (ht2 : t ≤ 1099511627776) :
    Calls Try.prog 28 #[.slice A l.length c] w fun e w' => e = .returned (.tuple #[.agg #[.int .i64 2, .int .i64 t, .int .u32 s, .int .u32 a, .int .i64 b], .int .i64 0]) ∧ Below w.heap.size w w' := by
  obtain rfl := h.adr
  have hcell := cell_alloc_old h.cell (.cells #[.int .i64 0, .int .i64 0, .int .u32 0, .int .u32 0, .int .i64 0] 32)
  have hp := h.pos
  have hlen : (0 : Int) < (l.length : Int) := by omega
  have hl0 : ((l.length : Int) == 0) = false := beq_eq_false_iff_ne.mpr (by omega)
  have hl1 : ¬ ((l.length : Int) < 19) := by omega
  have hl2 : ¬ ((l.length : Int) > 19) := by omega
  have HL : Aside0 (l.length = 19) := ⟨by omega⟩
  have H := Aside0.mk h
  have HZ : Aside0 (sizeOf 2 = 19) := ⟨rfl⟩
  have HV1 := Aside0.mk ht.symm
  have gt0 : 0 ≤ t := by rw [ht]; exact (getV_range h.byt 1 8).1
  have HV2 := Aside0.mk hs.symm
  have gs0 : 0 ≤ s := by rw [hs]; exact (getV_range h.byt 9 4).1
  have gs1 : s ≤ 4294967295 := by have g_ := (getV_range h.byt 9 4).2; rw [← hs] at g_; have g_ : s < (4294967296 : Int) := g_; omega
  have HV3 := Aside0.mk ha.symm
  have ga0 : 0 ≤ a := by rw [ha]; exact (getV_range h.byt 13 4).1
  have ga1 : a ≤ 4294967295 := by have g_ := (getV_range h.byt 13 4).2; rw [← ha] at g_; have g_ : a < (4294967296 : Int) := g_; omega
  have HV4 := Aside0.mk hb.symm
  have gb0 : 0 ≤ b := by rw [hb]; exact (getV_range h.byt 17 2).1
  have gb1 : b ≤ 65535 := by have g_ := (getV_range h.byt 17 2).2; rw [← hb] at g_; have g_ : b < (65536 : Int) := g_; omega
  subst hk
  clear h hsz ht hs ha hb
  go_enter Try.func28, Try.ntmps28
  go_wp2_with (go_at_call 45; refine (refsize_calls 2 _).mono ?_; rintro e w' ⟨rfl, rfl⟩; rw [HZ.out])
  have HB : Aside0 (Below w.heap.size w (w.alloc (.cells #[.int .i64 0, .int .i64 0, .int .u32 0, .int .u32 0, .int .i64 0] 32))) := ⟨(Below.refl _ _).alloc (Nat.le_refl _) _⟩
  refine (refGet_calls (some ad) c l 1 8 _ (Kd.C_below H.out.C HB.out) H.out.cap H.out.len H.out.byt (may_of (by have := HL.out; omega))).mono ?_
  rintro e w' ⟨rfl, rfl⟩
  rw [HV1.out]
  go_wp2_with fail
  clear HB
  have HB : Aside0 (Below w.heap.size w ((w.alloc (.cells #[.int .i64 0, .int .i64 0, .int .u32 0, .int .u32 0, .int .i64 0] 32)).alloc (.cells #[.int .i64 2, .int .i64 t, .int .u32 0, .int .u32 0, .int .i64 0] 32))) := ⟨((Below.refl _ _).alloc (Nat.le_refl _) _).alloc (by simp) _⟩
  refine (refGet_calls (some ad) c l 9 4 _ (Kd.C_below H.out.C HB.out) H.out.cap H.out.len H.out.byt (may_of (by have := HL.out; omega))).mono ?_
  rintro e w' ⟨rfl, rfl⟩
  rw [HV2.out]
  go_wp2_with fail
  clear HB
  have HB : Aside0 (Below w.heap.size w ((w.alloc (.cells #[.int .i64 0, .int .i64 0, .int .u32 0, .int .u32 0, .int .i64 0] 32)).alloc (.cells #[.int .i64 2, .int .i64 t, .int .u32 s, .int .u32 0, .int .i64 0] 32))) := ⟨((Below.refl _ _).alloc (Nat.le_refl _) _).alloc (by simp) _⟩
  refine (refGet_calls (some ad) c l 13 4 _ (Kd.C_below H.out.C HB.out) H.out.cap H.out.len H.out.byt (may_of (by have := HL.out; omega))).mono ?_
  rintro e w' ⟨rfl, rfl⟩
  rw [HV3.out]
  go_wp2_with fail
  clear HB
  have HB : Aside0 (Below w.heap.size w ((w.alloc (.cells #[.int .i64 0, .int .i64 0, .int .u32 0, .int .u32 0, .int .i64 0] 32)).alloc (.cells #[.int .i64 2, .int .i64 t, .int .u32 s, .int .u32 0, .int .i64 0] 32))) := ⟨((Below.refl _ _).alloc (Nat.le_refl _) _).alloc (by simp) _⟩
  refine (refGet_calls (some ad) c l 17 2 _ (Kd.C_below H.out.C HB.out) H.out.cap H.out.len H.out.byt (may_of (by have := HL.out; omega))).mono ?_
  rintro e w' ⟨rfl, rfl⟩
  rw [HV4.out]
  go_wp2
  refine bodyPost_ret (results_ct rfl _ _ w.heap.size 32 #[.int .i64 2, .int .i64 t, .int .u32 s, .int .u32 a, .int .i64 b] (0, 0) _ rfl ?_ Try.underlying32 rfl (by kernel_rfl)) rfl ⟨rfl, ?_⟩
  · exact blk_alloc (blk_new _ _) _
  · exact ((Below.refl _ _).alloc (Nat.le_refl _) _).alloc (by simp) _
set_option maxHeartbeats 2000000 in
set_option maxRecDepth 100000 in
theorem refDecode_three (A : Option Addr) (c : Nat) (l : List Int) (ad : Addr) (k : Int) (w : World) (h : Args w A c l ad k) (hk : k = 3) (hsz : (l.length : Int) = 15) (t : Int) (ht : t = getV l 1 8) (a : Int) (ha : a = getV l 9 4) (b : Int) (hb : b = getV l 13 2) (ht2 : t ≤ 1099511627776) :
    Calls Try.prog 28 #[.slice A l.length c] w fun e w' => e = .returned (.tuple #[.agg #[.int .i64 3, .int .i64 t, .int .u32 0, .int .u32 a, .int .i64 b], .int .i64 0]) ∧ Below w.heap.size w w' := by
  obtain rfl := h.adr
  have hcell := cell_alloc_old h.cell (.cells #[.int .i64 0, .int .i64 0, .int .u32 0, .int .u32 0, .int .i64 0] 32)
  have hp := h.pos
  have hlen : (0 : Int) < (l.length : Int) := by omega
  have hl0 : ((l.length : Int) == 0) = false := beq_eq_false_iff_ne.mpr (by omega)
  have hl1 : ¬ ((l.length : Int) < 15) := by omega
  have hl2 : ¬ ((l.length : Int) > 15) := by omega
  have HL : Aside0 (l.length = 15) := ⟨by omega⟩
  have H := Aside0.mk h
  have HZ : Aside0 (sizeOf 3 = 15) := ⟨rfl⟩
  have HV1 := Aside0.mk ht.symm
  have gt0 : 0 ≤ t := by rw [ht]; exact (getV_range h.byt 1 8).1
  have HV2 := Aside0.mk ha.symm
  have ga0 : 0 ≤ a := by rw [ha]; exact (getV_range h.byt 9 4).1
  have ga1 : a ≤ 4294967295 := by have g_ := (getV_range h.byt 9 4).2; rw [← ha] at g_; have g_ : a < (4294967296 : Int) := g_; omega
  have HV3 := Aside0.mk hb.symm
  have gb0 : 0 ≤ b := by rw [hb]; exact (getV_range h.byt 13 2).1
  have gb1 : b ≤ 65535 := by have g_ := (getV_range h.byt 13 2).2; rw [← hb] at g_; have g_ : b < (65536 : Int) := g_; omega
  subst hk
  clear h hsz ht ha hb
  go_enter Try.func28, Try.ntmps28
  go_wp2_with (go_at_call 45; refine (refsize_calls 3 _).mono ?_; rintro e w' ⟨rfl, rfl⟩; rw [HZ.out])
  have HB : Aside0 (Below w.heap.size w (w.alloc (.cells #[.int .i64 0, .int .i64 0, .int .u32 0, .int .u32 0, .int .i64 0] 32))) := ⟨(Below.refl _ _).alloc (Nat.le_refl _) _⟩
  refine (refGet_calls (some ad) c l 1 8 _ (Kd.C_below H.out.C HB.out) H.out.cap H.out.len H.out.byt (may_of (by have := HL.out; omega))).mono ?_
  rintro e w' ⟨rfl, rfl⟩
  rw [HV1.out]
  go_wp2_with fail
  clear HB
  have HB : Aside0 (Below w.heap.size w ((w.alloc (.cells #[.int .i64 0, .int .i64 0, .int .u32 0, .int .u32 0, .int .i64 0] 32)).alloc (.cells #[.int .i64 3, .int .i64 t, .int .u32 0, .int .u32 0, .int .i64 0] 32))) := ⟨((Below.refl _ _).alloc (Nat.le_refl _) _).alloc (by simp) _⟩
  refine (refGet_calls (some ad) c l 9 4 _ (Kd.C_below H.out.C HB.out) H.out.cap H.out.len H.out.byt (may_of (by have := HL.out; omega))).mono ?_
  rintro e w' ⟨rfl, rfl⟩
  rw [HV2.out]
  go_wp2_with fail
  clear HB
  have HB : Aside0 (Below w.heap.size w ((w.alloc (.cells #[.int .i64 0, .int .i64 0, .int .u32 0, .int .u32 0, .int .i64 0] 32)).alloc (.cells #[.int .i64 3, .int .i64 t, .int .u32 0, .int .u32 0, .int .i64 0] 32))) := ⟨((Below.refl _ _).alloc (Nat.le_refl _) _).alloc (by simp) _⟩
  refine (refGet_calls (some ad) c l 13 2 _ (Kd.C_below H.out.C HB.out) H.out.cap H.out.len H.out.byt (may_of (by have := HL.out; omega))).mono ?_
  rintro e w' ⟨rfl, rfl⟩
  rw [HV3.out]
  go_wp2
  refine bodyPost_ret (results_ct rfl _ _ w.heap.size 32 #[.int .i64 3, .int .i64 t, .int .u32 0, .int .u32 a, .int .i64 b] (0, 0) _ rfl ?_ Try.underlying32 rfl (by kernel_rfl)) rfl ⟨rfl, ?_⟩
  · exact blk_alloc (blk_new _ _) _
  · exact ((Below.refl _ _).alloc (Nat.le_refl _) _).alloc (by simp) _
set_option maxHeartbeats 2000000 in
set_option maxRecDepth 100000 in
theorem refDecode_late (A : Option Addr) (c : Nat) (l : List Int) (ad : Addr) (k : Int) (w : World) (h : Args w A c l ad k) (z : Int) (hz : z = sizeOf k) (hz0 : z ≠ 0) (hz9 : 9 ≤ z) (hsz : (l.length : Int) = z) (t : Int) (ht : t = getV l 1 8) (ht2 : 1099511627776 < t) :
    Calls Try.prog 28 #[.slice A l.length c] w fun e w' => e = .returned (.tuple #[(bad 0).agg, .int .i64 1]) ∧ Below w.heap.size w w' := by
  obtain rfl := h.adr
  have hcell := cell_alloc_old h.cell (.cells #[.int .i64 0, .int .i64 0, .int .u32 0, .int .u32 0, .int .i64 0] 32)
  have hp := h.pos
  have hlen : (0 : Int) < (l.length : Int) := by omega
  have hl0 : ((l.length : Int) == 0) = false := beq_eq_false_iff_ne.mpr (by omega)
  have hzb : (z == 0) = false := beq_eq_false_iff_ne.mpr hz0
  have hl1 : ¬ ((l.length : Int) < z) := by omega
  have hl2 : ¬ (z < (l.length : Int)) := by omega
  have HL : Aside0 (9 ≤ l.length) := ⟨by omega⟩
  have H := Aside0.mk h
  have HZ := Aside0.mk hz
  have HV1 := Aside0.mk ht.symm
  have gt0 : 0 ≤ t := by rw [ht]; exact (getV_range h.byt 1 8).1
  have gk := h.byt.rd 0
  rw [show ((0 : Nat) : Int) = 0 from rfl, h.rd0] at gk
  clear h hsz hz hz0 ht hz9
  go_enter Try.func28, Try.ntmps28
  go_wp2_with (go_at_call 45; refine (refsize_calls k _).mono ?_; rintro e w' ⟨rfl, rfl⟩; rw [← HZ.out])
  have HB : Aside0 (Below w.heap.size w (w.alloc (.cells #[.int .i64 0, .int .i64 0, .int .u32 0, .int .u32 0, .int .i64 0] 32))) := ⟨(Below.refl _ _).alloc (Nat.le_refl _) _⟩
  refine (refGet_calls (some ad) c l 1 8 _ (Kd.C_below H.out.C HB.out) H.out.cap H.out.len H.out.byt (may_of (by have := HL.out; omega))).mono ?_
  rintro e w' ⟨rfl, rfl⟩
  rw [HV1.out]
  go_wp2
  refine bodyPost_ret (results_ct rfl _ _ w.heap.size 32 #[.int .i64 0, .int .i64 0, .int .u32 0, .int .u32 0, .int .i64 0] (0, 0) _ rfl ?_ Try.underlying32 rfl (by kernel_rfl)) rfl ⟨rfl, ?_⟩
  · exact blk_new _ _
  · exact (Below.refl _ _).alloc (Nat.le_refl _) _
theorem refDecode_calls (A : Option Addr) (c : Nat) (l : List Int) (w : World) (hC : Kd.C (Kd.int .u8) w A l.length l) (hc : l.length ≤ c) (hm : l.length ≤ 140737488351232) (hl : Byt l) :
    Calls Try.prog 28 #[.slice A l.length c] w fun e w' => e = .returned (.tuple #[(dec l).agg, .int .i64 (dec l).x]) ∧ Below w.heap.size w w' := by
  by_cases h0 : l = []
  · subst h0
    exact refDecode_nil A c w
  · have hp : 0 < l.length := List.length_pos_iff.mpr h0
    obtain ⟨ad, k, hA⟩ := Args.of hC hc hm hl hp
    have hd : dec l = if sizeOf k = 0 then bad 4 else if (l.length : Int) < sizeOf k then bad 2 else if (l.length : Int) > sizeOf k then bad 3
        else if getV l 1 8 > 1099511627776 then bad 1 else if k = 1 then ⟨1, getV l 1 8, 0, 0, 0, 0⟩ else if k = 2 then ⟨2, getV l 1 8, getV l 9 4, getV l 13 4, getV l 17 2, 0⟩ else ⟨3, getV l 1 8, 0, getV l 9 4, getV l 13 2, 0⟩ := by
      unfold dec; rw [if_neg h0, hA.rd0]
    by_cases h1 : sizeOf k = 0
    · rw [hd, if_pos h1]
      exact refDecode_bad A c l ad k w hA (.inl h1) 4 (by rw [if_pos h1])
    · by_cases h2 : (l.length : Int) = sizeOf k
      · rw [if_neg h1, if_neg (by omega), if_neg (by omega)] at hd
        by_cases h3 : getV l 1 8 > 1099511627776
        · rw [hd, if_pos h3]
          refine refDecode_late A c l ad k w hA (sizeOf k) rfl h1 ?_ h2 _ rfl h3
          have := sizeOf_cases k h1; omega
        · rw [if_neg h3] at hd
          rcases sizeOf_cases k h1 with ⟨rfl, h4⟩ | ⟨rfl, h4⟩ | ⟨rfl, h4⟩
          · rw [hd, if_pos rfl]
            exact refDecode_one A c l ad 1 w hA rfl (by omega) (getV l 1 8) rfl (by omega)
          · rw [hd, if_neg (by omega), if_pos rfl]
            exact refDecode_two A c l ad 2 w hA rfl (by omega) _ rfl _ rfl _ rfl _ rfl (by omega)
          · rw [hd, if_neg (by omega), if_neg (by omega)]
            exact refDecode_three A c l ad 3 w hA rfl (by omega) _ rfl _ rfl _ rfl (by omega)
      · by_cases h4 : (l.length : Int) < sizeOf k
        · rw [hd, if_neg h1, if_pos h4]
          exact refDecode_bad A c l ad k w hA (.inr h2) 2 (by rw [if_neg h1, if_pos h4])
        · rw [hd, if_neg h1, if_neg h4, if_pos (by omega)]
          exact refDecode_bad A c l ad k w hA (.inr h2) 3 (by rw [if_neg h1, if_neg h4])
end Go.Proofs.Ytinjbfgjfmfibaa.Dec
