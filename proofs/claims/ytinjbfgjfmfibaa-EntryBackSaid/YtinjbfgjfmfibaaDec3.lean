/- What entry.Decode answers, where the bytes are as many as the kind says. -/
import Derived.Test.YtinjbfgjfmfibaaDec2
namespace Go.Proofs.Ytinjbfgjfmfibaa.Dec
open Go.RowKit Go.Proofs.YtinjbfgjfmfibaaW.PrintWords Go.Proofs.YtinjbfgjfmfibaaW.PrintLast Go.Proofs.YtinjbfgjfmfibaaW.PrintMore Go.Proofs.Ytinjbfgjfmfibaa.Oct Go.Proofs.Ytinjbfgjfmfibaa.Bs
set_option linter.unusedVariables false
set_option linter.unusedSimpArgs false

theorem getV_first {l : List Int} (hp : 0 < l.length) : getV l 0 1 = rd l 0 := by
  obtain ⟨x, r, rfl⟩ : ∃ x r, l = x :: r := by cases l with | nil => simp at hp | cons x r => exact ⟨x, r, rfl⟩
  unfold getV
  have : mayB (x :: r).length 0 1 = true := by unfold mayB; apply decide_eq_true; simp; omega
  rw [if_pos this]
  simp [beN, rd]

set_option maxHeartbeats 2000000 in
set_option maxRecDepth 100000 in
theorem Decode_one (A : Option Addr) (c : Nat) (l : List Int) (ad : Addr) (k : Int) (w : World) (h : Args w A c l ad k) (hk : k = 1) (hsz : (l.length : Int) = 9) (t : Int) (ht : t = getV l 1 8) (ht2 : t ≤ 1099511627776) :
    Calls Try.prog 27 #[.slice A l.length c] w fun e w' => e = .returned (.tuple #[.agg #[.int .i64 1, .int .i64 t, .int .u32 0, .int .u32 0, .int .i64 0], .int .i64 0]) ∧ Below w.heap.size w w' := by
  obtain rfl := h.adr
  have hcell := cell_alloc_old h.cell (.cells #[.int .i64 0, .int .i64 0, .int .u32 0, .int .u32 0, .int .i64 0] 32)
  have hp := h.pos
  have hlen : (0 : Int) < (l.length : Int) := by omega
  have hl0 : ((l.length : Int) == 0) = false := beq_eq_false_iff_ne.mpr (by omega)
  have hl1 : ¬ ((l.length : Int) < 9) := by omega
  have hl2 : ¬ ((l.length : Int) > 9) := by omega
  have HL : Aside0 (l.length = 9) := ⟨by omega⟩
  have H := Aside0.mk h
  have HV0 : Aside0 (getV l 0 1 = 1) := ⟨by rw [getV_first h.pos, h.rd0, hk]⟩
  have HZ : Aside0 (sizeOf 1 = 9) := ⟨rfl⟩
  have HV1 := Aside0.mk ht.symm
  have gt0 : 0 ≤ t := by rw [ht]; exact (getV_range h.byt 1 8).1
  subst hk
  clear h hsz ht
  go_enter Try.func27, Try.ntmps27
  go_wp2_with (go_at_call 43; refine (size_calls 1 _).mono ?_; rintro e w' ⟨rfl, rfl⟩; rw [HZ.out])
  have HB : Aside0 (Below w.heap.size w ((w.alloc (.cells #[.int .i64 0, .int .i64 0, .int .u32 0, .int .u32 0, .int .i64 0] 32)).alloc (.cells #[.slice (some ad) l.length c, .int .i64 0] 80))) := ⟨((Below.refl _ _).alloc (Nat.le_refl _) _).alloc (by simp) _⟩
  have HG1 : Aside0 (((w.alloc (.cells #[.int .i64 0, .int .i64 0, .int .u32 0, .int .u32 0, .int .i64 0] 32)).alloc (.cells #[.slice (some ad) l.length c, .int .i64 0] 80)).heap[w.heap.size + 1]? = some (rdCells (some ad) l.length c 0)) := ⟨by have h_ := blk_new (w.alloc (.cells #[.int .i64 0, .int .i64 0, .int .u32 0, .int .u32 0, .int .i64 0] 32)) (.cells #[.slice (some ad) l.length c, .int .i64 0] 80); rw [World.size_alloc] at h_; exact h_⟩
  have HG0 : Aside0 (((w.alloc (.cells #[.int .i64 0, .int .i64 0, .int .u32 0, .int .u32 0, .int .i64 0] 32)).alloc (.cells #[.slice (some ad) l.length c, .int .i64 0] 80)).heap[w.heap.size]? = some (.cells #[.int .i64 0, .int .i64 0, .int .u32 0, .int .u32 0, .int .i64 0] 32 (0, 0))) := ⟨blk_alloc (blk_new _ _) _⟩
  refine (take_calls (w.heap.size + 1) (some ad) c l 0 1 w _ HB.out (by omega) HG1.out (Kd.C_below H.out.C HB.out) H.out.cap (by have := HL.out; omega) H.out.byt (by omega)).mono ?_
  rintro e W0 ⟨rfl, h1, h2, h3⟩
  rw [HV0.out]
  clear hcell
  have HB0 := Aside0.mk h3
  have HX1 := Aside0.mk h1
  have HX0 := Aside0.mk (h2.blk HG0.out (by omega) (by simp))
  clear h1 h2 h3 HB HG1 HG0
  have hz2 : w.heap.size + 1 < W0.heap.size := blk_lt HX1.out
  obtain ⟨g2, hg2⟩ : ∃ g2, g2 = W0.heap.size := ⟨_, rfl⟩
  go_wp2_with fail
  have HB : Aside0 (Below w.heap.size w (W0.alloc (.cells #[.int .i64 1, .int .i64 0, .int .u32 0, .int .u32 0, .int .i64 0] 32))) := ⟨HB0.out.alloc HB0.out.size _⟩
  have HG1 : Aside0 ((W0.alloc (.cells #[.int .i64 1, .int .i64 0, .int .u32 0, .int .u32 0, .int .i64 0] 32)).heap[w.heap.size + 1]? = some (rdCells (some ad) l.length c 1)) := ⟨blk_alloc HX1.out _⟩
  have HG0 : Aside0 ((W0.alloc (.cells #[.int .i64 1, .int .i64 0, .int .u32 0, .int .u32 0, .int .i64 0] 32)).heap[w.heap.size]? = some (.cells #[.int .i64 0, .int .i64 0, .int .u32 0, .int .u32 0, .int .i64 0] 32 (0, 0))) := ⟨blk_alloc HX0.out _⟩
  have HG2 : Aside0 ((W0.alloc (.cells #[.int .i64 1, .int .i64 0, .int .u32 0, .int .u32 0, .int .i64 0] 32)).heap[g2]? = some (.cells #[.int .i64 1, .int .i64 0, .int .u32 0, .int .u32 0, .int .i64 0] 32 (0, 0))) := ⟨by rw [hg2]; exact blk_new _ _⟩
  skip
  clear HB0 HX1 HX0
  refine (take_calls (w.heap.size + 1) (some ad) c l 1 8 w _ HB.out (by omega) HG1.out (Kd.C_below H.out.C HB.out) H.out.cap (by have := HL.out; omega) H.out.byt (by omega)).mono ?_
  rintro e W1 ⟨rfl, h1, h2, h3⟩
  rw [HV1.out]
  try rw [← hg2]
  have hz3 : w.heap.size + 1 < g2 := by omega
  clear hz2 hg2
  have HBn := Aside0.mk h3
  have HX1 := Aside0.mk h1
  have HX0 := Aside0.mk (h2.blk HG0.out (by omega) (by simp))
  have HX2 := Aside0.mk (h2.blk HG2.out (by omega) (by simp))
  clear h1 h2 h3 HB HG1 HG0 HG2
  have k0 : W1.cell? ⟨g2, 0, none⟩ = some (.int .i64 1) := blk_cell HX2.out 0
  have f0 : W1.frozen? ⟨g2, 0, none⟩ = false := blk_frozen HX2.out 0
  have k1 : W1.cell? ⟨g2, 1, none⟩ = some (.int .i64 0) := blk_cell HX2.out 1
  have f1 : W1.frozen? ⟨g2, 1, none⟩ = false := blk_frozen HX2.out 1
  have k2 : W1.cell? ⟨g2, 2, none⟩ = some (.int .u32 0) := blk_cell HX2.out 2
  have f2 : W1.frozen? ⟨g2, 2, none⟩ = false := blk_frozen HX2.out 2
  have k3 : W1.cell? ⟨g2, 3, none⟩ = some (.int .u32 0) := blk_cell HX2.out 3
  have f3 : W1.frozen? ⟨g2, 3, none⟩ = false := blk_frozen HX2.out 3
  have k4 : W1.cell? ⟨g2, 4, none⟩ = some (.int .i64 0) := blk_cell HX2.out 4
  have f4 : W1.frozen? ⟨g2, 4, none⟩ = false := blk_frozen HX2.out 4
  have q0 : w.heap.size ≠ g2 := by omega
  have z0 : W1.cell? ⟨w.heap.size, 0, none⟩ = some (.int .i64 0) := blk_cell HX0.out 0
  have z1 : W1.cell? ⟨w.heap.size, 1, none⟩ = some (.int .i64 0) := blk_cell HX0.out 1
  have z2 : W1.cell? ⟨w.heap.size, 2, none⟩ = some (.int .u32 0) := blk_cell HX0.out 2
  have z3 : W1.cell? ⟨w.heap.size, 3, none⟩ = some (.int .u32 0) := blk_cell HX0.out 3
  have z4 : W1.cell? ⟨w.heap.size, 4, none⟩ = some (.int .i64 0) := blk_cell HX0.out 4
  have y0 : W1.frozen? ⟨w.heap.size, 0, none⟩ = false := blk_frozen HX0.out 0
  have y1 : W1.frozen? ⟨w.heap.size, 1, none⟩ = false := blk_frozen HX0.out 1
  have y2 : W1.frozen? ⟨w.heap.size, 2, none⟩ = false := blk_frozen HX0.out 2
  have y3 : W1.frozen? ⟨w.heap.size, 3, none⟩ = false := blk_frozen HX0.out 3
  have y4 : W1.frozen? ⟨w.heap.size, 4, none⟩ = false := blk_frozen HX0.out 4
  have HB : Aside0 (Below w.heap.size w (W1.setCell ⟨g2, 1, none⟩ (.int .i64 t))) := ⟨HBn.out.setCell (by show w.heap.size ≤ g2; omega) _⟩
  have HG1 : Aside0 ((W1.setCell ⟨g2, 1, none⟩ (.int .i64 t)).heap[w.heap.size + 1]? = some (rdCells (some ad) l.length c 9)) := ⟨blk_far HX1.out (by show w.heap.size + 1 ≠ g2; omega) _⟩
  have HG0 : Aside0 ((W1.setCell ⟨g2, 1, none⟩ (.int .i64 t)).heap[w.heap.size]? = some (.cells #[.int .i64 0, .int .i64 0, .int .u32 0, .int .u32 0, .int .i64 0] 32 (0, 0))) := ⟨blk_far HX0.out (by show w.heap.size ≠ g2; omega) _⟩
  have HG2 : Aside0 ((W1.setCell ⟨g2, 1, none⟩ (.int .i64 t)).heap[g2]? = some (.cells #[.int .i64 1, .int .i64 t, .int .u32 0, .int .u32 0, .int .i64 0] 32 (0, 0))) := ⟨blk_set HX2.out 1 _⟩
  clear HBn HX1 HX0 HX2
  go_wp2
  refine bodyPost_ret (results_ct rfl _ _ w.heap.size 32 #[.int .i64 1, .int .i64 t, .int .u32 0, .int .u32 0, .int .i64 0] (0, 0) _ rfl ?_ Try.underlying32 rfl (by kernel_rfl)) rfl ⟨rfl, ?_⟩
  · exact blk_set (blk_set (blk_set (blk_set (blk_set HG0.out 0 _) 1 _) 2 _) 3 _) 4 _
  · exact ((((HB.out.setCell (Nat.le_refl _) _).setCell (Nat.le_refl _) _).setCell (Nat.le_refl _) _).setCell (Nat.le_refl _) _).setCell (Nat.le_refl _) _
set_option maxHeartbeats 2000000 in
set_option maxRecDepth 100000 in
theorem Decode_two (A : Option Addr) (c : Nat) (l : List Int) (ad : Addr) (k : Int) (w : World) (h : Args w A c l ad k) (hk : k = 2) (hsz : (l.length : Int) = 19) (t : Int) (ht : t = getV l 1 8) (s : Int) (hs : s = getV l 9 4) (a : Int) (ha : a = getV l 13 4) (b : Int) (hb : b = getV l 17 2) (ht2 : t ≤ 1099511627776) :
    Calls Try.prog 27 #[.slice A l.length c] w fun e w' => e = .returned (.tuple #[.agg #[.int .i64 2, .int .i64 t, .int .u32 s, .int .u32 a, .int .i64 b], .int .i64 0]) ∧ Below w.heap.size w w' := by
  obtain rfl := h.adr
  have hcell := cell_alloc_old h.cell (.cells #[.int .i64 0, .int .i64 0, .int .u32 0, .int .u32 0, .int .i64 0] 32)
  have hp := h.pos
  have hlen : (0 : Int) < (l.length : Int) := by omega
  have hl0 : ((l.length : Int) == 0) = false := beq_eq_false_iff_ne.mpr (by omega)
  have hl1 : ¬ ((l.length : Int) < 19) := by omega
  have hl2 : ¬ ((l.length : Int) > 19) := by omega
  have HL : Aside0 (l.length = 19) := ⟨by omega⟩
  have H := Aside0.mk h
  have HV0 : Aside0 (getV l 0 1 = 2) := ⟨by rw [getV_first h.pos, h.rd0, hk]⟩
  have HZ : Aside0 (sizeOf 2 = 19) := ⟨rfl⟩
  have HV1 := Aside0.mk ht.symm
  have gt0 : 0 ≤ t := by rw [ht]; exact (getV_range h.byt 1 8).1
  have HV2 := Aside0.mk hs.symm
  have gs0 : 0 ≤ s := by rw [hs]; exact (getV_range h.byt 9 4).1
  have gs1 : s ≤ 4294967295 := by have g_ := (getV_range h.byt 9 4).2; rw [← hs] at g_; have g_ : s < (4294967296 : Int) := g_; omega
  have HV3 := Aside0.mk ha.symm
  have ga0 : 0 ≤ a := by rw [ha]; exact (getV_range h.byt 13 4).1
  have ga1 : a ≤ 4294967295 := by have g_ := (getV_range h.byt 13 4).2; rw [← ha] at g_; have g_ : a < (4294967296 : Int) := g_; omega
  have HV4 := Aside0.mk hb.symm
  have gb0 : 0 ≤ b := by rw [hb]; exact (getV_range h.byt 17 2).1
  have gb1 : b ≤ 65535 := by have g_ := (getV_range h.byt 17 2).2; rw [← hb] at g_; have g_ : b < (65536 : Int) := g_; omega
  subst hk
  clear h hsz ht hs ha hb
  go_enter Try.func27, Try.ntmps27
  go_wp2_with (go_at_call 43; refine (size_calls 2 _).mono ?_; rintro e w' ⟨rfl, rfl⟩; rw [HZ.out])
  have HB : Aside0 (Below w.heap.size w ((w.alloc (.cells #[.int .i64 0, .int .i64 0, .int .u32 0, .int .u32 0, .int .i64 0] 32)).alloc (.cells #[.slice (some ad) l.length c, .int .i64 0] 80))) := ⟨((Below.refl _ _).alloc (Nat.le_refl _) _).alloc (by simp) _⟩
  have HG1 : Aside0 (((w.alloc (.cells #[.int .i64 0, .int .i64 0, .int .u32 0, .int .u32 0, .int .i64 0] 32)).alloc (.cells #[.slice (some ad) l.length c, .int .i64 0] 80)).heap[w.heap.size + 1]? = some (rdCells (some ad) l.length c 0)) := ⟨by have h_ := blk_new (w.alloc (.cells #[.int .i64 0, .int .i64 0, .int .u32 0, .int .u32 0, .int .i64 0] 32)) (.cells #[.slice (some ad) l.length c, .int .i64 0] 80); rw [World.size_alloc] at h_; exact h_⟩
  have HG0 : Aside0 (((w.alloc (.cells #[.int .i64 0, .int .i64 0, .int .u32 0, .int .u32 0, .int .i64 0] 32)).alloc (.cells #[.slice (some ad) l.length c, .int .i64 0] 80)).heap[w.heap.size]? = some (.cells #[.int .i64 0, .int .i64 0, .int .u32 0, .int .u32 0, .int .i64 0] 32 (0, 0))) := ⟨blk_alloc (blk_new _ _) _⟩
  refine (take_calls (w.heap.size + 1) (some ad) c l 0 1 w _ HB.out (by omega) HG1.out (Kd.C_below H.out.C HB.out) H.out.cap (by have := HL.out; omega) H.out.byt (by omega)).mono ?_
  rintro e W0 ⟨rfl, h1, h2, h3⟩
  rw [HV0.out]
  clear hcell
  have HB0 := Aside0.mk h3
  have HX1 := Aside0.mk h1
  have HX0 := Aside0.mk (h2.blk HG0.out (by omega) (by simp))
  clear h1 h2 h3 HB HG1 HG0
  have hz2 : w.heap.size + 1 < W0.heap.size := blk_lt HX1.out
  obtain ⟨g2, hg2⟩ : ∃ g2, g2 = W0.heap.size := ⟨_, rfl⟩
  go_wp2_with fail
  have HB : Aside0 (Below w.heap.size w (W0.alloc (.cells #[.int .i64 2, .int .i64 0, .int .u32 0, .int .u32 0, .int .i64 0] 32))) := ⟨HB0.out.alloc HB0.out.size _⟩
  have HG1 : Aside0 ((W0.alloc (.cells #[.int .i64 2, .int .i64 0, .int .u32 0, .int .u32 0, .int .i64 0] 32)).heap[w.heap.size + 1]? = some (rdCells (some ad) l.length c 1)) := ⟨blk_alloc HX1.out _⟩
  have HG0 : Aside0 ((W0.alloc (.cells #[.int .i64 2, .int .i64 0, .int .u32 0, .int .u32 0, .int .i64 0] 32)).heap[w.heap.size]? = some (.cells #[.int .i64 0, .int .i64 0, .int .u32 0, .int .u32 0, .int .i64 0] 32 (0, 0))) := ⟨blk_alloc HX0.out _⟩
  have HG2 : Aside0 ((W0.alloc (.cells #[.int .i64 2, .int .i64 0, .int .u32 0, .int .u32 0, .int .i64 0] 32)).heap[g2]? = some (.cells #[.int .i64 2, .int .i64 0, .int .u32 0, .int .u32 0, .int .i64 0] 32 (0, 0))) := ⟨by rw [hg2]; exact blk_new _ _⟩
  skip
  clear HB0 HX1 HX0
  refine (take_calls (w.heap.size + 1) (some ad) c l 1 8 w _ HB.out (by omega) HG1.out (Kd.C_below H.out.C HB.out) H.out.cap (by have := HL.out; omega) H.out.byt (by omega)).mono ?_
  rintro e W1 ⟨rfl, h1, h2, h3⟩
  rw [HV1.out]
  try rw [← hg2]
  have hz3 : w.heap.size + 1 < g2 := by omega
  clear hz2 hg2
  have HBn := Aside0.mk h3
  have HX1 := Aside0.mk h1
  have HX0 := Aside0.mk (h2.blk HG0.out (by omega) (by simp))
  have HX2 := Aside0.mk (h2.blk HG2.out (by omega) (by simp))
  clear h1 h2 h3 HB HG1 HG0 HG2
  have k0 : W1.cell? ⟨g2, 0, none⟩ = some (.int .i64 2) := blk_cell HX2.out 0
  have f0 : W1.frozen? ⟨g2, 0, none⟩ = false := blk_frozen HX2.out 0
  have k1 : W1.cell? ⟨g2, 1, none⟩ = some (.int .i64 0) := blk_cell HX2.out 1
  have f1 : W1.frozen? ⟨g2, 1, none⟩ = false := blk_frozen HX2.out 1
  have k2 : W1.cell? ⟨g2, 2, none⟩ = some (.int .u32 0) := blk_cell HX2.out 2
  have f2 : W1.frozen? ⟨g2, 2, none⟩ = false := blk_frozen HX2.out 2
  have k3 : W1.cell? ⟨g2, 3, none⟩ = some (.int .u32 0) := blk_cell HX2.out 3
  have f3 : W1.frozen? ⟨g2, 3, none⟩ = false := blk_frozen HX2.out 3
  have k4 : W1.cell? ⟨g2, 4, none⟩ = some (.int .i64 0) := blk_cell HX2.out 4
  have f4 : W1.frozen? ⟨g2, 4, none⟩ = false := blk_frozen HX2.out 4
  have HB : Aside0 (Below w.heap.size w (W1.setCell ⟨g2, 1, none⟩ (.int .i64 t))) := ⟨HBn.out.setCell (by show w.heap.size ≤ g2; omega) _⟩
  have HG1 : Aside0 ((W1.setCell ⟨g2, 1, none⟩ (.int .i64 t)).heap[w.heap.size + 1]? = some (rdCells (some ad) l.length c 9)) := ⟨blk_far HX1.out (by show w.heap.size + 1 ≠ g2; omega) _⟩
  have HG0 : Aside0 ((W1.setCell ⟨g2, 1, none⟩ (.int .i64 t)).heap[w.heap.size]? = some (.cells #[.int .i64 0, .int .i64 0, .int .u32 0, .int .u32 0, .int .i64 0] 32 (0, 0))) := ⟨blk_far HX0.out (by show w.heap.size ≠ g2; omega) _⟩
  have HG2 : Aside0 ((W1.setCell ⟨g2, 1, none⟩ (.int .i64 t)).heap[g2]? = some (.cells #[.int .i64 2, .int .i64 t, .int .u32 0, .int .u32 0, .int .i64 0] 32 (0, 0))) := ⟨blk_set HX2.out 1 _⟩
  clear HBn HX1 HX0 HX2
  go_wp2_with fail
  refine (take_calls (w.heap.size + 1) (some ad) c l 9 4 w _ HB.out (by omega) HG1.out (Kd.C_below H.out.C HB.out) H.out.cap (by have := HL.out; omega) H.out.byt (by omega)).mono ?_
  rintro e W2 ⟨rfl, h1, h2, h3⟩
  rw [HV2.out]
  clear k0 f0 k1 f1 k2 f2 k3 f3 k4 f4
  have HBn := Aside0.mk h3
  have HX1 := Aside0.mk h1
  have HX0 := Aside0.mk (h2.blk HG0.out (by omega) (by simp))
  have HX2 := Aside0.mk (h2.blk HG2.out (by omega) (by simp))
  clear h1 h2 h3 HB HG1 HG0 HG2
  have k0 : W2.cell? ⟨g2, 0, none⟩ = some (.int .i64 2) := blk_cell HX2.out 0
  have f0 : W2.frozen? ⟨g2, 0, none⟩ = false := blk_frozen HX2.out 0
  have k1 : W2.cell? ⟨g2, 1, none⟩ = some (.int .i64 t) := blk_cell HX2.out 1
  have f1 : W2.frozen? ⟨g2, 1, none⟩ = false := blk_frozen HX2.out 1
  have k2 : W2.cell? ⟨g2, 2, none⟩ = some (.int .u32 0) := blk_cell HX2.out 2
  have f2 : W2.frozen? ⟨g2, 2, none⟩ = false := blk_frozen HX2.out 2
  have k3 : W2.cell? ⟨g2, 3, none⟩ = some (.int .u32 0) := blk_cell HX2.out 3
  have f3 : W2.frozen? ⟨g2, 3, none⟩ = false := blk_frozen HX2.out 3
  have k4 : W2.cell? ⟨g2, 4, none⟩ = some (.int .i64 0) := blk_cell HX2.out 4
  have f4 : W2.frozen? ⟨g2, 4, none⟩ = false := blk_frozen HX2.out 4
  have HB : Aside0 (Below w.heap.size w (W2.setCell ⟨g2, 2, none⟩ (.int .u32 s))) := ⟨HBn.out.setCell (by show w.heap.size ≤ g2; omega) _⟩
  have HG1 : Aside0 ((W2.setCell ⟨g2, 2, none⟩ (.int .u32 s)).heap[w.heap.size + 1]? = some (rdCells (some ad) l.length c 13)) := ⟨blk_far HX1.out (by show w.heap.size + 1 ≠ g2; omega) _⟩
  have HG0 : Aside0 ((W2.setCell ⟨g2, 2, none⟩ (.int .u32 s)).heap[w.heap.size]? = some (.cells #[.int .i64 0, .int .i64 0, .int .u32 0, .int .u32 0, .int .i64 0] 32 (0, 0))) := ⟨blk_far HX0.out (by show w.heap.size ≠ g2; omega) _⟩
  have HG2 : Aside0 ((W2.setCell ⟨g2, 2, none⟩ (.int .u32 s)).heap[g2]? = some (.cells #[.int .i64 2, .int .i64 t, .int .u32 s, .int .u32 0, .int .i64 0] 32 (0, 0))) := ⟨blk_set HX2.out 2 _⟩
  clear HBn HX1 HX0 HX2
  go_wp2_with fail
  refine (take_calls (w.heap.size + 1) (some ad) c l 13 4 w _ HB.out (by omega) HG1.out (Kd.C_below H.out.C HB.out) H.out.cap (by have := HL.out; omega) H.out.byt (by omega)).mono ?_
  rintro e W3 ⟨rfl, h1, h2, h3⟩
  rw [HV3.out]
  clear k0 f0 k1 f1 k2 f2 k3 f3 k4 f4
  have HBn := Aside0.mk h3
  have HX1 := Aside0.mk h1
  have HX0 := Aside0.mk (h2.blk HG0.out (by omega) (by simp))
  have HX2 := Aside0.mk (h2.blk HG2.out (by omega) (by simp))
  clear h1 h2 h3 HB HG1 HG0 HG2
  have k0 : W3.cell? ⟨g2, 0, none⟩ = some (.int .i64 2) := blk_cell HX2.out 0
  have f0 : W3.frozen? ⟨g2, 0, none⟩ = false := blk_frozen HX2.out 0
  have k1 : W3.cell? ⟨g2, 1, none⟩ = some (.int .i64 t) := blk_cell HX2.out 1
  have f1 : W3.frozen? ⟨g2, 1, none⟩ = false := blk_frozen HX2.out 1
  have k2 : W3.cell? ⟨g2, 2, none⟩ = some (.int .u32 s) := blk_cell HX2.out 2
  have f2 : W3.frozen? ⟨g2, 2, none⟩ = false := blk_frozen HX2.out 2
  have k3 : W3.cell? ⟨g2, 3, none⟩ = some (.int .u32 0) := blk_cell HX2.out 3
  have f3 : W3.frozen? ⟨g2, 3, none⟩ = false := blk_frozen HX2.out 3
  have k4 : W3.cell? ⟨g2, 4, none⟩ = some (.int .i64 0) := blk_cell HX2.out 4
  have f4 : W3.frozen? ⟨g2, 4, none⟩ = false := blk_frozen HX2.out 4
  have HB : Aside0 (Below w.heap.size w (W3.setCell ⟨g2, 3, none⟩ (.int .u32 a))) := ⟨HBn.out.setCell (by show w.heap.size ≤ g2; omega) _⟩
  have HG1 : Aside0 ((W3.setCell ⟨g2, 3, none⟩ (.int .u32 a)).heap[w.heap.size + 1]? = some (rdCells (some ad) l.length c 17)) := ⟨blk_far HX1.out (by show w.heap.size + 1 ≠ g2; omega) _⟩
  have HG0 : Aside0 ((W3.setCell ⟨g2, 3, none⟩ (.int .u32 a)).heap[w.heap.size]? = some (.cells #[.int .i64 0, .int .i64 0, .int .u32 0, .int .u32 0, .int .i64 0] 32 (0, 0))) := ⟨blk_far HX0.out (by show w.heap.size ≠ g2; omega) _⟩
  have HG2 : Aside0 ((W3.setCell ⟨g2, 3, none⟩ (.int .u32 a)).heap[g2]? = some (.cells #[.int .i64 2, .int .i64 t, .int .u32 s, .int .u32 a, .int .i64 0] 32 (0, 0))) := ⟨blk_set HX2.out 3 _⟩
  clear HBn HX1 HX0 HX2
  go_wp2_with fail
  refine (take_calls (w.heap.size + 1) (some ad) c l 17 2 w _ HB.out (by omega) HG1.out (Kd.C_below H.out.C HB.out) H.out.cap (by have := HL.out; omega) H.out.byt (by omega)).mono ?_
  rintro e W4 ⟨rfl, h1, h2, h3⟩
  rw [HV4.out]
  clear k0 f0 k1 f1 k2 f2 k3 f3 k4 f4
  have HBn := Aside0.mk h3
  have HX1 := Aside0.mk h1
  have HX0 := Aside0.mk (h2.blk HG0.out (by omega) (by simp))
  have HX2 := Aside0.mk (h2.blk HG2.out (by omega) (by simp))
  clear h1 h2 h3 HB HG1 HG0 HG2
  have k0 : W4.cell? ⟨g2, 0, none⟩ = some (.int .i64 2) := blk_cell HX2.out 0
  have f0 : W4.frozen? ⟨g2, 0, none⟩ = false := blk_frozen HX2.out 0
  have k1 : W4.cell? ⟨g2, 1, none⟩ = some (.int .i64 t) := blk_cell HX2.out 1
  have f1 : W4.frozen? ⟨g2, 1, none⟩ = false := blk_frozen HX2.out 1
  have k2 : W4.cell? ⟨g2, 2, none⟩ = some (.int .u32 s) := blk_cell HX2.out 2
  have f2 : W4.frozen? ⟨g2, 2, none⟩ = false := blk_frozen HX2.out 2
  have k3 : W4.cell? ⟨g2, 3, none⟩ = some (.int .u32 a) := blk_cell HX2.out 3
  have f3 : W4.frozen? ⟨g2, 3, none⟩ = false := blk_frozen HX2.out 3
  have k4 : W4.cell? ⟨g2, 4, none⟩ = some (.int .i64 0) := blk_cell HX2.out 4
  have f4 : W4.frozen? ⟨g2, 4, none⟩ = false := blk_frozen HX2.out 4
  have q0 : w.heap.size ≠ g2 := by omega
  have z0 : W4.cell? ⟨w.heap.size, 0, none⟩ = some (.int .i64 0) := blk_cell HX0.out 0
  have z1 : W4.cell? ⟨w.heap.size, 1, none⟩ = some (.int .i64 0) := blk_cell HX0.out 1
  have z2 : W4.cell? ⟨w.heap.size, 2, none⟩ = some (.int .u32 0) := blk_cell HX0.out 2
  have z3 : W4.cell? ⟨w.heap.size, 3, none⟩ = some (.int .u32 0) := blk_cell HX0.out 3
  have z4 : W4.cell? ⟨w.heap.size, 4, none⟩ = some (.int .i64 0) := blk_cell HX0.out 4
  have y0 : W4.frozen? ⟨w.heap.size, 0, none⟩ = false := blk_frozen HX0.out 0
  have y1 : W4.frozen? ⟨w.heap.size, 1, none⟩ = false := blk_frozen HX0.out 1
  have y2 : W4.frozen? ⟨w.heap.size, 2, none⟩ = false := blk_frozen HX0.out 2
  have y3 : W4.frozen? ⟨w.heap.size, 3, none⟩ = false := blk_frozen HX0.out 3
  have y4 : W4.frozen? ⟨w.heap.size, 4, none⟩ = false := blk_frozen HX0.out 4
  have HB : Aside0 (Below w.heap.size w (W4.setCell ⟨g2, 4, none⟩ (.int .i64 b))) := ⟨HBn.out.setCell (by show w.heap.size ≤ g2; omega) _⟩
  have HG1 : Aside0 ((W4.setCell ⟨g2, 4, none⟩ (.int .i64 b)).heap[w.heap.size + 1]? = some (rdCells (some ad) l.length c 19)) := ⟨blk_far HX1.out (by show w.heap.size + 1 ≠ g2; omega) _⟩
  have HG0 : Aside0 ((W4.setCell ⟨g2, 4, none⟩ (.int .i64 b)).heap[w.heap.size]? = some (.cells #[.int .i64 0, .int .i64 0, .int .u32 0, .int .u32 0, .int .i64 0] 32 (0, 0))) := ⟨blk_far HX0.out (by show w.heap.size ≠ g2; omega) _⟩
  have HG2 : Aside0 ((W4.setCell ⟨g2, 4, none⟩ (.int .i64 b)).heap[g2]? = some (.cells #[.int .i64 2, .int .i64 t, .int .u32 s, .int .u32 a, .int .i64 b] 32 (0, 0))) := ⟨blk_set HX2.out 4 _⟩
  clear HBn HX1 HX0 HX2
  go_wp2
  refine bodyPost_ret (results_ct rfl _ _ w.heap.size 32 #[.int .i64 2, .int .i64 t, .int .u32 s, .int .u32 a, .int .i64 b] (0, 0) _ rfl ?_ Try.underlying32 rfl (by kernel_rfl)) rfl ⟨rfl, ?_⟩
  · exact blk_set (blk_set (blk_set (blk_set (blk_set HG0.out 0 _) 1 _) 2 _) 3 _) 4 _
  · exact ((((HB.out.setCell (Nat.le_refl _) _).setCell (Nat.le_refl _) _).setCell (Nat.le_refl _) _).setCell (Nat.le_refl _) _).setCell (Nat.le_refl _) _
set_option maxHeartbeats 2000000 in
set_option maxRecDepth 100000 in
theorem Decode_three (A : Option Addr) (c : Nat) (l : List Int) (ad : Addr) (k : Int) (w : World) (h : Args w A c l ad k) (hk : k = 3) (hsz : (l.length : Int) = 15) (t : Int) (ht : t = getV l 1 8) (a : Int) (ha : a = getV l 9 4) (b : Int) (hb : b = getV l 13 2) (ht2 : t ≤ 1099511627776) :
    Calls Try.prog 27 #[.slice A l.length c] w fun e w' => e = .returned (.tuple #[.agg #[.int .i64 3, .int .i64 t, .int .u32 0, .int .u32 a, .int .i64 b], .int .i64 0]) ∧ Below w.heap.size w w' := by
  obtain rfl := h.adr
  have hcell := cell_alloc_old h.cell (.cells #[.int .i64 0, .int .i64 0, .int .u32 0, .int .u32 0, .int .i64 0] 32)
  have hp := h.pos
  have hlen : (0 : Int) < (l.length : Int) := by omega
  have hl0 : ((l.length : Int) == 0) = false := beq_eq_false_iff_ne.mpr (by omega)
  have hl1 : ¬ ((l.length : Int) < 15) := by omega
  have hl2 : ¬ ((l.length : Int) > 15) := by omega
  have HL : Aside0 (l.length = 15) := ⟨by omega⟩
  have H := Aside0.mk h
  have HV0 : Aside0 (getV l 0 1 = 3) := ⟨by rw [getV_first h.pos, h.rd0, hk]⟩
  have HZ : Aside0 (sizeOf 3 = 15) := ⟨rfl⟩
  have HV1 := Aside0.mk ht.symm
  have gt0 : 0 ≤ t := by rw [ht]; exact (getV_range h.byt 1 8).1
  have HV2 := Aside0.mk ha.symm
  have ga0 : 0 ≤ a := by rw [ha]; exact (getV_range h.byt 9 4).1
  have ga1 : a ≤ 4294967295 := by have g_ := (getV_range h.byt 9 4).2; rw [← ha] at g_; have g_ : a < (4294967296 : Int) := g_; omega
  have HV3 := Aside0.mk hb.symm
  have gb0 : 0 ≤ b := by rw [hb]; exact (getV_range h.byt 13 2).1
  have gb1 : b ≤ 65535 := by have g_ := (getV_range h.byt 13 2).2; rw [← hb] at g_; have g_ : b < (65536 : Int) := g_; omega
  subst hk
  clear h hsz ht ha hb
  go_enter Try.func27, Try.ntmps27
  go_wp2_with (go_at_call 43; refine (size_calls 3 _).mono ?_; rintro e w' ⟨rfl, rfl⟩; rw [HZ.out])
  have HB : Aside0 (Below w.heap.size w ((w.alloc (.cells #[.int .i64 0, .int .i64 0, .int .u32 0, .int .u32 0, .int .i64 0] 32)).alloc (.cells #[.slice (some ad) l.length c, .int .i64 0] 80))) := ⟨((Below.refl _ _).alloc (Nat.le_refl _) _).alloc (by simp) _⟩
  have HG1 : Aside0 (((w.alloc (.cells #[.int .i64 0, .int .i64 0, .int .u32 0, .int .u32 0, .int .i64 0] 32)).alloc (.cells #[.slice (some ad) l.length c, .int .i64 0] 80)).heap[w.heap.size + 1]? = some (rdCells (some ad) l.length c 0)) := ⟨by have h_ := blk_new (w.alloc (.cells #[.int .i64 0, .int .i64 0, .int .u32 0, .int .u32 0, .int .i64 0] 32)) (.cells #[.slice (some ad) l.length c, .int .i64 0] 80); rw [World.size_alloc] at h_; exact h_⟩
  have HG0 : Aside0 (((w.alloc (.cells #[.int .i64 0, .int .i64 0, .int .u32 0, .int .u32 0, .int .i64 0] 32)).alloc (.cells #[.slice (some ad) l.length c, .int .i64 0] 80)).heap[w.heap.size]? = some (.cells #[.int .i64 0, .int .i64 0, .int .u32 0, .int .u32 0, .int .i64 0] 32 (0, 0))) := ⟨blk_alloc (blk_new _ _) _⟩
  refine (take_calls (w.heap.size + 1) (some ad) c l 0 1 w _ HB.out (by omega) HG1.out (Kd.C_below H.out.C HB.out) H.out.cap (by have := HL.out; omega) H.out.byt (by omega)).mono ?_
  rintro e W0 ⟨rfl, h1, h2, h3⟩
  rw [HV0.out]
  clear hcell
  have HB0 := Aside0.mk h3
  have HX1 := Aside0.mk h1
  have HX0 := Aside0.mk (h2.blk HG0.out (by omega) (by simp))
  clear h1 h2 h3 HB HG1 HG0
  have hz2 : w.heap.size + 1 < W0.heap.size := blk_lt HX1.out
  obtain ⟨g2, hg2⟩ : ∃ g2, g2 = W0.heap.size := ⟨_, rfl⟩
  go_wp2_with fail
  have HB : Aside0 (Below w.heap.size w (W0.alloc (.cells #[.int .i64 3, .int .i64 0, .int .u32 0, .int .u32 0, .int .i64 0] 32))) := ⟨HB0.out.alloc HB0.out.size _⟩
  have HG1 : Aside0 ((W0.alloc (.cells #[.int .i64 3, .int .i64 0, .int .u32 0, .int .u32 0, .int .i64 0] 32)).heap[w.heap.size + 1]? = some (rdCells (some ad) l.length c 1)) := ⟨blk_alloc HX1.out _⟩
  have HG0 : Aside0 ((W0.alloc (.cells #[.int .i64 3, .int .i64 0, .int .u32 0, .int .u32 0, .int .i64 0] 32)).heap[w.heap.size]? = some (.cells #[.int .i64 0, .int .i64 0, .int .u32 0, .int .u32 0, .int .i64 0] 32 (0, 0))) := ⟨blk_alloc HX0.out _⟩
  have HG2 : Aside0 ((W0.alloc (.cells #[.int .i64 3, .int .i64 0, .int .u32 0, .int .u32 0, .int .i64 0] 32)).heap[g2]? = some (.cells #[.int .i64 3, .int .i64 0, .int .u32 0, .int .u32 0, .int .i64 0] 32 (0, 0))) := ⟨by rw [hg2]; exact blk_new _ _⟩
  skip
  clear HB0 HX1 HX0
  refine (take_calls (w.heap.size + 1) (some ad) c l 1 8 w _ HB.out (by omega) HG1.out (Kd.C_below H.out.C HB.out) H.out.cap (by have := HL.out; omega) H.out.byt (by omega)).mono ?_
  rintro e W1 ⟨rfl, h1, h2, h3⟩
  rw [HV1.out]
  try rw [← hg2]
  have hz3 : w.heap.size + 1 < g2 := by omega
  clear hz2 hg2
  have HBn := Aside0.mk h3
  have HX1 := Aside0.mk h1
  have HX0 := Aside0.mk (h2.blk HG0.out (by omega) (by simp))
  have HX2 := Aside0.mk (h2.blk HG2.out (by omega) (by simp))
  clear h1 h2 h3 HB HG1 HG0 HG2
  have k0 : W1.cell? ⟨g2, 0, none⟩ = some (.int .i64 3) := blk_cell HX2.out 0
  have f0 : W1.frozen? ⟨g2, 0, none⟩ = false := blk_frozen HX2.out 0
  have k1 : W1.cell? ⟨g2, 1, none⟩ = some (.int .i64 0) := blk_cell HX2.out 1
  have f1 : W1.frozen? ⟨g2, 1, none⟩ = false := blk_frozen HX2.out 1
  have k2 : W1.cell? ⟨g2, 2, none⟩ = some (.int .u32 0) := blk_cell HX2.out 2
  have f2 : W1.frozen? ⟨g2, 2, none⟩ = false := blk_frozen HX2.out 2
  have k3 : W1.cell? ⟨g2, 3, none⟩ = some (.int .u32 0) := blk_cell HX2.out 3
  have f3 : W1.frozen? ⟨g2, 3, none⟩ = false := blk_frozen HX2.out 3
  have k4 : W1.cell? ⟨g2, 4, none⟩ = some (.int .i64 0) := blk_cell HX2.out 4
  have f4 : W1.frozen? ⟨g2, 4, none⟩ = false := blk_frozen HX2.out 4
  have HB : Aside0 (Below w.heap.size w (W1.setCell ⟨g2, 1, none⟩ (.int .i64 t))) := ⟨HBn.out.setCell (by show w.heap.size ≤ g2; omega) _⟩
  have HG1 : Aside0 ((W1.setCell ⟨g2, 1, none⟩ (.int .i64 t)).heap[w.heap.size + 1]? = some (rdCells (some ad) l.length c 9)) := ⟨blk_far HX1.out (by show w.heap.size + 1 ≠ g2; omega) _⟩
  have HG0 : Aside0 ((W1.setCell ⟨g2, 1, none⟩ (.int .i64 t)).heap[w.heap.size]? = some (.cells #[.int .i64 0, .int .i64 0, .int .u32 0, .int .u32 0, .int .i64 0] 32 (0, 0))) := ⟨blk_far HX0.out (by show w.heap.size ≠ g2; omega) _⟩
  have HG2 : Aside0 ((W1.setCell ⟨g2, 1, none⟩ (.int .i64 t)).heap[g2]? = some (.cells #[.int .i64 3, .int .i64 t, .int .u32 0, .int .u32 0, .int .i64 0] 32 (0, 0))) := ⟨blk_set HX2.out 1 _⟩
  clear HBn HX1 HX0 HX2
  go_wp2_with fail
  refine (take_calls (w.heap.size + 1) (some ad) c l 9 4 w _ HB.out (by omega) HG1.out (Kd.C_below H.out.C HB.out) H.out.cap (by have := HL.out; omega) H.out.byt (by omega)).mono ?_
  rintro e W2 ⟨rfl, h1, h2, h3⟩
  rw [HV2.out]
  clear k0 f0 k1 f1 k2 f2 k3 f3 k4 f4
  have HBn := Aside0.mk h3
  have HX1 := Aside0.mk h1
  have HX0 := Aside0.mk (h2.blk HG0.out (by omega) (by simp))
  have HX2 := Aside0.mk (h2.blk HG2.out (by omega) (by simp))
  clear h1 h2 h3 HB HG1 HG0 HG2
  have k0 : W2.cell? ⟨g2, 0, none⟩ = some (.int .i64 3) := blk_cell HX2.out 0
  have f0 : W2.frozen? ⟨g2, 0, none⟩ = false := blk_frozen HX2.out 0
  have k1 : W2.cell? ⟨g2, 1, none⟩ = some (.int .i64 t) := blk_cell HX2.out 1
  have f1 : W2.frozen? ⟨g2, 1, none⟩ = false := blk_frozen HX2.out 1
  have k2 : W2.cell? ⟨g2, 2, none⟩ = some (.int .u32 0) := blk_cell HX2.out 2
  have f2 : W2.frozen? ⟨g2, 2, none⟩ = false := blk_frozen HX2.out 2
  have k3 : W2.cell? ⟨g2, 3, none⟩ = some (.int .u32 0) := blk_cell HX2.out 3
  have f3 : W2.frozen? ⟨g2, 3, none⟩ = false := blk_frozen HX2.out 3
  have k4 : W2.cell? ⟨g2, 4, none⟩ = some (.int .i64 0) := blk_cell HX2.out 4
  have f4 : W2.frozen? ⟨g2, 4, none⟩ = false := blk_frozen HX2.out 4
  have HB : Aside0 (Below w.heap.size w (W2.setCell ⟨g2, 3, none⟩ (.int .u32 a))) := ⟨HBn.out.setCell (by show w.heap.size ≤ g2; omega) _⟩
  have HG1 : Aside0 ((W2.setCell ⟨g2, 3, none⟩ (.int .u32 a)).heap[w.heap.size + 1]? = some (rdCells (some ad) l.length c 13)) := ⟨blk_far HX1.out (by show w.heap.size + 1 ≠ g2; omega) _⟩
  have HG0 : Aside0 ((W2.setCell ⟨g2, 3, none⟩ (.int .u32 a)).heap[w.heap.size]? = some (.cells #[.int .i64 0, .int .i64 0, .int .u32 0, .int .u32 0, .int .i64 0] 32 (0, 0))) := ⟨blk_far HX0.out (by show w.heap.size ≠ g2; omega) _⟩
  have HG2 : Aside0 ((W2.setCell ⟨g2, 3, none⟩ (.int .u32 a)).heap[g2]? = some (.cells #[.int .i64 3, .int .i64 t, .int .u32 0, .int .u32 a, .int .i64 0] 32 (0, 0))) := ⟨blk_set HX2.out 3 _⟩
  clear HBn HX1 HX0 HX2
  go_wp2_with fail
  refine (take_calls (w.heap.size + 1) (some ad) c l 13 2 w _ HB.out (by omega) HG1.out (Kd.C_below H.out.C HB.out) H.out.cap (by have := HL.out; omega) H.out.byt (by omega)).mono ?_
  rintro e W3 ⟨rfl, h1, h2, h3⟩
  rw [HV3.out]
  clear k0 f0 k1 f1 k2 f2 k3 f3 k4 f4
  have HBn := Aside0.mk h3
  have HX1 := Aside0.mk h1
  have HX0 := Aside0.mk (h2.blk HG0.out (by omega) (by simp))
  have HX2 := Aside0.mk (h2.blk HG2.out (by omega) (by simp))
  clear h1 h2 h3 HB HG1 HG0 HG2
  have k0 : W3.cell? ⟨g2, 0, none⟩ = some (.int .i64 3) := blk_cell HX2.out 0
  have f0 : W3.frozen? ⟨g2, 0, none⟩ = false := blk_frozen HX2.out 0
  have k1 : W3.cell? ⟨g2, 1, none⟩ = some (.int .i64 t) := blk_cell HX2.out 1
  have f1 : W3.frozen? ⟨g2, 1, none⟩ = false := blk_frozen HX2.out 1
  have k2 : W3.cell? ⟨g2, 2, none⟩ = some (.int .u32 0) := blk_cell HX2.out 2
  have f2 : W3.frozen? ⟨g2, 2, none⟩ = false := blk_frozen HX2.out 2
  have k3 : W3.cell? ⟨g2, 3, none⟩ = some (.int .u32 a) := blk_cell HX2.out 3
  have f3 : W3.frozen? ⟨g2, 3, none⟩ = false := blk_frozen HX2.out 3
  have k4 : W3.cell? ⟨g2, 4, none⟩ = some (.int .i64 0) := blk_cell HX2.out 4
  have f4 : W3.frozen? ⟨g2, 4, none⟩ = false := blk_frozen HX2.out 4
  have q0 : w.heap.size ≠ g2 := by omega
  have z0 : W3.cell? ⟨w.heap.size, 0, none⟩ = some (.int .i64 0) := blk_cell HX0.out 0
  have z1 : W3.cell? ⟨w.heap.size, 1, none⟩ = some (.int .i64 0) := blk_cell HX0.out 1
  have z2 : W3.cell? ⟨w.heap.size, 2, none⟩ = some (.int .u32 0) := blk_cell HX0.out 2
  have z3 : W3.cell? ⟨w.heap.size, 3, none⟩ = some (.int .u32 0) := blk_cell HX0.out 3
  have z4 : W3.cell? ⟨w.heap.size, 4, none⟩ = some (.int .i64 0) := blk_cell HX0.out 4
  have y0 : W3.frozen? ⟨w.heap.size, 0, none⟩ = false := blk_frozen HX0.out 0
  have y1 : W3.frozen? ⟨w.heap.size, 1, none⟩ = false := blk_frozen HX0.out 1
  have y2 : W3.frozen? ⟨w.heap.size, 2, none⟩ = false := blk_frozen HX0.out 2
  have y3 : W3.frozen? ⟨w.heap.size, 3, none⟩ = false := blk_frozen HX0.out 3
  have y4 : W3.frozen? ⟨w.heap.size, 4, none⟩ = false := blk_frozen HX0.out 4
  have HB : Aside0 (Below w.heap.size w (W3.setCell ⟨g2, 4, none⟩ (.int .i64 b))) := ⟨HBn.out.setCell (by show w.heap.size ≤ g2; omega) _⟩
  have HG1 : Aside0 ((W3.setCell ⟨g2, 4, none⟩ (.int .i64 b)).heap[w.heap.size + 1]? = some (rdCells (some ad) l.length c 15)) := ⟨blk_far HX1.out (by show w.heap.size + 1 ≠ g2; omega) _⟩
  have HG0 : Aside0 ((W3.setCell ⟨g2, 4, none⟩ (.int .i64 b)).heap[w.heap.size]? = some (.cells #[.int .i64 0, .int .i64 0, .int .u32 0, .int .u32 0, .int .i64 0] 32 (0, 0))) := ⟨blk_far HX0.out (by show w.heap.size ≠ g2; omega) _⟩
  have HG2 : Aside0 ((W3.setCell ⟨g2, 4, none⟩ (.int .i64 b)).heap[g2]? = some (.cells #[.int .i64 3, .int .i64 t, .int .u32 0, .int .u32 a, .int .i64 b] 32 (0, 0))) := ⟨blk_set HX2.out 4 _⟩
  clear HBn HX1 HX0 HX2
  go_wp2
  refine bodyPost_ret (results_ct rfl _ _ w.heap.size 32 #[.int .i64 3, .int .i64 t, .int .u32 0, .int .u32 a, .int .i64 b] (0, 0) _ rfl ?_ Try.underlying32 rfl (by kernel_rfl)) rfl ⟨rfl, ?_⟩
  · exact blk_set (blk_set (blk_set (blk_set (blk_set HG0.out 0 _) 1 _) 2 _) 3 _) 4 _
  · exact ((((HB.out.setCell (Nat.le_refl _) _).setCell (Nat.le_refl _) _).setCell (Nat.le_refl _) _).setCell (Nat.le_refl _) _).setCell (Nat.le_refl _) _
end Go.Proofs.Ytinjbfgjfmfibaa.Dec
