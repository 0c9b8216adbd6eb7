/- What entry.Decode answers: of any bytes. -/
import Derived.Test.YtinjbfgjfmfibaaDec3
namespace Go.Proofs.Ytinjbfgjfmfibaa.Dec
open Go.RowKit Go.Proofs.YtinjbfgjfmfibaaW.PrintWords Go.Proofs.YtinjbfgjfmfibaaW.PrintLast Go.Proofs.YtinjbfgjfmfibaaW.PrintMore Go.Proofs.Ytinjbfgjfmfibaa.Oct Go.Proofs.Ytinjbfgjfmfibaa.Bs
set_option linter.unusedVariables false
set_option linter.unusedSimpArgs false

set_option maxHeartbeats 2000000 in
set_option maxRecDepth 100000 in
theorem Decode_late (A : Option Addr) (c : Nat) (l : List Int) (ad : Addr) (k : Int) (w : World) (h : Args w A c l ad k) (z : Int) (hz : z = sizeOf k) (hz0 : z ≠ 0) (hzs : z ≤ 19) (hsz : (l.length : Int) = z) (t : Int) (ht : t = getV l 1 8) (ht2 : 1099511627776 < t) :
    Calls Try.prog 27 #[.slice A l.length c] w fun e w' => e = .returned (.tuple #[(bad 0).agg, .int .i64 1]) ∧ Below w.heap.size w w' := by
  obtain rfl := h.adr
  have hcell := cell_alloc_old h.cell (.cells #[.int .i64 0, .int .i64 0, .int .u32 0, .int .u32 0, .int .i64 0] 32)
  have hp := h.pos
  have hlen : (0 : Int) < (l.length : Int) := by omega
  have hl0 : ((l.length : Int) == 0) = false := beq_eq_false_iff_ne.mpr (by omega)
  have hzb : (z == 0) = false := beq_eq_false_iff_ne.mpr hz0
  have hl1 : ¬ ((l.length : Int) < z) := by omega
  have hl2 : ¬ (z < (l.length : Int)) := by omega
  have HL : Aside0 (l.length ≤ 19) := ⟨by omega⟩
  have H := Aside0.mk h
  have HV0 : Aside0 (getV l 0 1 = k) := ⟨by rw [getV_first h.pos, h.rd0]⟩
  have HZ := Aside0.mk hz
  have HV1 := Aside0.mk ht.symm
  have gt0 : 0 ≤ t := by rw [ht]; exact (getV_range h.byt 1 8).1
  have gk := h.byt.rd 0
  rw [show ((0 : Nat) : Int) = 0 from rfl, h.rd0] at gk
  clear h hsz hz hz0 ht
  go_enter Try.func27, Try.ntmps27
  go_wp2_with (go_at_call 43; refine (size_calls k _).mono ?_; rintro e w' ⟨rfl, rfl⟩; rw [← HZ.out])
  have HB : Aside0 (Below w.heap.size w ((w.alloc (.cells #[.int .i64 0, .int .i64 0, .int .u32 0, .int .u32 0, .int .i64 0] 32)).alloc (.cells #[.slice (some ad) l.length c, .int .i64 0] 80))) := ⟨((Below.refl _ _).alloc (Nat.le_refl _) _).alloc (by simp) _⟩
  have HG1 : Aside0 (((w.alloc (.cells #[.int .i64 0, .int .i64 0, .int .u32 0, .int .u32 0, .int .i64 0] 32)).alloc (.cells #[.slice (some ad) l.length c, .int .i64 0] 80)).heap[w.heap.size + 1]? = some (rdCells (some ad) l.length c 0)) := ⟨by have h_ := blk_new (w.alloc (.cells #[.int .i64 0, .int .i64 0, .int .u32 0, .int .u32 0, .int .i64 0] 32)) (.cells #[.slice (some ad) l.length c, .int .i64 0] 80); rw [World.size_alloc] at h_; exact h_⟩
  have HG0 : Aside0 (((w.alloc (.cells #[.int .i64 0, .int .i64 0, .int .u32 0, .int .u32 0, .int .i64 0] 32)).alloc (.cells #[.slice (some ad) l.length c, .int .i64 0] 80)).heap[w.heap.size]? = some (.cells #[.int .i64 0, .int .i64 0, .int .u32 0, .int .u32 0, .int .i64 0] 32 (0, 0))) := ⟨blk_alloc (blk_new _ _) _⟩
  refine (take_calls (w.heap.size + 1) (some ad) c l 0 1 w _ HB.out (by omega) HG1.out (Kd.C_below H.out.C HB.out) H.out.cap (by have := HL.out; omega) H.out.byt (by omega)).mono ?_
  rintro e W0 ⟨rfl, h1, h2, h3⟩
  rw [HV0.out]
  clear hcell
  have HB0 := Aside0.mk h3
  have HX1 := Aside0.mk h1
  have HX0 := Aside0.mk (h2.blk HG0.out (by omega) (by simp))
  clear h1 h2 h3 HB HG1 HG0
  have hz2 : w.heap.size + 1 < W0.heap.size := blk_lt HX1.out
  go_wp2_with fail
  have HB : Aside0 (Below w.heap.size w (W0.alloc (.cells #[.int .i64 k, .int .i64 0, .int .u32 0, .int .u32 0, .int .i64 0] 32))) := ⟨HB0.out.alloc HB0.out.size _⟩
  have HG1 : Aside0 ((W0.alloc (.cells #[.int .i64 k, .int .i64 0, .int .u32 0, .int .u32 0, .int .i64 0] 32)).heap[w.heap.size + 1]? = some (rdCells (some ad) l.length c 1)) := ⟨blk_alloc HX1.out _⟩
  have HG0 : Aside0 ((W0.alloc (.cells #[.int .i64 k, .int .i64 0, .int .u32 0, .int .u32 0, .int .i64 0] 32)).heap[w.heap.size]? = some (.cells #[.int .i64 0, .int .i64 0, .int .u32 0, .int .u32 0, .int .i64 0] 32 (0, 0))) := ⟨blk_alloc HX0.out _⟩
  clear HB0 HX1 HX0
  refine (take_calls (w.heap.size + 1) (some ad) c l 1 8 w _ HB.out (by omega) HG1.out (Kd.C_below H.out.C HB.out) H.out.cap (by have := HL.out; omega) H.out.byt (by omega)).mono ?_
  rintro e W1 ⟨rfl, h1, h2, h3⟩
  rw [HV1.out]
  have HBn := Aside0.mk h3
  have HX0 := Aside0.mk (h2.blk HG0.out (by omega) (by simp))
  clear h1 h2 h3 HB HG1 HG0
  have z0 : W1.cell? ⟨w.heap.size, 0, none⟩ = some (.int .i64 0) := blk_cell HX0.out 0
  have z1 : W1.cell? ⟨w.heap.size, 1, none⟩ = some (.int .i64 0) := blk_cell HX0.out 1
  have z2 : W1.cell? ⟨w.heap.size, 2, none⟩ = some (.int .u32 0) := blk_cell HX0.out 2
  have z3 : W1.cell? ⟨w.heap.size, 3, none⟩ = some (.int .u32 0) := blk_cell HX0.out 3
  have z4 : W1.cell? ⟨w.heap.size, 4, none⟩ = some (.int .i64 0) := blk_cell HX0.out 4
  have y0 : W1.frozen? ⟨w.heap.size, 0, none⟩ = false := blk_frozen HX0.out 0
  have y1 : W1.frozen? ⟨w.heap.size, 1, none⟩ = false := blk_frozen HX0.out 1
  have y2 : W1.frozen? ⟨w.heap.size, 2, none⟩ = false := blk_frozen HX0.out 2
  have y3 : W1.frozen? ⟨w.heap.size, 3, none⟩ = false := blk_frozen HX0.out 3
  have y4 : W1.frozen? ⟨w.heap.size, 4, none⟩ = false := blk_frozen HX0.out 4
  go_wp2
  refine bodyPost_ret (results_ct rfl _ _ w.heap.size 32 #[.int .i64 0, .int .i64 0, .int .u32 0, .int .u32 0, .int .i64 0] (0, 0) _ rfl ?_ Try.underlying32 rfl (by kernel_rfl)) rfl ⟨rfl, ?_⟩
  · exact blk_set (blk_set (blk_set (blk_set (blk_set HX0.out 0 _) 1 _) 2 _) 3 _) 4 _
  · exact ((((HBn.out.setCell (Nat.le_refl _) _).setCell (Nat.le_refl _) _).setCell (Nat.le_refl _) _).setCell (Nat.le_refl _) _).setCell (Nat.le_refl _) _

theorem sizeOf_cases (k : Int) (h : sizeOf k ≠ 0) : (k = 1 ∧ sizeOf k = 9) ∨ (k = 2 ∧ sizeOf k = 19) ∨ (k = 3 ∧ sizeOf k = 15) := by
  unfold sizeOf at h ⊢
  repeat' split
  all_goals simp_all
theorem Decode_calls (A : Option Addr) (c : Nat) (l : List Int) (w : World) (hC : Kd.C (Kd.int .u8) w A l.length l) (hc : l.length ≤ c) (hm : l.length ≤ 140737488351232) (hl : Byt l) :
    Calls Try.prog 27 #[.slice A l.length c] w fun e w' => e = .returned (.tuple #[(dec l).agg, .int .i64 (dec l).x]) ∧ Below w.heap.size w w' := by
  by_cases h0 : l = []
  · subst h0
    exact Decode_nil A c w
  · have hp : 0 < l.length := List.length_pos_iff.mpr h0
    obtain ⟨ad, k, hA⟩ := Args.of hC hc hm hl hp
    have hd : dec l = if sizeOf k = 0 then bad 4 else if (l.length : Int) < sizeOf k then bad 2 else if (l.length : Int) > sizeOf k then bad 3
        else if getV l 1 8 > 1099511627776 then bad 1 else if k = 1 then ⟨1, getV l 1 8, 0, 0, 0, 0⟩ else if k = 2 then ⟨2, getV l 1 8, getV l 9 4, getV l 13 4, getV l 17 2, 0⟩ else ⟨3, getV l 1 8, 0, getV l 9 4, getV l 13 2, 0⟩ := by
      unfold dec; rw [if_neg h0, hA.rd0]
    by_cases h1 : sizeOf k = 0
    · rw [hd, if_pos h1]
      exact Decode_bad A c l ad k w hA (.inl h1) 4 (by rw [if_pos h1])
    · by_cases h2 : (l.length : Int) = sizeOf k
      · rw [if_neg h1, if_neg (by omega), if_neg (by omega)] at hd
        by_cases h3 : getV l 1 8 > 1099511627776
        · rw [hd, if_pos h3]
          refine Decode_late A c l ad k w hA (sizeOf k) rfl h1 ?_ h2 _ rfl h3
          have := sizeOf_cases k h1; omega
        · rw [if_neg h3] at hd
          rcases sizeOf_cases k h1 with ⟨rfl, h4⟩ | ⟨rfl, h4⟩ | ⟨rfl, h4⟩
          · rw [hd, if_pos rfl]
            exact Decode_one A c l ad 1 w hA rfl (by omega) (getV l 1 8) rfl (by omega)
          · rw [hd, if_neg (by omega), if_pos rfl]
            exact Decode_two A c l ad 2 w hA rfl (by omega) _ rfl _ rfl _ rfl _ rfl (by omega)
          · rw [hd, if_neg (by omega), if_neg (by omega)]
            exact Decode_three A c l ad 3 w hA rfl (by omega) _ rfl _ rfl _ rfl (by omega)
      · by_cases h4 : (l.length : Int) < sizeOf k
        · rw [hd, if_neg h1, if_pos h4]
          exact Decode_bad A c l ad k w hA (.inr h2) 2 (by rw [if_neg h1, if_pos h4])
        · rw [hd, if_neg h1, if_neg h4, if_pos (by omega)]
          exact Decode_bad A c l ad k w hA (.inr h2) 3 (by rw [if_neg h1, if_neg h4])
end Go.Proofs.Ytinjbfgjfmfibaa.Dec
