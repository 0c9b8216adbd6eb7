/- The statements EntryKnown, EntryDecodes, EntryBack, EntryAgain: their walks. -/
import Derived.Test.YtinjbfgjfmfibaaEntP
namespace Go.Proofs.Ytinjbfgjfmfibaa.Ent
open Go.RowKit Go.Proofs.YtinjbfgjfmfibaaW.PrintWords Go.Proofs.YtinjbfgjfmfibaaW.PrintLast Go.Proofs.YtinjbfgjfmfibaaW.PrintMore Go.Proofs.Ytinjbfgjfmfibaa.Oct Go.Proofs.Ytinjbfgjfmfibaa.Bs Go.Proofs.Ytinjbfgjfmfibaa.Dec
open Go.Proofs.Ytinjbfgjfmfibaa.Enc (awake_calls Encode_calls encR chk same_f encR_le)
set_option linter.unusedVariables false
set_option linter.unusedSimpArgs false

theorem C_nil (w : World) : Kd.C (Kd.int .u8) w none ([] : List Int).length [] := by
  have := Kd.R_nil (Kd.int .u8) 5 w 0 (fun _ => True)
  exact (R_same this).2.2
set_option maxHeartbeats 1000000 in
set_option maxRecDepth 100000 in
theorem known_walk (w : World) : Calls Try.prog 6 #[] w fun e w' => e = .returned (.bool true) ∧ Below w.heap.size w w' := by
  have d1 : Aside0 (dec [] = bad 2) := ⟨rfl⟩
  have d2 : Aside0 (dec [9] = bad 4) := ⟨by simp [dec, Dec.sizeOf, rd]⟩
  have d3 : Aside0 (dec [3, 0, 0, 0, 0, 0, 0, 0, 0] = bad 2) := ⟨by simp [dec, Dec.sizeOf, rd]⟩
  go_enter Try.func6, Try.ntmps6
  go_wp2_with (go_at_call 21; refine (awake_calls _).mono ?_; rintro e w1 ⟨rfl, hb⟩; have HB := Aside0.mk hb; clear hb)
  refine (Decode_calls none 0 [] _ (C_nil _) (Nat.le_refl _) (by decide) (fun x hx => by cases hx)).mono ?_
  rintro e w2 ⟨rfl, hb⟩
  rw [d1.out]
  have HB2 := Aside0.mk (below_step HB.out hb)
  clear hb HB
  unfold bad Ent.agg
  go_wp2_with fail
  have L2 := lit_C (enc := Value.int .u8) (h1 := fun _ => rfl) (e := 5) (w2.alloc (.cells #[.int .i64 0, .int .i64 0, .int .u32 0, .int .u32 0, .int .i64 0] 32)) [9] (by decide)
  rw [World.size_alloc] at L2
  refine (Decode_calls _ 1 [9] _ L2 (Nat.le_refl _) (by decide) (fun x hx => by simp at hx; omega)).mono ?_
  rintro e w3 ⟨rfl, hb⟩
  rw [d2.out]
  have HB3 := Aside0.mk (below_step (below_alloc (below_alloc HB2.out _) _) hb)
  clear hb HB2 L2
  unfold bad Ent.agg
  go_wp2_with fail
  have L3 := lit_C (enc := Value.int .u8) (h1 := fun _ => rfl) (e := 5) (w3.alloc (.cells #[.int .i64 0, .int .i64 0, .int .u32 0, .int .u32 0, .int .i64 0] 32)) [3, 0, 0, 0, 0, 0, 0, 0, 0] (by decide)
  rw [World.size_alloc] at L3
  refine (Decode_calls _ 9 [3, 0, 0, 0, 0, 0, 0, 0, 0] _ L3 (Nat.le_refl _) (by decide) (fun x hx => by simp at hx; omega)).mono ?_
  rintro e w4 ⟨rfl, hb⟩
  rw [d3.out]
  have HB4 := Aside0.mk (below_alloc (below_step (below_alloc (below_alloc HB3.out _) _) hb) (.cells #[.int .i64 0, .int .i64 0, .int .u32 0, .int .u32 0, .int .i64 0] 32))
  clear hb HB3 L3
  unfold bad Ent.agg
  go_wp2
  go_ret
  exact ⟨rfl, HB4.out⟩

/-- A row of bytes that came in: what the statements' walks are told of it. -/
theorem byt_of {l : List Int} (h : ∀ x ∈ l, (Lit.int .u8 x).wf = true) : Byt l := fun x hx => by
  have h := h x hx
  simp only [Lit.wf, Bool.and_eq_true, decide_eq_true_eq] at h
  exact ⟨h.1, h.2⟩

set_option maxHeartbeats 1000000 in
set_option maxRecDepth 100000 in
theorem decodes_walk (w : World) (A : Option Addr) (c : Nat) (l : List Int) (hC : Kd.C (Kd.int .u8) w A l.length l) (hc : l.length ≤ c) (hm : l.length * 1 ≤ 140737488351232) (hw : ∀ x ∈ l, (Lit.int .u8 x).wf = true) :
    Calls Try.prog 7 #[.slice A l.length c] w fun e w' => e = .returned (.bool true) ∧ Below w.heap.size w w' := by
  have hl := byt_of hw
  have H := Aside0.mk (And.intro hC (And.intro hc (And.intro (show l.length ≤ 140737488351232 by omega) hl)))
  clear hC hc hm hw hl
  generalize hd : dec l = d at *
  have HD := Aside0.mk hd
  clear hd
  go_enter Try.func7, Try.ntmps7
  go_wp2_with (go_at_call 21; refine (awake_calls _).mono ?_; rintro e w1 ⟨rfl, hb⟩; have HB := Aside0.mk hb; clear hb)
  refine (Decode_calls A c l _ (Kd.C_below H.out.1 HB.out) H.out.2.1 H.out.2.2.1 H.out.2.2.2).mono ?_
  rintro e w2 ⟨rfl, hb⟩
  rw [HD.out]
  have HB2 := Aside0.mk (below_step HB.out hb)
  clear hb HB
  unfold Ent.agg
  go_wp2_with fail
  have HX1 : Aside0 ((w2.alloc (.cells #[.int .i64 d.k, .int .i64 d.t, .int .u32 d.s, .int .u32 d.a, .int .i64 d.b] 32)).heap[w2.heap.size]? = some (.cells #[.int .i64 d.k, .int .i64 d.t, .int .u32 d.s, .int .u32 d.a, .int .i64 d.b] 32 (0, 0))) := ⟨blk_new _ _⟩
  refine (refDecode_calls A c l _ (Kd.C_below H.out.1 (below_alloc HB2.out _)) H.out.2.1 H.out.2.2.1 H.out.2.2.2).mono ?_
  rintro e w3 ⟨rfl, hb⟩
  rw [HD.out]
  have HB3 := Aside0.mk (below_alloc (below_step (below_alloc HB2.out _) hb) (.cells #[.int .i64 d.k, .int .i64 d.t, .int .u32 d.s, .int .u32 d.a, .int .i64 d.b] 32))
  have hx := blk_below HX1.out hb
  have c0 : w3.cell? ⟨w2.heap.size, 0, none⟩ = some (.int .i64 d.k) := blk_cell hx 0
  have c1 : w3.cell? ⟨w2.heap.size, 1, none⟩ = some (.int .i64 d.t) := blk_cell hx 1
  have c2 : w3.cell? ⟨w2.heap.size, 2, none⟩ = some (.int .u32 d.s) := blk_cell hx 2
  have c3 : w3.cell? ⟨w2.heap.size, 3, none⟩ = some (.int .u32 d.a) := blk_cell hx 3
  have c4 : w3.cell? ⟨w2.heap.size, 4, none⟩ = some (.int .i64 d.b) := blk_cell hx 4
  have hlt : w2.heap.size < w3.heap.size := blk_lt hx
  clear hb HB2 hx HX1
  unfold Ent.agg
  go_wp2
  go_ret
  exact ⟨rfl, HB3.out⟩
end Go.Proofs.Ytinjbfgjfmfibaa.Ent
