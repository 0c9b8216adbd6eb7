/- The statement SectorKnown: its walk. -/
import Derived.Test.YtdnjjhdhldgcmaaSec10
namespace Go.Proofs.Ytdnjjhdhldgcmaa.Sec
open Go.RowKit Go.Proofs.YtdnjjhdhldgcmaaW.PrintWords Go.Proofs.YtdnjjhdhldgcmaaW.PrintLast Go.Proofs.YtdnjjhdhldgcmaaW.PrintMore Go.Proofs.Ytdnjjhdhldgcmaa.Bs Go.Proofs.Ytdnjjhdhldgcmaa.Fr
open Go.Proofs.Ytdnjjhdhldgcmaa.PSectorTorn
set_option linter.unusedVariables false
set_option linter.unusedSimpArgs false

def kM3 : DM := ⟨[rep 0, rep 0], [rep 1, rep 0], [((0 : Nat), rep 1)], [], 1⟩
def kM5 : DM := ⟨[rep 0, rep 0], [rep 1, rep 0], [((0 : Nat), rep 1)], [1, 2], 1⟩
def kM6 : DM := ⟨[rep 0, rep 0], [rep 1, rep 0], [((0 : Nat), rep 1)], [2], 2⟩
def kM7 : DM := ⟨[rep 1, rep 0], [rep 1, rep 0], [], [], 3⟩
theorem foot_new {w : World} {g : Nat} {v0 v1 v2 v3 v4 : Value} (hf : ∀ k, own v4 k → w.heap.size ≤ k) {k : Nat} (hk : foot g v0 v1 v2 v4 k) : foot g v0 v1 v2 v3 k ∨ w.heap.size ≤ k := by
  rcases hk with hk | hk | hk | hk | hk
  · exact .inl (.inl hk)
  · exact .inl (.inr (.inl hk))
  · exact .inl (.inr (.inr (.inl hk)))
  · exact .inl (.inr (.inr (.inr (.inl hk))))
  · exact .inr (hf k hk)
theorem foot_sub {w : World} {g : Nat} {v0 v1 v2 v3 v4 : Value} (hf : ∀ k, own v4 k → own v3 k) {k : Nat} (hk : foot g v0 v1 v2 v4 k) : foot g v0 v1 v2 v3 k ∨ w.heap.size ≤ k := by
  rcases hk with hk | hk | hk | hk | hk
  · exact .inl (.inl hk)
  · exact .inl (.inr (.inl hk))
  · exact .inl (.inr (.inr (.inl hk)))
  · exact .inl (.inr (.inr (.inr (.inl hk))))
  · exact .inl (.inr (.inr (.inr (.inr (hf k hk)))))
theorem foot_nil {w : World} {g : Nat} {v0 v1 v2 v3 v4 : Value} (hf : ∀ k, own v4 k → own v3 k) {k : Nat} (hk : foot g v0 v1 (.slice none 0 0) v4 k) : foot g v0 v1 v2 v3 k ∨ w.heap.size ≤ k := by
  rcases hk with hk | hk | hk | hk | hk
  · exact .inl (.inl hk)
  · exact .inl (.inr (.inl hk))
  · exact .inl (.inr (.inr (.inl hk)))
  · simp [own, Value.ownBlock] at hk
  · exact .inl (.inr (.inr (.inr (.inr (hf k hk)))))
theorem blk_same {w : World} {g : Nat} {t : TypeId} {xs : List Int} (hb : w.heap[g]? = some (.cells (encs (Value.int .u8) xs).toArray t (0, 0))) {ys : List Int} (h : xs = ys) : w.heap[g]? = some (.cells (encs (Value.int .u8) ys).toArray t (0, 0)) := h ▸ hb

set_option maxHeartbeats 2000000 in
set_option maxRecDepth 100000 in
theorem known_walk (w : World) : Calls Try.prog 5 #[] w fun e w' => e = .returned (.bool true) ∧ Below w.heap.size w w' := by
  go_enter Try.func5, Try.ntmps5
  go_wp2_with fail
  refine (awake_calls w).mono ?_
  rintro e w0 ⟨rfl, hb0⟩
  have B0 := Aside0.mk hb0
  clear hb0
  go_wp2_with fail
  refine (fresh_calls w0 2 (by decide) (by decide)).mono ?_
  rintro e w1 ⟨g, v0, v1, rfl, hd1, hb1⟩
  have D1 : Aside0 (DV w1 w0.heap.size g v0 v1 (.slice none 0 0) (.slice none 0 0) m2) := ⟨hd1⟩
  have B1 := Aside0.mk (below_step B0.out hb1)
  have HS := Aside0.mk (And.intro B0.out.size hb1.size)
  clear hd1 hb1
  go_wp2_with fail
  refine (ones_calls 1 w1).mono ?_
  rintro e w2 ⟨gb0, cb, rfl, hgb, hr2, hrange, hb2⟩
  have D2 := Aside0.mk (D1.out.below hb2)
  have B2 := Aside0.mk (below_step B1.out hb2)
  have hne : gb0 ≠ g := by have := D1.out.foot_lt g (.inl rfl); omega
  have R2 := Aside0.mk hrange
  have hs2 : w0.heap.size ≤ w2.heap.size := Nat.le_trans HS.out.2 hb2.size
  clear hgb hr2 hrange hb2 D1 B1
  go_wp2_with fail
  refine (Write_done w2 w0.heap.size g v0 v1 (.slice none 0 0) (.slice none 0 0) m2 D2.out (by decide) (by decide) 0 (by decide) gb0 cb (rep 1) (rep_len 1) R2.out (by decide) hs2 hne).mono ?_
  rintro e w3 ⟨rfl, v2, v3, hd3, hf3, _, hv3⟩
  obtain rfl := Q_none hd3.wait (fun k hk => by have := hv3 k hk; simp [own, Value.ownBlock] at this)
  rw [show tell (outc m2) = 0 from rfl]
  have D : Aside0 (DV w3 w0.heap.size g v0 v1 v2 (.slice none 0 0) kM3) := ⟨hd3⟩
  have B := Aside0.mk (below_fr B2.out B2.out.size hf3 (fun k hk => Nat.le_trans HS.out.1 (D2.out.foot_ge k hk)))
  have Z := Aside0.mk (Nat.le_trans hs2 hf3.size)
  clear hd3 hf3 hv3 D2 B2 R2 hne hs2
  have hal := below_alloc (Below.refl w3.heap.size w3) (.cells #[.int .u8 1] 5)
  go_wp2_with fail
  refine (Crash_calls (w3.alloc (.cells #[.int .u8 1] 5)) w0.heap.size g v0 v1 v2 (.slice none 0 0) kM3 (D.out.below hal) (by decide) (some ⟨w3.heap.size, 0, none⟩) 1 [1] (lit_C w3 [1] (by simp)) (by simp) (by decide)).mono ?_
  rintro e w4 ⟨gz, u0, u1, rfl, hdz, hbz⟩
  have hbs : Below w3.heap.size w3 w4 := below_step hal hbz
  have Dz := Aside0.mk hdz
  clear hdz hal hbz
  have D' := Aside0.mk (D.out.below hbs)
  have B' := Aside0.mk (below_step B.out hbs)
  have Z' := Aside0.mk (Nat.le_trans Z.out hbs.size)
  clear D B Z
  have D := D'
  have B := B'
  have Z := Z'
  clear D' B' Z'
  clear hbs
  go_wp2_with fail
  refine (Read_calls w4 _ gz u0 u1 (.slice none 0 0) (.slice none 0 0) _ Dz.out 0 Dz.out.n1).mono ?_
  rintro e w5 ⟨ga, rfl, hgz, hxz, hlz, hbz⟩
  have Xa0 : Aside0 (w5.heap[ga]? = some (.cells (encs (Value.int .u8) (rep 0)).toArray 89 (0, 0))) := ⟨blk_same hxz (by first | rfl | decide)⟩
  have NGa := Aside0.mk (show ∀ k, foot g v0 v1 v2 (.slice none 0 0) k → k ≠ ga from fun k hk => by have := D.out.foot_lt k hk; omega)
  have LTa := Aside0.mk (blk_lt Xa0.out)
  clear hxz hlz hgz Dz
  have D' := Aside0.mk (D.out.below hbz)
  have B' := Aside0.mk (below_step B.out hbz)
  have Z' := Aside0.mk (Nat.le_trans Z.out hbz.size)
  clear D B Z
  have D := D'
  have B := B'
  have Z := Z'
  clear D' B' Z'
  clear hbz
  have Xa := Xa0
  clear Xa0
  have hal := below_alloc (Below.refl w5.heap.size w5) (.cells #[.int .u8 0] 5)
  go_wp2_with fail
  refine (Crash_calls (w5.alloc (.cells #[.int .u8 0] 5)) w0.heap.size g v0 v1 v2 (.slice none 0 0) kM3 (D.out.below hal) (by decide) (some ⟨w5.heap.size, 0, none⟩) 1 [0] (lit_C w5 [0] (by simp)) (by simp) (by decide)).mono ?_
  rintro e w6 ⟨gz, u0, u1, rfl, hdz, hbz⟩
  have hbs : Below w5.heap.size w5 w6 := below_step hal hbz
  have Dz := Aside0.mk hdz
  clear hdz hal hbz
  have D' := Aside0.mk (D.out.below hbs)
  have B' := Aside0.mk (below_step B.out hbs)
  have Z' := Aside0.mk (Nat.le_trans Z.out hbs.size)
  have Xa' := Aside0.mk (blk_below Xa.out hbs)
  clear D B Z Xa
  have D := D'
  have B := B'
  have Z := Z'
  have Xa := Xa'
  clear D' B' Z' Xa'
  clear hbs
  go_wp2_with fail
  refine (Read_calls w6 _ gz u0 u1 (.slice none 0 0) (.slice none 0 0) _ Dz.out 0 Dz.out.n1).mono ?_
  rintro e w7 ⟨gb, rfl, hgz, hxz, hlz, hbz⟩
  have Xb0 : Aside0 (w7.heap[gb]? = some (.cells (encs (Value.int .u8) (rep 1)).toArray 89 (0, 0))) := ⟨blk_same hxz (by first | rfl | decide)⟩
  have NGb := Aside0.mk (show ∀ k, foot g v0 v1 v2 (.slice none 0 0) k → k ≠ gb from fun k hk => by have := D.out.foot_lt k hk; omega)
  have LTb := Aside0.mk (blk_lt Xb0.out)
  clear hxz hlz hgz Dz
  have D' := Aside0.mk (D.out.below hbz)
  have B' := Aside0.mk (below_step B.out hbz)
  have Z' := Aside0.mk (Nat.le_trans Z.out hbz.size)
  have Xa' := Aside0.mk (blk_below Xa.out hbz)
  clear D B Z Xa
  have D := D'
  have B := B'
  have Z := Z'
  have Xa := Xa'
  clear D' B' Z' Xa'
  clear hbz
  have Xb := Xb0
  clear Xb0
  have hal := below_alloc (Below.refl w7.heap.size w7) (.cells #[.int .u8 5] 5)
  go_wp2_with fail
  refine (Crash_calls (w7.alloc (.cells #[.int .u8 5] 5)) w0.heap.size g v0 v1 v2 (.slice none 0 0) kM3 (D.out.below hal) (by decide) (some ⟨w7.heap.size, 0, none⟩) 1 [5] (lit_C w7 [5] (by simp)) (by simp) (by decide)).mono ?_
  rintro e w8 ⟨gz, u0, u1, rfl, hdz, hbz⟩
  have hbs : Below w7.heap.size w7 w8 := below_step hal hbz
  have Dz := Aside0.mk hdz
  clear hdz hal hbz
  have D' := Aside0.mk (D.out.below hbs)
  have B' := Aside0.mk (below_step B.out hbs)
  have Z' := Aside0.mk (Nat.le_trans Z.out hbs.size)
  have Xa' := Aside0.mk (blk_below Xa.out hbs)
  have Xb' := Aside0.mk (blk_below Xb.out hbs)
  clear D B Z Xa Xb
  have D := D'
  have B := B'
  have Z := Z'
  have Xa := Xa'
  have Xb := Xb'
  clear D' B' Z' Xa' Xb'
  clear hbs
  go_wp2_with fail
  refine (Read_calls w8 _ gz u0 u1 (.slice none 0 0) (.slice none 0 0) _ Dz.out 0 Dz.out.n1).mono ?_
  rintro e w9 ⟨gc, rfl, hgz, hxz, hlz, hbz⟩
  have Xc0 : Aside0 (w9.heap[gc]? = some (.cells (encs (Value.int .u8) ([1] ++ List.replicate 63 0)).toArray 89 (0, 0))) := ⟨blk_same hxz (by first | rfl | decide)⟩
  have NGc := Aside0.mk (show ∀ k, foot g v0 v1 v2 (.slice none 0 0) k → k ≠ gc from fun k hk => by have := D.out.foot_lt k hk; omega)
  have LTc := Aside0.mk (blk_lt Xc0.out)
  clear hxz hlz hgz Dz
  have D' := Aside0.mk (D.out.below hbz)
  have B' := Aside0.mk (below_step B.out hbz)
  have Z' := Aside0.mk (Nat.le_trans Z.out hbz.size)
  have Xa' := Aside0.mk (blk_below Xa.out hbz)
  have Xb' := Aside0.mk (blk_below Xb.out hbz)
  clear D B Z Xa Xb
  have D := D'
  have B := B'
  have Z := Z'
  have Xa := Xa'
  have Xb := Xb'
  clear D' B' Z' Xa' Xb'
  clear hbz
  have Xc := Xc0
  clear Xc0
  have hal := below_alloc (Below.refl w9.heap.size w9) (.cells #[.int .u8 1, .int .u8 2] 5)
  go_wp2_with fail
  have hC12 := lit_C w9 [1, 2] (e := 5) (enc := Value.int .u8) (h1 := fun _ => rfl) (by simp)
  have D' := Aside0.mk (D.out.below hal)
  have B' := Aside0.mk (below_step B.out hal)
  have Z' := Aside0.mk (Nat.le_trans Z.out hal.size)
  have Xa' := Aside0.mk (blk_below Xa.out hal)
  have Xb' := Aside0.mk (blk_below Xb.out hal)
  have Xc' := Aside0.mk (blk_below Xc.out hal)
  clear D B Z Xa Xb Xc
  have D := D'
  have B := B'
  have Z := Z'
  have Xa := Xa'
  have Xb := Xb'
  have Xc := Xc'
  clear D' B' Z' Xa' Xb' Xc'
  refine (Outcomes_nil (w9.alloc (.cells #[.int .u8 1, .int .u8 2] 5)) w0.heap.size g v0 v1 v2 kM3 D.out rfl (some ⟨w9.heap.size, 0, none⟩) 2 [1, 2] hC12 (by simp) (by decide) Z.out).mono ?_
  rintro e w10 ⟨rfl, v4, hdz, frz, hfz⟩
  have HF4 := Aside0.mk hfz
  clear hal hC12
  have D' : Aside0 (DV w10 w0.heap.size g v0 v1 v2 v4 kM5) := ⟨hdz⟩
  have B' := Aside0.mk (below_fr B.out B.out.size frz (fun k hk => Nat.le_trans HS.out.1 (D.out.foot_ge k (by rw [hk]; exact .inl rfl))))
  have Z' := Aside0.mk (Nat.le_trans Z.out frz.size)
  have Xa' := Aside0.mk (frz.blk Xa.out (fun hk => NGa.out ga (by rw [hk]; exact .inl rfl) rfl))
  have Xb' := Aside0.mk (frz.blk Xb.out (fun hk => NGb.out gb (by rw [hk]; exact .inl rfl) rfl))
  have Xc' := Aside0.mk (frz.blk Xc.out (fun hk => NGc.out gc (by rw [hk]; exact .inl rfl) rfl))
  have NGa' := Aside0.mk (show ∀ k, foot g v0 v1 v2 v4 k → k ≠ ga from fun k hk => by rcases foot_new (v3 := .slice none 0 0) hfz hk with hk | hk; (exact NGa.out k hk); (have := LTa.out; have := blk_lt Xa.out; omega))
  have NGb' := Aside0.mk (show ∀ k, foot g v0 v1 v2 v4 k → k ≠ gb from fun k hk => by rcases foot_new (v3 := .slice none 0 0) hfz hk with hk | hk; (exact NGb.out k hk); (have := LTb.out; have := blk_lt Xb.out; omega))
  have NGc' := Aside0.mk (show ∀ k, foot g v0 v1 v2 v4 k → k ≠ gc from fun k hk => by rcases foot_new (v3 := .slice none 0 0) hfz hk with hk | hk; (exact NGc.out k hk); (have := LTc.out; have := blk_lt Xc.out; omega))
  clear D B Z Xa Xb Xc NGa NGb NGc
  have D := D'
  have B := B'
  have Z := Z'
  have Xa := Xa'
  have Xb := Xb'
  have Xc := Xc'
  have NGa := NGa'
  have NGb := NGb'
  have NGc := NGc'
  clear D' B' Z' Xa' Xb' Xc' NGa' NGb' NGc'
  clear hdz frz hfz HF4
  go_wp2_with fail
  refine (ones_calls 1 w10).mono ?_
  rintro e w11 ⟨gb1, cb1, rfl, hgb, hr2, hrange, hbz⟩
  have D' := Aside0.mk (D.out.below hbz)
  have B' := Aside0.mk (below_step B.out hbz)
  have Z' := Aside0.mk (Nat.le_trans Z.out hbz.size)
  have Xa' := Aside0.mk (blk_below Xa.out hbz)
  have Xb' := Aside0.mk (blk_below Xb.out hbz)
  have Xc' := Aside0.mk (blk_below Xc.out hbz)
  clear D B Z Xa Xb Xc
  have D := D'
  have B := B'
  have Z := Z'
  have Xa := Xa'
  have Xb := Xb'
  have Xc := Xc'
  clear D' B' Z' Xa' Xb' Xc'
  clear hgb hr2 hrange hbz
  go_wp2_with fail
  refine (Write_lost w11 w0.heap.size g v0 v1 v2 v4 kM5 D.out (by decide) 1 (by decide) _ cb1 (by decide)).mono ?_
  rintro e w12 ⟨rfl, v5, hdz, frz, hfz⟩
  have D' : Aside0 (DV w12 w0.heap.size g v0 v1 v2 v5 kM6) := ⟨hdz⟩
  have B' := Aside0.mk (below_fr B.out B.out.size frz (fun k hk => Nat.le_trans HS.out.1 (D.out.foot_ge k (hk))))
  have Z' := Aside0.mk (Nat.le_trans Z.out frz.size)
  have Xa' := Aside0.mk (frz.blk Xa.out (fun hk => NGa.out ga (hk) rfl))
  have Xb' := Aside0.mk (frz.blk Xb.out (fun hk => NGb.out gb (hk) rfl))
  have Xc' := Aside0.mk (frz.blk Xc.out (fun hk => NGc.out gc (hk) rfl))
  have NGa' := Aside0.mk (show ∀ k, foot g v0 v1 v2 v5 k → k ≠ ga from fun k hk => by rcases foot_sub (w := w11) hfz hk with hk | hk; (exact NGa.out k hk); (have := LTa.out; have := blk_lt Xa.out; omega))
  have NGb' := Aside0.mk (show ∀ k, foot g v0 v1 v2 v5 k → k ≠ gb from fun k hk => by rcases foot_sub (w := w11) hfz hk with hk | hk; (exact NGb.out k hk); (have := LTb.out; have := blk_lt Xb.out; omega))
  have NGc' := Aside0.mk (show ∀ k, foot g v0 v1 v2 v5 k → k ≠ gc from fun k hk => by rcases foot_sub (w := w11) hfz hk with hk | hk; (exact NGc.out k hk); (have := LTc.out; have := blk_lt Xc.out; omega))
  clear D B Z Xa Xb Xc NGa NGb NGc
  have D := D'
  have B := B'
  have Z := Z'
  have Xa := Xa'
  have Xb := Xb'
  have Xc := Xc'
  have NGa := NGa'
  have NGb := NGb'
  have NGc := NGc'
  clear D' B' Z' Xa' Xb' Xc' NGa' NGb' NGc'
  clear hdz frz hfz
  go_wp2_with fail
  refine (Sync_done w12 w0.heap.size g v0 v1 v2 v5 kM6 D.out (by decide) (by decide) (by decide) Z.out).mono ?_
  rintro e w13 ⟨rfl, v6, hdz, frz, hfz⟩
  rw [show tell (outc kM6) = 8 from rfl]
  have D' : Aside0 (DV w13 w0.heap.size g v0 v1 (.slice none 0 0) v6 kM7) := ⟨hdz⟩
  have B' := Aside0.mk (below_fr B.out B.out.size frz (fun k hk => Nat.le_trans HS.out.1 (D.out.foot_ge k (hk))))
  have Z' := Aside0.mk (Nat.le_trans Z.out frz.size)
  have Xa' := Aside0.mk (frz.blk Xa.out (fun hk => NGa.out ga (hk) rfl))
  have Xb' := Aside0.mk (frz.blk Xb.out (fun hk => NGb.out gb (hk) rfl))
  have Xc' := Aside0.mk (frz.blk Xc.out (fun hk => NGc.out gc (hk) rfl))
  have NGa' := Aside0.mk (show ∀ k, foot g v0 v1 (.slice none 0 0) v6 k → k ≠ ga from fun k hk => by rcases foot_nil (w := w12) (v2 := v2) hfz hk with hk | hk; (exact NGa.out k hk); (have := LTa.out; have := blk_lt Xa.out; omega))
  have NGb' := Aside0.mk (show ∀ k, foot g v0 v1 (.slice none 0 0) v6 k → k ≠ gb from fun k hk => by rcases foot_nil (w := w12) (v2 := v2) hfz hk with hk | hk; (exact NGb.out k hk); (have := LTb.out; have := blk_lt Xb.out; omega))
  have NGc' := Aside0.mk (show ∀ k, foot g v0 v1 (.slice none 0 0) v6 k → k ≠ gc from fun k hk => by rcases foot_nil (w := w12) (v2 := v2) hfz hk with hk | hk; (exact NGc.out k hk); (have := LTc.out; have := blk_lt Xc.out; omega))
  clear D B Z Xa Xb Xc NGa NGb NGc
  have D := D'
  have B := B'
  have Z := Z'
  have Xa := Xa'
  have Xb := Xb'
  have Xc := Xc'
  have NGa := NGa'
  have NGb := NGb'
  have NGc := NGc'
  clear D' B' Z' Xa' Xb' Xc' NGa' NGb' NGc'
  clear hdz frz hfz
  go_wp2_with fail
  refine (Read_calls w13 w0.heap.size g v0 v1 (.slice none 0 0) v6 kM7 D.out 1 (by decide)).mono ?_
  rintro e w14 ⟨gx, rfl, hgz, hxz, hlz, hbz⟩
  have Xx0 : Aside0 (w14.heap[gx]? = some (.cells (encs (Value.int .u8) (rep 0)).toArray 89 (0, 0))) := ⟨blk_same hxz (by first | rfl | decide)⟩
  clear hxz hlz hgz
  have D' := Aside0.mk (D.out.below hbz)
  have B' := Aside0.mk (below_step B.out hbz)
  have Z' := Aside0.mk (Nat.le_trans Z.out hbz.size)
  have Xa' := Aside0.mk (blk_below Xa.out hbz)
  have Xb' := Aside0.mk (blk_below Xb.out hbz)
  have Xc' := Aside0.mk (blk_below Xc.out hbz)
  clear D B Z Xa Xb Xc
  have D := D'
  have B := B'
  have Z := Z'
  have Xa := Xa'
  have Xb := Xb'
  have Xc := Xc'
  clear D' B' Z' Xa' Xb' Xc'
  clear hbz
  have Xx := Xx0
  clear Xx0
  have hal := below_alloc (Below.refl w14.heap.size w14) (.cells #[.int .u8 1] 5)
  go_wp2_with fail
  refine (Crash_calls (w14.alloc (.cells #[.int .u8 1] 5)) w0.heap.size g v0 v1 (.slice none 0 0) v6 kM7 (D.out.below hal) (by decide) (some ⟨w14.heap.size, 0, none⟩) 1 [1] (lit_C w14 [1] (by simp)) (by simp) (by decide)).mono ?_
  rintro e w15 ⟨gz, u0, u1, rfl, hdz, hbz⟩
  have hbs : Below w14.heap.size w14 w15 := below_step hal hbz
  have Dz := Aside0.mk hdz
  clear hdz hal hbz
  have D' := Aside0.mk (D.out.below hbs)
  have B' := Aside0.mk (below_step B.out hbs)
  have Z' := Aside0.mk (Nat.le_trans Z.out hbs.size)
  have Xa' := Aside0.mk (blk_below Xa.out hbs)
  have Xb' := Aside0.mk (blk_below Xb.out hbs)
  have Xc' := Aside0.mk (blk_below Xc.out hbs)
  have Xx' := Aside0.mk (blk_below Xx.out hbs)
  clear D B Z Xa Xb Xc Xx
  have D := D'
  have B := B'
  have Z := Z'
  have Xa := Xa'
  have Xb := Xb'
  have Xc := Xc'
  have Xx := Xx'
  clear D' B' Z' Xa' Xb' Xc' Xx'
  clear hbs
  go_wp2_with fail
  refine (Read_calls w15 _ gz u0 u1 (.slice none 0 0) (.slice none 0 0) _ Dz.out 0 Dz.out.n1).mono ?_
  rintro e w16 ⟨gy, rfl, hgz, hxz, hlz, hbz⟩
  have Xy0 : Aside0 (w16.heap[gy]? = some (.cells (encs (Value.int .u8) (rep 1)).toArray 89 (0, 0))) := ⟨blk_same hxz (by first | rfl | decide)⟩
  clear hxz hlz hgz Dz
  have D' := Aside0.mk (D.out.below hbz)
  have B' := Aside0.mk (below_step B.out hbz)
  have Z' := Aside0.mk (Nat.le_trans Z.out hbz.size)
  have Xa' := Aside0.mk (blk_below Xa.out hbz)
  have Xb' := Aside0.mk (blk_below Xb.out hbz)
  have Xc' := Aside0.mk (blk_below Xc.out hbz)
  have Xx' := Aside0.mk (blk_below Xx.out hbz)
  clear D B Z Xa Xb Xc Xx
  have D := D'
  have B := B'
  have Z := Z'
  have Xa := Xa'
  have Xb := Xb'
  have Xc := Xc'
  have Xx := Xx'
  clear D' B' Z' Xa' Xb' Xc' Xx'
  clear hbz
  have Xy := Xy0
  clear Xy0
  go_wp2_with fail
  refine (New_bad w16).mono ?_
  rintro e wn ⟨rfl, rfl⟩
  go_wp2_with fail
  refine (ones_calls 0 w16).mono ?_
  rintro e w17 ⟨gq, cq, rfl, _, hrq, _, hbz⟩
  have D' := Aside0.mk (D.out.below hbz)
  have B' := Aside0.mk (below_step B.out hbz)
  have Z' := Aside0.mk (Nat.le_trans Z.out hbz.size)
  have Xa' := Aside0.mk (blk_below Xa.out hbz)
  have Xb' := Aside0.mk (blk_below Xb.out hbz)
  have Xc' := Aside0.mk (blk_below Xc.out hbz)
  have Xx' := Aside0.mk (blk_below Xx.out hbz)
  have Xy' := Aside0.mk (blk_below Xy.out hbz)
  clear D B Z Xa Xb Xc Xx Xy
  have D := D'
  have B := B'
  have Z := Z'
  have Xa := Xa'
  have Xb := Xb'
  have Xc := Xc'
  have Xx := Xx'
  have Xy := Xy'
  clear D' B' Z' Xa' Xb' Xc' Xx' Xy'
  have Cq := Aside0.mk (Kd.R_reads' hrq)
  clear hrq hbz
  go_wp2_with fail
  refine (same_calls w17 _ _ 64 cq (rep 0) (rep_len 0) (C_blk Xa.out (rep_len 0)) (Nat.le_refl _) (by have h_ := Cq.out.2.2; rw [rep_len] at h_; exact h_) Cq.out.2.1).mono ?_
  rintro e w18 ⟨rfl, hbz⟩
  clear Cq
  have D' := Aside0.mk (D.out.below hbz)
  have B' := Aside0.mk (below_step B.out hbz)
  have Z' := Aside0.mk (Nat.le_trans Z.out hbz.size)
  have Xa' := Aside0.mk (blk_below Xa.out hbz)
  have Xb' := Aside0.mk (blk_below Xb.out hbz)
  have Xc' := Aside0.mk (blk_below Xc.out hbz)
  have Xx' := Aside0.mk (blk_below Xx.out hbz)
  have Xy' := Aside0.mk (blk_below Xy.out hbz)
  clear D B Z Xa Xb Xc Xx Xy
  have D := D'
  have B := B'
  have Z := Z'
  have Xa := Xa'
  have Xb := Xb'
  have Xc := Xc'
  have Xx := Xx'
  have Xy := Xy'
  clear D' B' Z' Xa' Xb' Xc' Xx' Xy'
  clear hbz
  go_wp2_with fail
  refine (ones_calls 1 w18).mono ?_
  rintro e w19 ⟨gq, cq, rfl, _, hrq, _, hbz⟩
  have D' := Aside0.mk (D.out.below hbz)
  have B' := Aside0.mk (below_step B.out hbz)
  have Z' := Aside0.mk (Nat.le_trans Z.out hbz.size)
  have Xa' := Aside0.mk (blk_below Xa.out hbz)
  have Xb' := Aside0.mk (blk_below Xb.out hbz)
  have Xc' := Aside0.mk (blk_below Xc.out hbz)
  have Xx' := Aside0.mk (blk_below Xx.out hbz)
  have Xy' := Aside0.mk (blk_below Xy.out hbz)
  clear D B Z Xa Xb Xc Xx Xy
  have D := D'
  have B := B'
  have Z := Z'
  have Xa := Xa'
  have Xb := Xb'
  have Xc := Xc'
  have Xx := Xx'
  have Xy := Xy'
  clear D' B' Z' Xa' Xb' Xc' Xx' Xy'
  have Cq := Aside0.mk (Kd.R_reads' hrq)
  clear hrq hbz
  go_wp2_with fail
  refine (same_calls w19 _ _ 64 cq (rep 1) (rep_len 1) (C_blk Xb.out (rep_len 1)) (Nat.le_refl _) (by have h_ := Cq.out.2.2; rw [rep_len] at h_; exact h_) Cq.out.2.1).mono ?_
  rintro e w20 ⟨rfl, hbz⟩
  clear Cq
  have D' := Aside0.mk (D.out.below hbz)
  have B' := Aside0.mk (below_step B.out hbz)
  have Z' := Aside0.mk (Nat.le_trans Z.out hbz.size)
  have Xa' := Aside0.mk (blk_below Xa.out hbz)
  have Xb' := Aside0.mk (blk_below Xb.out hbz)
  have Xc' := Aside0.mk (blk_below Xc.out hbz)
  have Xx' := Aside0.mk (blk_below Xx.out hbz)
  have Xy' := Aside0.mk (blk_below Xy.out hbz)
  clear D B Z Xa Xb Xc Xx Xy
  have D := D'
  have B := B'
  have Z := Z'
  have Xa := Xa'
  have Xb := Xb'
  have Xc := Xc'
  have Xx := Xx'
  have Xy := Xy'
  clear D' B' Z' Xa' Xb' Xc' Xx' Xy'
  clear hbz
  have kc0 : w20.cell? ⟨gc, 0, none⟩ = some (.int .u8 1) := elem_cell Xc.out 0 (by decide)
  have kc1 : w20.cell? ⟨gc, 1, none⟩ = some (.int .u8 0) := elem_cell Xc.out 1 (by decide)
  go_wp2_with fail
  refine (ones_calls 0 w20).mono ?_
  rintro e w21 ⟨gq, cq, rfl, _, hrq, _, hbz⟩
  have D' := Aside0.mk (D.out.below hbz)
  have B' := Aside0.mk (below_step B.out hbz)
  have Z' := Aside0.mk (Nat.le_trans Z.out hbz.size)
  have Xa' := Aside0.mk (blk_below Xa.out hbz)
  have Xb' := Aside0.mk (blk_below Xb.out hbz)
  have Xc' := Aside0.mk (blk_below Xc.out hbz)
  have Xx' := Aside0.mk (blk_below Xx.out hbz)
  have Xy' := Aside0.mk (blk_below Xy.out hbz)
  clear D B Z Xa Xb Xc Xx Xy
  have D := D'
  have B := B'
  have Z := Z'
  have Xa := Xa'
  have Xb := Xb'
  have Xc := Xc'
  have Xx := Xx'
  have Xy := Xy'
  clear D' B' Z' Xa' Xb' Xc' Xx' Xy'
  have Cq := Aside0.mk (Kd.R_reads' hrq)
  clear hrq hbz
  go_wp2_with fail
  refine (same_calls w21 _ _ 64 cq (rep 0) (rep_len 0) (C_blk Xx.out (rep_len 0)) (Nat.le_refl _) (by have h_ := Cq.out.2.2; rw [rep_len] at h_; exact h_) Cq.out.2.1).mono ?_
  rintro e w22 ⟨rfl, hbz⟩
  clear Cq
  have D' := Aside0.mk (D.out.below hbz)
  have B' := Aside0.mk (below_step B.out hbz)
  have Z' := Aside0.mk (Nat.le_trans Z.out hbz.size)
  have Xa' := Aside0.mk (blk_below Xa.out hbz)
  have Xb' := Aside0.mk (blk_below Xb.out hbz)
  have Xc' := Aside0.mk (blk_below Xc.out hbz)
  have Xx' := Aside0.mk (blk_below Xx.out hbz)
  have Xy' := Aside0.mk (blk_below Xy.out hbz)
  clear D B Z Xa Xb Xc Xx Xy
  have D := D'
  have B := B'
  have Z := Z'
  have Xa := Xa'
  have Xb := Xb'
  have Xc := Xc'
  have Xx := Xx'
  have Xy := Xy'
  clear D' B' Z' Xa' Xb' Xc' Xx' Xy'
  clear hbz
  go_wp2_with fail
  refine (ones_calls 1 w22).mono ?_
  rintro e w23 ⟨gq, cq, rfl, _, hrq, _, hbz⟩
  have D' := Aside0.mk (D.out.below hbz)
  have B' := Aside0.mk (below_step B.out hbz)
  have Z' := Aside0.mk (Nat.le_trans Z.out hbz.size)
  have Xa' := Aside0.mk (blk_below Xa.out hbz)
  have Xb' := Aside0.mk (blk_below Xb.out hbz)
  have Xc' := Aside0.mk (blk_below Xc.out hbz)
  have Xx' := Aside0.mk (blk_below Xx.out hbz)
  have Xy' := Aside0.mk (blk_below Xy.out hbz)
  clear D B Z Xa Xb Xc Xx Xy
  have D := D'
  have B := B'
  have Z := Z'
  have Xa := Xa'
  have Xb := Xb'
  have Xc := Xc'
  have Xx := Xx'
  have Xy := Xy'
  clear D' B' Z' Xa' Xb' Xc' Xx' Xy'
  have Cq := Aside0.mk (Kd.R_reads' hrq)
  clear hrq hbz
  go_wp2_with fail
  refine (same_calls w23 _ _ 64 cq (rep 1) (rep_len 1) (C_blk Xy.out (rep_len 1)) (Nat.le_refl _) (by have h_ := Cq.out.2.2; rw [rep_len] at h_; exact h_) Cq.out.2.1).mono ?_
  rintro e w24 ⟨rfl, hbz⟩
  clear Cq
  have D' := Aside0.mk (D.out.below hbz)
  have B' := Aside0.mk (below_step B.out hbz)
  have Z' := Aside0.mk (Nat.le_trans Z.out hbz.size)
  have Xa' := Aside0.mk (blk_below Xa.out hbz)
  have Xb' := Aside0.mk (blk_below Xb.out hbz)
  have Xc' := Aside0.mk (blk_below Xc.out hbz)
  have Xx' := Aside0.mk (blk_below Xx.out hbz)
  have Xy' := Aside0.mk (blk_below Xy.out hbz)
  clear D B Z Xa Xb Xc Xx Xy
  have D := D'
  have B := B'
  have Z := Z'
  have Xa := Xa'
  have Xb := Xb'
  have Xc := Xc'
  have Xx := Xx'
  have Xy := Xy'
  clear D' B' Z' Xa' Xb' Xc' Xx' Xy'
  clear hbz
  go_wp2
  go_ret
  exact ⟨rfl, B.out⟩
end Go.Proofs.Ytdnjjhdhldgcmaa.Sec
