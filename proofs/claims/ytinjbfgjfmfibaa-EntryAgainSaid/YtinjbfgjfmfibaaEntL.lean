/- The statements EntryBack and EntryAgain: their walks. -/
import Derived.Test.YtinjbfgjfmfibaaEntK
import Derived.Test.YtinjbfgjfmfibaaCpy
namespace Go.Proofs.Ytinjbfgjfmfibaa.Ent
open Go.RowKit Go.Proofs.YtinjbfgjfmfibaaW.PrintWords Go.Proofs.YtinjbfgjfmfibaaW.PrintLast Go.Proofs.YtinjbfgjfmfibaaW.PrintMore Go.Proofs.Ytinjbfgjfmfibaa.Oct Go.Proofs.Ytinjbfgjfmfibaa.Bs Go.Proofs.Ytinjbfgjfmfibaa.Dec
open Go.Proofs.Ytinjbfgjfmfibaa.Enc (awake_calls Encode_calls encR chk same_f encR_le piece partsOf bytesOfEntry)
open Go.Proofs.Ytinjbfgjfmfibaa.PEntryEncodes
set_option linter.unusedVariables false
set_option linter.unusedSimpArgs false

theorem byt_enc (k t s a b : Int) : Byt (encR k t s a b) := by
  unfold encR
  split
  · unfold bytesOfEntry
    intro x hx
    obtain ⟨f, _, hf⟩ := List.mem_flatMap.1 hx
    revert hf
    unfold piece
    repeat' split
    all_goals exact fun h => byt_lays _ _ x h
  · intro x hx; cases hx
theorem u32_of {s : Int} (h : (Lit.int .u32 s).wf = true) : 0 ≤ s ∧ s ≤ 4294967295 := by
  simp only [Lit.wf, Bool.and_eq_true, decide_eq_true_eq] at h
  exact ⟨h.1, h.2⟩

set_option maxHeartbeats 2000000 in
set_option maxRecDepth 100000 in
theorem back_walk (w : World) (k : Int) (wk : (Lit.int .i64 k).wf = true) (t : Int) (wt : (Lit.int .i64 t).wf = true) (s : Int) (ws : (Lit.int .u32 s).wf = true) (a : Int) (wa : (Lit.int .u32 a).wf = true) (b : Int) (wb : (Lit.int .i64 b).wf = true) :
    Calls Try.prog 8 #[.agg #[.int .i64 k, .int .i64 t, .int .u32 s, .int .u32 a, .int .i64 b]] w fun e w' => e = .returned (.bool true) ∧ Below w.heap.size w w' := by
  have HSA := Aside0.mk (And.intro (u32_of ws) (u32_of wa))
  clear wk wt ws wa wb
  have HBX0 : Aside0 ((w.alloc (.cells #[.int .i64 k, .int .i64 t, .int .u32 s, .int .u32 a, .int .i64 b] 32)).heap[w.heap.size]? = some (.cells #[.int .i64 k, .int .i64 t, .int .u32 s, .int .u32 a, .int .i64 b] 32 (0, 0))) := ⟨blk_new _ _⟩
  obtain ⟨x, hx⟩ : ∃ x, x = chk k t s a b := ⟨_, rfl⟩
  obtain ⟨bs, hbs⟩ : ∃ bs, bs = encR k t s a b := ⟨_, rfl⟩
  have HX := Aside0.mk hx
  have HBS := Aside0.mk hbs
  have HL : Aside0 (bs.length ≤ 40) := ⟨by rw [hbs]; exact encR_le _ _ _ _ _⟩
  go_enter Try.func8, Try.ntmps8
  by_cases h0 : x = 0
  · have HE : Aside0 (dec bs = ⟨k, t, s, a, b, 0⟩) := ⟨by rw [hbs]; exact dec_enc (by rw [← hx]; exact h0) HSA.out.1 HSA.out.2⟩
    have hbl : (bs.length : Int) ≤ 56 := by have := HL.out; omega
    have hbl2 : decide ((bs.length : Int) ≤ 56) = true := decide_eq_true hbl
    subst h0
    clear hx hbs
    go_wp2_with (first
      | (go_at_call 21; refine (awake_calls _).mono ?_; rintro e w1 ⟨rfl, hb⟩; have hblk := blk_below HBX0.out hb; have c0 : w1.cell? ⟨w.heap.size, 0, none⟩ = some (.int .i64 k) := blk_cell hblk 0; have c1 : w1.cell? ⟨w.heap.size, 1, none⟩ = some (.int .i64 t) := blk_cell hblk 1; have c2 : w1.cell? ⟨w.heap.size, 2, none⟩ = some (.int .u32 s) := blk_cell hblk 2; have c3 : w1.cell? ⟨w.heap.size, 3, none⟩ = some (.int .u32 a) := blk_cell hblk 3; have c4 : w1.cell? ⟨w.heap.size, 4, none⟩ = some (.int .i64 b) := blk_cell hblk 4; have HX1 := Aside0.mk hblk; have HB1 : Aside0 (Below w.heap.size w w1) := ⟨below_step ((Below.refl _ _).alloc (Nat.le_refl _) _) hb⟩; clear hb hblk HBX0)
      | (go_at_call 22; refine (Encode_calls k t s a b _).mono ?_; rintro e w2 ⟨v, rfl, hr, hb⟩; rw [← HX.out]; rw [← HBS.out] at hr; clear c0 c1 c2 c3 c4; have HX2 := Aside0.mk (blk_below HX1.out hb); have HB2 : Aside0 (Below w.heap.size w w2) := ⟨below_step HB1.out hb⟩; obtain ⟨A1, q1, rfl, hl1, hC1⟩ := Kd.R_reads hr; have HC1 := Aside0.mk hC1; have HL1 := Aside0.mk hl1; clear hb HX1 HB1 hr hl1 hC1)
      | (go_at_call 27; refine (Decode_calls A1 q1 bs _ HC1.out HL1.out (by have := HL.out; omega) (by rw [HBS.out]; exact byt_enc _ _ _ _ _)).mono ?_; rintro e w3 ⟨rfl, hb⟩; rw [HE.out]; have hblk := blk_below HX2.out hb; have c0 : w3.cell? ⟨w.heap.size, 0, none⟩ = some (.int .i64 k) := blk_cell hblk 0; have c1 : w3.cell? ⟨w.heap.size, 1, none⟩ = some (.int .i64 t) := blk_cell hblk 1; have c2 : w3.cell? ⟨w.heap.size, 2, none⟩ = some (.int .u32 s) := blk_cell hblk 2; have c3 : w3.cell? ⟨w.heap.size, 3, none⟩ = some (.int .u32 a) := blk_cell hblk 3; have c4 : w3.cell? ⟨w.heap.size, 4, none⟩ = some (.int .i64 b) := blk_cell hblk 4; have hlt : w.heap.size < w3.heap.size := blk_lt hblk; have HB3 : Aside0 (Below w.heap.size w w3) := ⟨below_step HB2.out hb⟩; clear hb hblk HX2; unfold Ent.agg))
    go_ret
    exact ⟨rfl, HB3.out.alloc HB3.out.size _⟩
  · have HE : Aside0 (bs = []) := ⟨by rw [hbs]; unfold encR; rw [← hx, if_neg h0]⟩
    have hx0 : (x != 0) = true := bne_iff_ne.mpr h0
    clear hx hbs h0
    go_wp2_with (first
      | (go_at_call 21; refine (awake_calls _).mono ?_; rintro e w1 ⟨rfl, hb⟩; have hblk := blk_below HBX0.out hb; have c0 : w1.cell? ⟨w.heap.size, 0, none⟩ = some (.int .i64 k) := blk_cell hblk 0; have c1 : w1.cell? ⟨w.heap.size, 1, none⟩ = some (.int .i64 t) := blk_cell hblk 1; have c2 : w1.cell? ⟨w.heap.size, 2, none⟩ = some (.int .u32 s) := blk_cell hblk 2; have c3 : w1.cell? ⟨w.heap.size, 3, none⟩ = some (.int .u32 a) := blk_cell hblk 3; have c4 : w1.cell? ⟨w.heap.size, 4, none⟩ = some (.int .i64 b) := blk_cell hblk 4; have HX1 := Aside0.mk hblk; have HB1 : Aside0 (Below w.heap.size w w1) := ⟨below_step ((Below.refl _ _).alloc (Nat.le_refl _) _) hb⟩; clear hb hblk HBX0)
      | (go_at_call 22; refine (Encode_calls k t s a b _).mono ?_; rintro e w2 ⟨v, rfl, hr, hb⟩; rw [← HX.out]; rw [← HBS.out, HE.out] at hr; have HB2 : Aside0 (Below w.heap.size w w2) := ⟨below_step HB1.out hb⟩; obtain ⟨A1, q1, rfl, hl1, hC1⟩ := Kd.R_reads hr; clear hb HX1 HB1 hr hl1 hC1))
    go_ret
    exact ⟨rfl, HB2.out⟩
theorem dec_more {l : List Int} (hx : (dec l).x = 0) : dec (l ++ [0]) = bad 3 := by
  obtain ⟨r, h0, hc, ht, hd⟩ := dec_cases hx
  have hr : rd (l ++ [0]) 0 = rd l 0 := by
    obtain ⟨y, m, rfl⟩ : ∃ y m, l = y :: m := by cases l with | nil => exact absurd rfl h0 | cons y m => exact ⟨y, m, rfl⟩
    rfl
  unfold dec
  rw [if_neg (by simp), hr]
  rcases hc with ⟨e, z, _⟩ | ⟨e, z, _⟩ | ⟨e, z, _⟩ <;> simp [e, z, Dec.sizeOf]
theorem dec_less {l : List Int} (hx : (dec l).x = 0) : dec (l.take (l.length - 1)) = bad 2 := by
  obtain ⟨r, h0, hc, ht, hd⟩ := dec_cases hx
  obtain ⟨y, m, rfl⟩ : ∃ y m, l = y :: m := by cases l with | nil => exact absurd rfl h0 | cons y m => exact ⟨y, m, rfl⟩
  have hn : (y :: m).take ((y :: m).length - 1) = y :: m.take (m.length - 1) := by
    have : m.length ≠ 0 := by
      rcases hc with ⟨e, z, _⟩ | ⟨e, z, _⟩ | ⟨e, z, _⟩ <;> simp at z <;> omega
    obtain ⟨n, hn⟩ : ∃ n, m.length = n + 1 := ⟨m.length - 1, by omega⟩
    simp [hn]
  rw [hn]
  unfold dec
  have hr : rd (y :: m.take (m.length - 1)) 0 = rd (y :: m) 0 := rfl
  rw [if_neg (by simp), hr]
  have hl : (y :: m.take (m.length - 1)).length = (y :: m).length - 1 := by
    rcases hc with ⟨e, z, _⟩ | ⟨e, z, _⟩ | ⟨e, z, _⟩ <;> simp at z ⊢ <;> omega
  rcases hc with ⟨e, z, _⟩ | ⟨e, z, _⟩ | ⟨e, z, _⟩ <;> (rw [hl, e, z]; simp [Dec.sizeOf])

set_option maxHeartbeats 2000000 in
set_option maxRecDepth 100000 in
theorem again_walk (w : World) (A : Option Addr) (c : Nat) (l : List Int) (hC : Kd.C (Kd.int .u8) w A l.length l) (hc : l.length ≤ c) (hm : l.length * 1 ≤ 140737488351232) (hw : ∀ x ∈ l, (Lit.int .u8 x).wf = true) :
    Calls Try.prog 9 #[.slice A l.length c] w fun e w' => e = .returned (.bool true) ∧ Below w.heap.size w w' := by
  have hl := byt_of hw
  have H := Aside0.mk (And.intro hC (And.intro hc (And.intro (show l.length ≤ 140737488351232 by omega) hl)))
  clear hC hc hm hw
  generalize hd : dec l = d at *
  have HD := Aside0.mk hd
  by_cases h0 : d.x = 0
  · have h0' : (dec l).x = 0 := by rw [hd]; exact h0
    obtain ⟨e1, e2, e3⟩ := enc_dec hl h0'
    rw [hd] at e1 e2
    have E1 := Aside0.mk e1
    have E2 := Aside0.mk e2
    have E3 := Aside0.mk h0
    have D2 := Aside0.mk (dec_more h0')
    have D3 := Aside0.mk (dec_less h0')
    have HL9 : (9 : Int) ≤ (l.length : Int) := by omega
    have HL19 : Aside0 (l.length ≤ 19) := ⟨by
      obtain ⟨r, _, hc, _⟩ := dec_cases h0'
      rcases hc with ⟨_, z, _⟩ | ⟨_, z, _⟩ | ⟨_, z, _⟩ <;> omega⟩
    have HL19i : (l.length : Int) ≤ 19 := by have := HL19.out; omega
    obtain ⟨i0, hi, hz0, hz1, hz2⟩ := info_parts info_u8
    have hcut := cut_to (P := Try.prog) 28 5 .i64 Try.underlying28 hi A l.length c ((l.length : Int) - 1) (by omega) (by omega) H.out.2.1
    have hl1 : ((l.length : Int) - 1).toNat = l.length - 1 := by omega
    rw [hl1] at hcut
    have HSM : Aside0 (bailiwickref1_Same.f (l.length + 1) l l = some true) := ⟨by
      have h := same_f l l (by omega)
      rw [decide_eq_true rfl] at h; exact h⟩
    have HT : Aside0 ((l.take (l.length - 1)).length = l.length - 1) := ⟨by rw [List.length_take]; omega⟩
    clear hi hz0 hz1 hz2 hl1 h0' hd e1 e2 e3 hl h0
    go_enter Try.func9, Try.ntmps9
    go_wp2_with (go_at_call 21; refine (awake_calls _).mono ?_; rintro e w1 ⟨rfl, hb⟩; have HB := Aside0.mk hb; clear hb)
    refine (Decode_calls A c l _ (Kd.C_below H.out.1 HB.out) H.out.2.1 H.out.2.2.1 H.out.2.2.2).mono ?_
    rintro e w2 ⟨rfl, hb⟩
    rw [HD.out, E3.out]
    have HB2 : Aside0 (Below w.heap.size w (w2.alloc (.cells #[.int .i64 d.k, .int .i64 d.t, .int .u32 d.s, .int .u32 d.a, .int .i64 d.b] 32))) := ⟨below_alloc (below_step HB.out hb) _⟩
    clear hb HB
    unfold Ent.agg
    go_wp2_with fail
    refine (Encode_calls d.k d.t d.s d.a d.b _).mono ?_
    rintro e w3 ⟨v, rfl, hr, hb⟩
    rw [E1.out]
    rw [E2.out] at hr
    have HB3 := Aside0.mk (below_step HB2.out hb)
    obtain ⟨A1, q1, rfl, hl1, hC1⟩ := Kd.R_reads hr
    have HC1 := Aside0.mk hC1
    have HL1 := Aside0.mk hl1
    clear hb HB2 hr hl1 hC1
    go_wp2_with fail
    refine (Copy_calls A c l _ (Kd.C_below H.out.1 HB3.out) H.out.2.1 H.out.2.2.1).mono ?_
    rintro e w4 ⟨v, rfl, hr, hb⟩
    have HB4 := Aside0.mk hb
    have HR4 := Aside0.mk hr
    clear hb hr
    go_wp2_with (at_builtin; refine Kd.R_append (Kd.int .u8) (w0 := w3) w3.heap.size rfl (.tmp 27) (.tmp 28) 28 5 (.int .u8 0) 1 rfl Try.underlying28 info_u8 rfl (Nat.succ_pos _) (Nat.succ_pos _) _ l 0 [.int .u8 0] (fun k => w3.heap.size ≤ k) (fun _ => False) rfl rfl rfl (fun _ hk => hk.elim) (fun k hk => Nat.le_trans HB4.out.size hk) HR4.out HB4.out HB4.out.size (by have := HL19.out; omega) ?_; intro v1 w5 hr hb hg hat; obtain ⟨A5, q5, rfl, hl5, hC5⟩ := Kd.R_reads hr; have F0 := Aside0.mk hC5; have F1 := Aside0.mk hl5; have F2 := Aside0.mk hb; clear hr hb hg hat HR4 HB4 hl5 hC5)
    rw [show l.length + 1 = (l ++ [0]).length from by simp]
    refine (Decode_calls A5 q5 (l ++ [0]) _ F0.out F1.out (by have := HL19.out; simp; omega) (fun x hx => by rcases List.mem_append.1 hx with hx | hx; exact H.out.2.2.2 x hx; simp at hx; omega)).mono ?_
    rintro e w6 ⟨rfl, hb⟩
    rw [D2.out]
    have HC6 := Aside0.mk (Kd.C_below HC1.out (below_alloc (below_step F2.out hb) (.cells #[.int .i64 0, .int .i64 0, .int .u32 0, .int .u32 0, .int .i64 0] 32)))
    have HB6 := Aside0.mk (below_step HB3.out (below_alloc (below_step F2.out hb) (.cells #[.int .i64 0, .int .i64 0, .int .u32 0, .int .u32 0, .int .i64 0] 32)))
    clear hb F0 F1 F2 HC1 HB3
    unfold bad Ent.agg
    go_wp2_with fail
    rw [← HT.out]
    refine (Decode_calls A c (l.take (l.length - 1)) _ (Kd.C_take (Kd.C_below H.out.1 HB6.out) (Nat.sub_le _ _)) (by rw [HT.out]; exact Nat.le_trans (Nat.sub_le _ _) H.out.2.1) (by rw [HT.out]; have := HL19.out; omega) (H.out.2.2.2.take _)).mono ?_
    rintro e w7 ⟨rfl, hb⟩
    rw [D3.out]
    have HC7 := Aside0.mk (Kd.C_below HC6.out (below_alloc (Below.trans hb (Below.refl _ _)) (.cells #[.int .i64 0, .int .i64 0, .int .u32 0, .int .u32 0, .int .i64 0] 32)))
    have HB7 := Aside0.mk (below_alloc (below_step HB6.out hb) (.cells #[.int .i64 0, .int .i64 0, .int .u32 0, .int .u32 0, .int .i64 0] 32))
    clear hb HB6 HC6
    unfold bad Ent.agg
    go_wp2_with fail
    refine (bailiwickref1_Same.calls (l.length + 1) A c l A1 q1 l true _ (Kd.C_below H.out.1 HB7.out) H.out.2.1 HC7.out HL1.out HSM.out).mono ?_
    rintro e w8 ⟨rfl, hd⟩
    have HB8 := Aside0.mk (below_step HB7.out hd.below)
    clear hd
    go_wp2
    go_ret
    exact ⟨rfl, HB8.out⟩
  · have hx0 : (d.x != 0) = true := bne_iff_ne.mpr h0
    clear h0 hd hl
    go_enter Try.func9, Try.ntmps9
    go_wp2_with (go_at_call 21; refine (awake_calls _).mono ?_; rintro e w1 ⟨rfl, hb⟩; have HB := Aside0.mk hb; clear hb)
    refine (Decode_calls A c l _ (Kd.C_below H.out.1 HB.out) H.out.2.1 H.out.2.2.1 H.out.2.2.2).mono ?_
    rintro e w2 ⟨rfl, hb⟩
    rw [HD.out]
    have HB2 : Aside0 (Below w.heap.size w (w2.alloc (.cells #[.int .i64 d.k, .int .i64 d.t, .int .u32 d.s, .int .u32 d.a, .int .i64 d.b] 32))) := ⟨below_alloc (below_step HB.out hb) _⟩
    clear hb HB
    unfold Ent.agg
    go_wp2
    go_ret
    exact ⟨rfl, HB2.out⟩
end Go.Proofs.Ytinjbfgjfmfibaa.Ent
