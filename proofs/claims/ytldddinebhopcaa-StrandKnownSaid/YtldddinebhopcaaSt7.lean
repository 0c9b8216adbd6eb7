/- strand.Open. -/
import Derived.Test.YtldddinebhopcaaSt6
namespace Go.Proofs.Ytldddinebhopcaa.St
open Go.RowKit Go.Shelf Go.Proofs.YtldddinebhopcaaW.PrintWords Go.Proofs.YtldddinebhopcaaW.PrintLast Go.Proofs.YtldddinebhopcaaW.PrintMore Go.Proofs.Ytldddinebhopcaa.Bs Go.Proofs.Ytldddinebhopcaa.Fr Go.Proofs.Ytldddinebhopcaa.Oct Go.Proofs.Ytldddinebhopcaa.Sec Go.Proofs.Ytldddinebhopcaa.Rg
set_option linter.unusedVariables false
set_option linter.unusedSimpArgs false
attribute [local go_sem] Oper.semAt_some
/-- How Open stands: a records R, place a. -/
structure OI (w W : World) (base gd : Nat) (v0 v1 v2 v3 : Value) (m : DM) (R : List (List Int × Int)) (a : Int) (v4 : Value) : Prop where
  sv : SV W w.heap.size (fun k => w.heap.size + 5 ≤ k) w.heap.size gd (.slice none 0 0) v4 ⟨a, [], R⟩
  p : W.heap[w.heap.size + 1]? = some (.cells #[.pointer (some ⟨w.heap.size, 0, none⟩)] 31 (0, 0))
  q : W.heap[w.heap.size + 2]? = some (.cells #[.pointer (some ⟨gd, 0, none⟩)] 27 (0, 0))
  d : DV W base gd v0 v1 v2 v3 m
  b : Below w.heap.size w W
section
variable {w W W' w5 : World} {base gd : Nat} {v0 v1 v2 v3 : Value} {m : DM} {R : List (List Int × Int)} {a : Int} {v4 : Value}
theorem OI.below (h : OI w W base gd v0 v1 v2 v3 m R a v4) (hb : Below W.heap.size W W') : OI w W' base gd v0 v1 v2 v3 m R a v4 :=
  ⟨h.sv.below hb, blk_below h.p hb, blk_below h.q hb, h.d.below hb, below_step h.b hb⟩
theorem OI.drew (h : OI w W base gd v0 v1 v2 v3 m R a v4) : OI w W.drew base gd v0 v1 v2 v3 m R a v4 := h.below (below_drew (Below.refl _ _))
theorem OI.keep (h : OI w W base gd v0 v1 v2 v3 m R a v4) (HF : ∀ k, foot gd v0 v1 v2 v3 k → k < w.heap.size) {F : Nat → Prop} (k : Fr W W' F) (hF : ∀ q, F q → w.heap.size + 3 ≤ q) (hn : ∀ q, w.heap.size + 5 ≤ q → ¬ F q) : OI w W' base gd v0 v1 v2 v3 m R a v4 :=
  ⟨h.sv.keep k hn (fun hf => by have := hF _ hf; omega), k.blk h.p (fun hf => by have := hF _ hf; omega), k.blk h.q (fun hf => by have := hF _ hf; omega), h.d.keep k (fun q hq hf => by have h1 := hF _ hf; have h2 := HF q hq; omega), below_fr h.b h.b.size k (fun q hf => by have := hF _ hf; omega)⟩
theorem OI.push (h : OI w W base gd v0 v1 v2 v3 m R a v4) (HF : ∀ k, foot gd v0 v1 v2 v3 k → k < w.heap.size) {v5 : Value} {l : List (List Int × Int)} (hR : Kd.R kRec 81 w5 w.heap.size (fun k => w.heap.size + 5 ≤ k) v5 l) (hg : W.grownBy w5 v4.ownBlock) :
    OI w (w5.setCell ⟨w.heap.size, 3, none⟩ v5) base gd v0 v1 v2 v3 m l a v5 ∧ Fr W (w5.setCell ⟨w.heap.size, 3, none⟩ v5) (fun k => k = w.heap.size ∨ own v4 k) := by
  obtain ⟨s, fr⟩ := h.sv.push hR hg
  have ho : ∀ k, own v4 k → w.heap.size + 5 ≤ k := fun k hk => h.sv.recs.1 k hk
  refine ⟨⟨s, fr.blk h.p ?_, fr.blk h.q ?_, h.d.keep fr ?_, below_fr h.b h.b.size fr ?_⟩, fr⟩
  · rintro (hf | hf)
    · omega
    · have := ho _ hf; omega
  · rintro (hf | hf)
    · omega
    · have := ho _ hf; omega
  · rintro q hq (hf | hf)
    · have := HF q hq; omega
    · have h1 := ho _ hf; have h2 := HF q hq; omega
  · rintro q (hf | hf)
    · omega
    · have := ho _ hf; omega
theorem OI.at_ (h : OI w W base gd v0 v1 v2 v3 m R a v4) (HF : ∀ k, foot gd v0 v1 v2 v3 k → k < w.heap.size) (x : Int) : OI w (W.setCell ⟨w.heap.size, 1, none⟩ (.int .i64 x)) base gd v0 v1 v2 v3 m R x v4 := by
  obtain ⟨s, fr⟩ := h.sv.set x
  exact ⟨s, fr.blk h.p (by omega), fr.blk h.q (by omega), h.d.keep fr (fun q hq hf => by have := HF q hq; omega), below_fr h.b h.b.size fr (fun q hf => by omega)⟩
theorem OI.p_grown (h : OI w W base gd v0 v1 v2 v3 m R a v4) (hg : W.grownBy w5 v4.ownBlock) : w5.heap[w.heap.size + 1]? = some (.cells #[.pointer (some ⟨w.heap.size, 0, none⟩)] 31 (0, 0)) :=
  (hg.block _ (blk_lt h.p) (fun he => Kd.R_ne h.sv.recs h.p (by decide) he)).trans h.p
theorem OI.s_grown (h : OI w W base gd v0 v1 v2 v3 m R a v4) (hg : W.grownBy w5 v4.ownBlock) : w5.heap[w.heap.size]? = some (.cells #[.pointer (some ⟨gd, 0, none⟩), .int .i64 a, .slice none 0 0, v4] 77 (0, 0)) :=
  (hg.block _ (blk_lt h.sv.blk) (fun he => Kd.R_ne h.sv.recs h.sv.blk (by decide) he)).trans h.sv.blk
theorem tyLR (q : Nat) (hq : q ∈ 23 :: kL.E) : q ≠ 81 := by
  rcases List.mem_cons.1 hq with rfl | h
  · decide
  · rw [List.mem_singleton.1 (show q ∈ [5] from h)]; decide

theorem tagL_snoc (L : List (List Int)) (i : Int) (j : Nat) (hj : j < L.length) : tagL (L.take (j + 1)) i = tagL (L.take j) i ++ [(L.getD j [], i)] := by
  unfold tagL
  rw [List.take_add_one, List.getElem?_eq_getElem hj, Option.toList_some, List.map_append, List.getD_eq_getElem?_getD, List.getElem?_eq_getElem hj]
  rfl
/-- How a round stands when j bodies of its sector were put. -/
structure IL (w W : World) (base gd : Nat) (v0 v1 v2 v3 : Value) (m : DM) (R0 : List (List Int × Int)) (a : Int) (i : Int) (L : List (List Int)) (u : Value) (g2 : Nat) (sec : List Int) (j : Nat) (v4 : Value) (wr : World) : Prop where
  oi : OI w wr base gd v0 v1 v2 v3 m (R0 ++ tagL (L.take j) i) a v4
  row : Kd.R kL 23 wr W.heap.size (fun _ => True) u L
  sec : wr.heap[g2]? = some (.cells (encs (Value.int .u8) sec).toArray 94 (0, 0))
  sz : W.heap.size ≤ wr.heap.size
  w5 : w.heap.size + 5 ≤ W.heap.size
  d : wr.heap[w.heap.size + 3]? = W.heap[w.heap.size + 3]?
  l : wr.heap[w.heap.size + 4]? = W.heap[w.heap.size + 4]?
section
variable {R0 : List (List Int × Int)} {i : Int} {L : List (List Int)} {u : Value} {g2 j : Nat} {sec : List Int} {wr : World}
theorem IL.drew (h : IL w W base gd v0 v1 v2 v3 m R0 a i L u g2 sec j v4 wr) : IL w W base gd v0 v1 v2 v3 m R0 a i L u g2 sec j v4 wr.drew :=
  ⟨h.oi.drew, Kd.R_drew h.row, h.sec, h.sz, h.w5, h.d, h.l⟩
theorem IL.push (h : IL w W base gd v0 v1 v2 v3 m R0 a i L u g2 sec j v4 wr) (HF : ∀ k, foot gd v0 v1 v2 v3 k → k < w.heap.size) {v5 : Value} {l : List (List Int × Int)} (hR : Kd.R kRec 81 w5 w.heap.size (fun k => w.heap.size + 5 ≤ k) v5 l) (hg : wr.grownBy w5 v4.ownBlock) (hl : l = R0 ++ tagL (L.take (j + 1)) i) :
    IL w W base gd v0 v1 v2 v3 m R0 a i L u g2 sec (j + 1) v5 (w5.setCell ⟨w.heap.size, 3, none⟩ v5) := by
  obtain ⟨o, fr⟩ := h.oi.push HF hR hg
  have ho : ∀ k, own v4 k → w.heap.size + 5 ≤ k := fun k hk => h.oi.sv.recs.1 k hk
  have hw := h.w5
  have hz := h.sz
  rw [hl] at o
  refine ⟨o, ?_, fr.blk h.sec ?_, Nat.le_trans hz fr.size, hw, ?_, ?_⟩
  · have h1 := Kd.R_apart' (Kd.R_mono (Kd.R_bound h.row) (fun k hk => hk.2.1)) (Kd.R_typed h.oi.sv.recs) tyLR
    refine Kd.R_mono (Kd.R_kept h1 fr.2 ?_) (fun _ _ => trivial)
    rintro k ⟨hk1, hk2⟩ (hf | hf)
    · omega
    · exact hk2 hf.symm
  · rintro (hf | hf)
    · have hx := h.oi.sv.blk
      rw [← hf, h.sec] at hx
      injection hx with hx
      injection hx with _ hx _
      exact absurd hx (by decide)
    · exact Kd.R_ne h.oi.sv.recs h.sec (by decide) hf.symm
  · refine (fr.2.2 _ (by omega) ?_).trans h.d
    rintro (hf | hf)
    · omega
    · have := ho _ hf; omega
  · refine (fr.2.2 _ (by omega) ?_).trans h.l
    rintro (hf | hf)
    · omega
    · have := ho _ hf; omega
/-- The body that is next: its cell, its row. -/
theorem IL.next {Ak : Option Addr} {ck : Nat} (h : IL w W base gd v0 v1 v2 v3 m R0 a i L (.slice Ak L.length ck) g2 sec j v4 wr) (hj : j < L.length) :
    ∃ g Ax cx, Ak = some ⟨g, 0, none⟩ ∧ wr.cell? ⟨g, j, none⟩ = some (.slice Ax (L.getD j []).length cx) ∧ Kd.R (Kd.int .u8) 5 wr w.heap.size (fun k => W.heap.size ≤ k ∧ some k ≠ v4.ownBlock) (.slice Ax (L.getD j []).length cx) (L.getD j []) := by
  have hw := h.w5
  have h1 := Kd.R_apart' (Kd.R_mono (Kd.R_bound h.row) (fun k hk => hk.2.1)) (Kd.R_typed h.oi.sv.recs) tyLR
  obtain ⟨g, cap, hv, _⟩ := Kd.R_form h1 (by omega)
  injection hv with hA _ _
  subst hA
  obtain ⟨cs, hl, hM, hc, _⟩ := Kd.R_elem h1 ([] : List Int) j (by omega) (by omega)
  rw [Int.toNat_natCast] at hM hc
  obtain ⟨v, rfl, hR⟩ := hM
  obtain ⟨Ax, cx, rfl⟩ := Kd.R_slice hR
  refine ⟨g, Ax, cx, rfl, ?_, Kd.R_lower (Kd.R_mono hR (fun k hk => hk.1)) (by omega)⟩
  have := hc 0 _ rfl
  rw [show j * kL.sz + 0 = j by show j * 1 + 0 = j; omega] at this
  exact this
end
theorem Scan64_calls (g2 : Nat) (b : List Int) (w : World) (hl : b.length = 64) (hx : w.heap[g2]? = some (.cells (encs (Value.int .u8) b).toArray 94 (0, 0))) (hB : Byt b) :
    Calls Try.prog 18 #[.slice (some ⟨g2, 0, none⟩) 64 64] w fun e w' => ∃ A c, e = .returned (.slice A (scanL b).length c) ∧ Kd.R kL 23 w' w.heap.size (fun _ => True) (.slice A (scanL b).length c) (scanL b) ∧ Below w.heap.size w w' := by
  have hC := C_blk hx hl
  have h := Scan_calls (some ⟨g2, 0, none⟩) 64 b w (by rw [hl]; exact hC) (by omega) (by omega) hB
  rw [hl] at h
  refine h.mono ?_
  rintro e w' ⟨v, rfl, hR, hb⟩
  obtain ⟨A, c, rfl⟩ := Kd.R_slice hR
  exact ⟨A, c, rfl, hR, hb⟩
theorem empty64_calls (g2 : Nat) (b : List Int) (w : World) (hl : b.length = 64) (hx : w.heap[g2]? = some (.cells (encs (Value.int .u8) b).toArray 94 (0, 0))) :
    Calls Try.prog 43 #[.slice (some ⟨g2, 0, none⟩) 64 64] w fun e w' => e = .returned (.bool (blankB b)) ∧ w = w' := by
  have hC := C_blk hx hl
  have h := empty_calls (some ⟨g2, 0, none⟩) 64 b w (by rw [hl]; exact hC) (by omega)
  rw [hl] at h
  exact h
theorem opR_len (s : List (List Int)) (hs : ∀ i, (s.getD i zB).length ≤ 64) : ∀ i, (opR s i).length ≤ 64 * i
  | 0 => by unfold opR; simp
  | i + 1 => by
    have h1 := opR_len s hs i
    have h2 := scanL_len (s.getD i zB)
    have h3 := hs i
    unfold opR tagL
    rw [List.length_append, List.length_map]
    omega
theorem sec_len {w : World} {base gd : Nat} {v0 v1 v2 v3 : Value} {m : DM} (h : DV w base gd v0 v1 v2 v3 m) (i : Nat) (hi : i < m.now.length) : (m.now.getD i zB).length = 64 := by
  obtain ⟨go, co, hv, gb, gl, cl, HG⟩ := Kd.R_form h.now (by omega)
  obtain ⟨s1, s2, s3⟩ := sector_at (by rw [← hv]; exact h.now) i hi
  exact s1
end
set_option maxRecDepth 100000 in
set_option maxHeartbeats 4000000 in
theorem Open_calls (w : World) (base gd : Nat) (v0 v1 v2 v3 : Value) (m : DM) (h : DV w base gd v0 v1 v2 v3 m) (hB : BM m) :
    Calls Try.prog 13 #[.pointer (some ⟨gd, 0, none⟩)] w fun e w' => ∃ gs v4, e = .returned (.tuple #[.pointer (some ⟨gs, 0, none⟩), .int .i64 0]) ∧ SV w' w.heap.size (fun _ => True) gs gd (.slice none 0 0) v4 (openM m) ∧ w.heap.size ≤ gs ∧ Below w.heap.size w w' := by
  have H := Aside0.mk h
  have HF := Aside0.mk h.foot_lt
  have HN := Aside0.mk h.n2
  have HB := Aside0.mk hB
  have HSL : Aside0 (∀ i, (m.now.getD i zB).length ≤ 64) := ⟨fun i => by
    rcases Nat.lt_or_ge i m.now.length with hi | hi
    · rw [sec_len h i hi]; exact Nat.le_refl _
    · rw [List.getD_eq_getElem?_getD, List.getElem?_eq_none hi]; simp [zB]⟩
  clear h hB
  refine (callsIn_wide (n := 4)).1 ?_
  refine callsIn_of_wp_marks Try.func13 rfl trivial ?_ rfl
  simp only [Try.ntmps13, List.size_toArray, List.length_cons, List.length_nil, Nat.reduceAdd, Nat.reduceSub, Array.replicate_succ, Array.replicate_zero, List.push_toArray, List.append_toArray, List.nil_append, List.cons_append]
  gi_wp2_with (refine ⟨trivial, ?_⟩; gi_at_call 42; refine (callsIn_wide.2 (sectors_calls _ _)).mono ?_; rintro e w' ⟨rfl, rfl⟩)
  obtain ⟨W0, hW0⟩ : ∃ W0, ((w.alloc (.cells #[.pointer (some ⟨gd, 0, none⟩), .int .i64 0, .slice none 0 0, .slice none 0 0] 77)).alloc (.cells #[.pointer (some ⟨w.heap.size, 0, none⟩)] 31)).alloc (.cells #[.pointer (some ⟨gd, 0, none⟩)] 27) = W0 := ⟨_, rfl⟩
  have hsz : W0.heap.size = w.heap.size + 3 := by rw [← hW0]; simp
  have hOI : OI w W0 base gd v0 v1 v2 v3 m [] 0 (.slice none 0 0) := by
    have x0 := blk_alloc (blk_alloc (blk_new w (.cells #[.pointer (some ⟨gd, 0, none⟩), .int .i64 0, .slice none 0 0, .slice none 0 0] 77)) (.cells #[.pointer (some ⟨w.heap.size, 0, none⟩)] 31)) (.cells #[.pointer (some ⟨gd, 0, none⟩)] 27)
    have x1 := blk_alloc (blk_new (w.alloc (.cells #[.pointer (some ⟨gd, 0, none⟩), .int .i64 0, .slice none 0 0, .slice none 0 0] 77)) (.cells #[.pointer (some ⟨w.heap.size, 0, none⟩)] 31)) (.cells #[.pointer (some ⟨gd, 0, none⟩)] 27)
    have x2 := blk_new ((w.alloc (.cells #[.pointer (some ⟨gd, 0, none⟩), .int .i64 0, .slice none 0 0, .slice none 0 0] 77)).alloc (.cells #[.pointer (some ⟨w.heap.size, 0, none⟩)] 31)) (.cells #[.pointer (some ⟨gd, 0, none⟩)] 27)
    have hb := below_alloc (below_alloc (below_alloc (Below.refl w.heap.size w) (.cells #[.pointer (some ⟨gd, 0, none⟩), .int .i64 0, .slice none 0 0, .slice none 0 0] 77)) (.cells #[.pointer (some ⟨w.heap.size, 0, none⟩)] 31)) (.cells #[.pointer (some ⟨gd, 0, none⟩)] 27)
    rw [hW0] at x0 x1 x2 hb
    rw [World.size_alloc] at x1 x2
    rw [World.size_alloc] at x2
    exact ⟨⟨x0, Kd.R_nil _ _ _ _ _, Kd.R_nil _ _ _ _ _⟩, x1, x2, H.out.below hb, hb⟩
  rw [hW0]
  clear hW0
  have HOI := Aside0.mk hOI
  have HSZ := Aside0.mk hsz
  clear hOI hsz
  refine wpIn_range rfl (by omega) (gf := 60) (lb := #[.pointer (some ⟨w.heap.size + 1 + 1, 0, none⟩)]) rfl trivial (enters_of Try.func60 (by kernel_rfl) rfl) (sectors_seq (4 - 1) (by omega) base gd v0 v1 v2 v3 m (w.heap.size + 1 + 1) (w.heap.size + 3) HN.out) rfl
    (fun i W => (∃ v4, OI w W base gd v0 v1 v2 v3 m (opR m.now i) (opA m.now i) v4) ∧ w.heap.size + 3 ≤ W.heap.size)
    ?dx ?ib ?ip ?gp ⟨⟨_, HOI.out⟩, by have := HSZ.out; omega⟩
    (fun i v => { tmps := #[.pointer (some ⟨gd, 0, none⟩), undef, .pointer none, .int .i64 0, .pointer (some ⟨w.heap.size + 1, 0, none⟩), .int .i64 (i : Int), v, undef, undef, .pointer (some ⟨gd, 0, none⟩), .bool false, .pointer (some ⟨gd, 0, none⟩), .agg #[.pointer (some ⟨gd, 0, none⟩), .int .i64 0, .slice none 0 0, .slice none 0 0], .pointer (some ⟨w.heap.size, 0, none⟩), .pointer (some ⟨gd, 0, none⟩), .func (.func 60) #[] #[.pointer (some ⟨w.heap.size + 1 + 1, 0, none⟩)], .int .i64 (i : Int), v, undef, undef, undef, undef, undef, undef, undef, undef, undef, undef, undef, undef, undef, undef, undef, undef, undef, undef, undef, undef, undef, undef, undef, undef, undef, undef, undef, undef, undef], defers := [] }) ?assign ?body ?done
  case dx =>
    rintro i W ⟨⟨v4, h⟩, hs⟩
    exact ⟨h.d, blk_cell h.q 0, hs⟩
  case ib =>
    rintro i W W' ⟨⟨v4, h⟩, hs⟩ hb
    exact ⟨⟨v4, h.below hb⟩, Nat.le_trans hs hb.size⟩
  case ip =>
    rintro i W r o ⟨⟨v4, h⟩, hs⟩ hl
    have hz := HSZ.out
    have fr := putObj_fr (.loop o) hl
    exact ⟨⟨v4, h.keep HF.out fr (fun q hq => by omega) (fun q hq => by omega)⟩, Nat.le_trans hs fr.size⟩
  case gp =>
    rintro i v W r o ⟨g2, rfl, hg, hx⟩ hl
    refine ⟨g2, rfl, hg, (putObj_fr (.loop o) hl).blk hx (fun he => ?_)⟩
    rw [he, hl] at hx
    cases hx
  case assign =>
    intro l i v W K hK
    gi_wp2
    exact hK
  case body =>
    rintro l i v W hi ⟨⟨v4, hO⟩, hs⟩ ⟨g2, rfl, hg2, hx2⟩ ⟨rl, hl⟩ ⟨rd, hd⟩
    rw [HSZ.out] at hl hd ⊢
    have OI0 := Aside0.mk hO
    have HX2 := Aside0.mk hx2
    have HG2 := Aside0.mk hg2
    have HLL := Aside0.mk hl
    have HDD := Aside0.mk hd
    have HI := Aside0.mk hi
    have hil : 0 ≤ (i : Int) ∧ (i : Int) ≤ 4096 := by have := HN.out; omega
    clear hO hx2 hg2 hl hd hs hi
    have HS64 := Aside0.mk (sec_len H.out i HI.out)
    have HSB := Aside0.mk (HB.out.sec i HI.out)
    have HRI : Aside0 ((opR m.now i).length ≤ 64 * i) := ⟨opR_len m.now HSL.out i⟩
    have HNX : Aside0 (opR m.now (i + 1) = opR m.now i ++ tagL (scanL (m.now.getD i zB)) i ∧ opA m.now (i + 1) = if blankB (m.now.getD i zB) = true then opA m.now i else (i : Int) + 1) := ⟨rfl, rfl⟩
    have HSCL := Aside0.mk (scanL_len (m.now.getD i zB))
    rw [HNX.out.1, HNX.out.2]
    rw [HS64.out] at HSCL
    clear HNX
    generalize opA m.now i = ai at *
    generalize opR m.now i = RI0 at *
    generalize m.now.getD i zB = sec at *
    obtain ⟨L, hL⟩ : ∃ L, scanL sec = L := ⟨_, rfl⟩
    have HL := Aside0.mk hL
    rw [hL] at HSCL
    rw [hL]
    clear hL
    gi_wp2_with (refine ⟨trivial, ?_⟩; gi_at_call 18; refine (CallsIn.inRound l (callsIn_wide.2 (Scan64_calls g2 sec W HS64.out HX2.out HSB.out))).mono ?_; rw [HL.out]; rintro e W1 ⟨Ak, ck, rfl, hRL, hb1⟩; have RL0 := Aside0.mk hRL; have BW0 := Aside0.mk hb1; clear hRL hb1)
    have IL0 : Aside0 (IL w W base gd v0 v1 v2 v3 m RI0 ai (i : Int) L (.slice Ak L.length ck) g2 sec 0 v4 W1) := ⟨by
      have hlt := blk_lt HLL.out
      have hb := BW0.out
      exact ⟨by rw [List.take_zero]; unfold tagL; rw [List.map_nil, List.append_nil]; exact OI0.out.below hb, RL0.out, blk_below HX2.out hb, hb.size, by omega, hb.block _ (by omega), hb.block _ (by omega)⟩⟩
    clear RL0 BW0
    gi_loopw [21] (fun v21 wr => ∃ (j : Nat) (v5 : Value), j ≤ L.length ∧ v21 = .int .i64 (j : Int) ∧ Aside0 (IL w W base gd v0 v1 v2 v3 m RI0 ai (i : Int) L (.slice Ak L.length ck) g2 sec j v5 wr)) (fun v21 _ => L.length - (intOf v21).toNat)
    case atStart => exact ⟨0, _, Nat.zero_le _, rfl, IL0⟩
    case round =>
      clear IL0
      obtain ⟨j, v5, hj, rfl, ILr⟩ := hrel
      have hjl : (j : Int) ≤ 64 := by have := HSCL.out; omega
      by_cases hlt : j < L.length
      · have hlb : decide ((j : Int) < (L.length : Int)) = true := decide_eq_true (by omega)
        have hlp : (j : Int) < (L.length : Int) := by omega
        obtain ⟨gk, Ax, cx, hA, kx, hRX⟩ := ILr.out.next hlt
        subst hA
        have HJT := Aside0.mk (tagL_snoc L (i : Int) j hlt)
        have HJ := Aside0.mk hlt
        obtain ⟨x, hx⟩ : ∃ x, L.getD j [] = x := ⟨_, rfl⟩
        rw [hx] at kx hRX HJT
        have RX := Aside0.mk hRX
        obtain ⟨RI, hRI⟩ : ∃ RI, RI0 ++ tagL (L.take j) (i : Int) = RI := ⟨_, rfl⟩
        have HRE : Aside0 (RI ++ [(x, (i : Int))] = RI0 ++ tagL (L.take (j + 1)) (i : Int)) := ⟨by rw [HJT.out, ← hRI, List.append_assoc]⟩
        have HRL : Aside0 (RI.length ≤ 64 * i + 64) := ⟨by
          have h1 := HRI.out
          have h2 := HSCL.out
          rw [← hRI, List.length_append]
          unfold tagL
          rw [List.length_map, List.length_take]
          omega⟩
        have hRs := ILr.out.oi.sv.recs
        rw [show (⟨ai, [], RI0 ++ tagL (L.take j) (i : Int)⟩ : SM).recs = RI from hRI] at hRs
        obtain ⟨A4, c4, ev⟩ := Kd.R_slice hRs
        subst ev
        have RS := Aside0.mk hRs
        have HAL : Aside0 ((RI.length + 1) * 32 ≤ 140737488355328) := ⟨by have h1 := HRL.out; have h2 := hil.2; omega⟩
        have hlj : 0 ≤ (j : Int) ∧ (j : Int) < (L.length : Int) := ⟨by omega, hlp⟩
        have kp : wr.cell? ⟨w.heap.size + 1, 0, none⟩ = some (.pointer (some ⟨w.heap.size, 0, none⟩)) := blk_cell ILr.out.oi.p 0
        have k3 : wr.cell? ⟨w.heap.size, 3, none⟩ = some (.slice A4 RI.length c4) := blk_cell ILr.out.oi.sv.blk 3
        clear hRX hx hRI hRs hlt
        gi_wp2
        refine region_round l _ (k := 13) (S := fun w' => w'.cell? ⟨w.heap.size + 1, 0, none⟩ = some (.pointer (some ⟨w.heap.size, 0, none⟩)) ∧ w'.cell? ⟨w.heap.size, 3, none⟩ = some (.slice A4 RI.length c4)) (ds := [12]) #[false, false, false, false, false, false, false, false, false, false, false, false, false] (by kernel_rfl) (fun ⟨_, _, h_⟩ => h_) (by kernel_rfl) rfl rfl ⟨kp, k3⟩ (fun hHeld => ?_)
        refine pure_ (i := 5) (N := some 30) (v := ?_) (a' := ?_) #[false, false, false, false, false, true, false, false, false, false, false, false, false] rfl rfl (by kernel_rfl) (fun _ _ _ h => h) (Or.inl ⟨by rfl, ?_⟩) ?_ ?_
        rotate_left
        · intro w'
          go_simp
          with_reducible rfl
        rotate_left
        · simp only [Act.put, List.setIfInBounds_toArray, List.set_cons_zero, List.set_cons_succ, i64_w, i32_w]
          rfl
        refine pure_ (i := 6) (N := some 31) (v := ?_) (a' := ?_) #[false, false, false, false, false, true, true, false, false, false, false, false, false] rfl rfl (by kernel_rfl) (fun _ _ _ h => h) (Or.inl ⟨by rfl, ?_⟩) ?_ ?_
        rotate_left
        · intro w'
          go_simp
          with_reducible rfl
        rotate_left
        · simp only [Act.put, List.setIfInBounds_toArray, List.set_cons_zero, List.set_cons_succ, i64_w, i32_w]
          rfl
        refine pure_ (i := 7) (N := some 32) (v := ?_) (a' := ?_) #[false, false, false, false, false, true, true, true, false, false, false, false, false] rfl rfl (by kernel_rfl) (fun _ _ _ h => h) (Or.inl ⟨by rfl, ?_⟩) ?_ ?_
        rotate_left
        · intro w'
          go_simp
          with_reducible rfl
        rotate_left
        · simp only [Act.put, List.setIfInBounds_toArray, List.set_cons_zero, List.set_cons_succ, i64_w, i32_w]
          rfl
        refine take_ (i := 0) (N := some 25) (v := ?_) (a' := ?_) #[true, false, false, false, false, true, true, true, false, false, false, false, false] rfl rfl (by kernel_rfl) (fun _ _ _ h => h) (Or.inl ⟨by rfl, ?_⟩) hHeld ?_ ?_
        rotate_left
        · rintro w' ⟨s0, s1⟩
          go_simp
          with_reducible rfl
        rotate_left
        · simp only [Act.put, List.setIfInBounds_toArray, List.set_cons_zero, List.set_cons_succ, i64_w, i32_w]
          rfl
        refine take_ (i := 1) (N := some 26) (v := ?_) (a' := ?_) #[true, true, false, false, false, true, true, true, false, false, false, false, false] rfl rfl (by kernel_rfl) (fun _ _ _ h => h) (Or.inl ⟨by rfl, ?_⟩) hHeld ?_ ?_
        rotate_left
        · rintro w' ⟨s0, s1⟩
          go_simp
          with_reducible rfl
        rotate_left
        · simp only [Act.put, List.setIfInBounds_toArray, List.set_cons_zero, List.set_cons_succ, i64_w, i32_w]
          rfl
        refine pure_ (i := 2) (N := some 27) (v := ?_) (a' := ?_) #[true, true, true, false, false, true, true, true, false, false, false, false, false] rfl rfl (by kernel_rfl) (fun _ _ _ h => h) (Or.inl ⟨by rfl, ?_⟩) ?_ ?_
        rotate_left
        · intro w'
          go_simp
          with_reducible rfl
        rotate_left
        · simp only [Act.put, List.setIfInBounds_toArray, List.set_cons_zero, List.set_cons_succ, i64_w, i32_w]
          rfl
        refine pure_ (i := 3) (N := some 28) (v := ?_) (a' := ?_) #[true, true, true, true, false, true, true, true, false, false, false, false, false] rfl rfl (by kernel_rfl) (fun _ _ _ h => h) (Or.inl ⟨by rfl, ?_⟩) ?_ ?_
        rotate_left
        · intro w'
          go_simp
          with_reducible rfl
        rotate_left
        · simp only [Act.put, List.setIfInBounds_toArray, List.set_cons_zero, List.set_cons_succ, i64_w, i32_w]
          rfl
        refine take_ (i := 4) (N := some 29) (v := ?_) (a' := ?_) #[true, true, true, true, true, true, true, true, false, false, false, false, false] rfl rfl (by kernel_rfl) (fun _ _ _ h => h) (Or.inl ⟨by rfl, ?_⟩) hHeld ?_ ?_
        rotate_left
        · rintro w' ⟨s0, s1⟩
          go_simp
          with_reducible rfl
        rotate_left
        · simp only [Act.put, List.setIfInBounds_toArray, List.set_cons_zero, List.set_cons_succ, i64_w, i32_w]
          rfl
        refine one_ (i := 8) (N := some 33) #[true, true, true, true, true, true, true, true, true, false, false, false, false] rfl rfl (by kernel_rfl) (by decide) (fun K hK => ?_)
        refine value_ (w1 := ?_) (v := ?_) (by rfl) rfl ?_ ?_
        rotate_left 2
        · go_simp
          constructor
          · rfl
          · rfl
        refine hK.out _ _ ⟨(cell_alloc_old hHeld.1 _), (cell_alloc_old hHeld.2 _)⟩ (fun hHeld => ?_)
        clear hK K
        refine norm_ (a' := ?_) ?_ ?_
        rotate_left
        · show Act.put _ (some 33) _ = _
          simp only [Act.put, List.setIfInBounds_toArray, List.set_cons_zero, List.set_cons_succ, i64_w, i32_w]
          rfl
        refine one_ (i := 9) (N := some 34) #[true, true, true, true, true, true, true, true, true, true, false, false, false] rfl rfl (by kernel_rfl) (by decide) (fun K hK => ?_)
        refine Kd.R_append_step kRec (w0 := wr.drew) w.heap.size (by rfl) (.tmp 29) (.tmp 33) 75 81 (.agg #[.slice none 0 0, .int .i64 0]) 32 rfl Try.underlying75 infoRec rfl (by decide) (by decide) (.slice A4 RI.length c4) RI (x, (i : Int)) [.slice Ax x.length cx, .int .i64 (i : Int)] (fun k => w.heap.size + 5 ≤ k) (fun k => W.heap.size ≤ k ∧ some k ≠ Value.ownBlock (.slice A4 RI.length c4)) rfl rfl (kRec_M (Kd.R_drew RX.out)) (fun k hk => ⟨Nat.le_trans ILr.out.w5 hk.1, hk.2⟩) (fun k hk => Nat.le_trans (Nat.le_trans ILr.out.w5 ILr.out.sz) hk) (Kd.R_drew RS.out) (Below.refl _ _) (Nat.le_trans (Nat.le_add_right _ 5) (Nat.le_trans ILr.out.w5 ILr.out.sz)) HAL.out ?_
        intro v5 w5 hr1 hb1 hg1 hat1
        have P1 := Aside0.mk (ILr.out.drew.push HF.out hr1 hg1 HRE.out)
        have hq1 := ILr.out.drew.oi.p_grown hg1
        have hq2 := ILr.out.drew.oi.s_grown hg1
        obtain ⟨A5, c5, ev⟩ := Kd.R_slice hr1
        obtain ⟨n5, hn5⟩ : ∃ n5, n5 = (RI ++ [(x, (i : Int))]).length := ⟨_, rfl⟩
        rw [← hn5] at ev
        subst ev
        have c1' : w5.cell? ⟨w.heap.size + 1, 0, none⟩ = some (.pointer (some ⟨w.heap.size, 0, none⟩)) := blk_cell hq1 0
        have c4' : w5.cell? ⟨w.heap.size, 3, none⟩ = some (.slice A4 RI.length c4) := blk_cell hq2 3
        have hfz : w5.frozen? ⟨w.heap.size, 3, none⟩ = false := blk_frozen hq2 3
        clear hr1 hb1 hg1 hat1 hq1 hq2 hn5
        refine hK.out _ _ ⟨c1', c4'⟩ (fun hHeld => ?_)
        clear hK K
        refine norm_ (a' := ?_) ?_ ?_
        rotate_left
        · show Act.put _ (some 34) _ = _
          simp only [Act.put, List.setIfInBounds_toArray, List.set_cons_zero, List.set_cons_succ, i64_w, i32_w]
          rfl
        refine pure_ (i := 10) (N := some 35) (v := ?_) (a' := ?_) #[true, true, true, true, true, true, true, true, true, true, true, false, false] rfl rfl (by kernel_rfl) (fun _ _ _ h => h) (Or.inl ⟨by rfl, ?_⟩) ?_ ?_
        rotate_left
        · intro w'
          go_simp
          with_reducible rfl
        rotate_left
        · simp only [Act.put, List.setIfInBounds_toArray, List.set_cons_zero, List.set_cons_succ, i64_w, i32_w]
          rfl
        refine pure_ (i := 11) (N := some 36) (v := ?_) (a' := ?_) #[true, true, true, true, true, true, true, true, true, true, true, true, false] rfl rfl (by kernel_rfl) (fun _ _ _ h => h) (Or.inl ⟨by rfl, ?_⟩) ?_ ?_
        rotate_left
        · intro w'
          go_simp
          with_reducible rfl
        rotate_left
        · simp only [Act.put, List.setIfInBounds_toArray, List.set_cons_zero, List.set_cons_succ, i64_w, i32_w]
          rfl
        refine last_ (i := 12) (N := none) #[true, true, true, true, true, true, true, true, true, true, true, true, true] rfl rfl (by kernel_rfl) (by decide) (fun K hK => ?_)
        refine skip_ (w1 := ?_) (by rfl) rfl ?_ ?_
        rotate_left
        · go_simp
          rfl
        refine hK.out _ _ ?_
        clear hK K
        refine done_ (by kernel_rfl) ?_
        gi_wp2
        go_roundw
        case rel => exact ⟨j + 1, _, by have := HJ.out; omega, by go_num, P1⟩
        case measure => simp [intOf]; omega
      · obtain rfl : j = L.length := by omega
        have hlb : decide (((L.length : Nat) : Int) < (L.length : Int)) = false := decide_eq_false (by omega)
        have HTL : Aside0 (tagL (L.take L.length) (i : Int) = tagL L (i : Int)) := ⟨by rw [List.take_length]⟩
        have hOL := ILr.out.oi
        rw [HTL.out] at hOL
        have OL := Aside0.mk hOL
        have HDF := Aside0.mk ILr.out.d
        have HLF := Aside0.mk ILr.out.l
        have HSF := Aside0.mk ILr.out.sec
        have HZF : Aside0 (w.heap.size + 3 ≤ wr.heap.size) := ⟨by have h1 := ILr.out.w5; have h2 := ILr.out.sz; omega⟩
        have kp : wr.cell? ⟨w.heap.size + 1, 0, none⟩ = some (.pointer (some ⟨w.heap.size, 0, none⟩)) := blk_cell hOL.p 0
        have f1 : wr.frozen? ⟨w.heap.size, 1, none⟩ = false := blk_frozen hOL.sv.blk 1
        have k1 : wr.cell? ⟨w.heap.size, 1, none⟩ = some (.int .i64 ai) := blk_cell hOL.sv.blk 1
        clear hOL hlt
        by_cases hbk : blankB sec = true
        · gi_wp2_with (refine ⟨trivial, ?_⟩; gi_at_call 43; refine (CallsIn.inRound l (callsIn_wide.2 (empty64_calls g2 sec wr HS64.out HSF.out))).mono ?_; rw [hbk]; rintro e W2 ⟨rfl, rfl⟩)
          refine ⟨HDF.out, HLF.out, ⟨v5, ?_⟩, HZF.out⟩
          first | exact OL.out | (rw [if_pos hbk]; exact OL.out)
        · have hbf : blankB sec = false := by simpa using hbk
          gi_wp2_with (refine ⟨trivial, ?_⟩; gi_at_call 43; refine (CallsIn.inRound l (callsIn_wide.2 (empty64_calls g2 sec wr HS64.out HSF.out))).mono ?_; rw [hbf]; rintro e W2 ⟨rfl, rfl⟩)
          have hh : ∀ k, k ≠ w.heap.size → (wr.setCell ⟨w.heap.size, 1, none⟩ (.int .i64 ((i : Int) + 1))).heap[k]? = wr.heap[k]? := fun k hk => Below.heap_setCell wr ⟨w.heap.size, 1, none⟩ _ k hk
          refine ⟨(hh _ (by omega)).trans HDF.out, (hh _ (by omega)).trans HLF.out, ⟨v5, ?_⟩, by simpa using HZF.out⟩
          first | exact OL.out.at_ HF.out _ | (rw [if_neg hbk]; exact OL.out.at_ HF.out _)
  case done =>
    rintro W ⟨⟨v4, h⟩, hs⟩ hK
    have HO := Aside0.mk h
    have hk1 : W.cell? ⟨w.heap.size + 1, 0, none⟩ = some (.pointer (some ⟨w.heap.size, 0, none⟩)) := blk_cell h.p 0
    rw [HSZ.out] at hK ⊢
    clear h
    gi_wp2
    refine ⟨by simp, .inl ⟨_, _, rfl, run_takeDeferred hK, ?_⟩⟩
    have fr := putObj_fr (.deferred none) hK
    have h2 := HO.out.keep HF.out fr (fun q hq => by omega) (fun q hq => by omega)
    have hz := HSZ.out
    refine ⟨.tuple #[.pointer (some ⟨w.heap.size, 0, none⟩), .int .i64 0], by simp [results, Try.results13, go_sem], w.heap.size, v4, rfl, ?_, Nat.le_refl _, ?_⟩
    · exact h2.sv.okto (fun _ _ _ _ => trivial)
    · exact h2.b
end Go.Proofs.Ytldddinebhopcaa.St
