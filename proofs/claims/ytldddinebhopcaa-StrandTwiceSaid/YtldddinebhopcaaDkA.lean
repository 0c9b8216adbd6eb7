/- sector.Disk: its contracts, up to Sync's. -/
import Derived.Test.YtldddinebhopcaaFr
import Derived.Test.YtldddinebhopcaaAr
namespace Go.Proofs.Ytldddinebhopcaa.Sec
open Go.RowKit Go.Proofs.YtldddinebhopcaaW.PrintWords Go.Proofs.YtldddinebhopcaaW.PrintLast Go.Proofs.YtldddinebhopcaaW.PrintMore Go.Proofs.Ytldddinebhopcaa.Bs Go.Proofs.Ytldddinebhopcaa.Fr
set_option linter.unusedVariables false
set_option linter.unusedSimpArgs false

def kB : Kd (List Int) := Kd.arr 64 (Kd.int .u8) (Nat.succ_pos _)
def kW : Kd (Int × List Int) := Kd.pair (Kd.int .i64) kB
structure DM where
  sure : List (List Int)
  now : List (List Int)
  since : List (Int × List Int)
  wait : List Int
  ops : Int
/-- The disk of block g, its rows told. -/
structure DV (w : World) (base g : Nat) (v0 v1 v2 v3 : Value) (m : DM) : Prop where
  blk : w.heap[g]? = some (.cells #[v0, v1, v2, v3, .int .i64 m.ops, .func (.func 65) #[.pointer (some ⟨g, 0, none⟩)] #[]] 93 (0, 0))
  sure : Kd.R kB 94 w base (fun _ => True) v0 m.sure
  now : Kd.R kB 94 w base (fun _ => True) v1 m.now
  since : Kd.R kW 96 w base (fun _ => True) v2 m.since
  wait : Kd.Q (Kd.int .u8) 5 w base (fun _ => True) v3 m.wait
  ap : ∀ k, own v0 k → ¬ own v1 k
  byt : ∀ x ∈ m.wait, 0 ≤ x ∧ x ≤ 255
  len : m.sure.length = m.now.length
  n1 : 1 ≤ m.now.length
  n2 : m.now.length ≤ 4096
  at_ : ∀ p ∈ m.since, 0 ≤ p.1 ∧ p.1 < m.now.length
  ge : base ≤ g
def foot (g : Nat) (v0 v1 v2 v3 : Value) : Nat → Prop := fun k => k = g ∨ own v0 k ∨ own v1 k ∨ own v2 k ∨ own v3 k
section
variable {w w' : World} {base g : Nat} {v0 v1 v2 v3 : Value} {m : DM}
theorem DV.keep (h : DV w base g v0 v1 v2 v3 m) {F : Nat → Prop} (k : Fr w w' F) (hn : ∀ q, foot g v0 v1 v2 v3 q → ¬ F q) : DV w' base g v0 v1 v2 v3 m where
  blk := k.blk h.blk (hn g (.inl rfl))
  sure := R_fr h.sure rfl k (fun q hq => hn q (.inr (.inl hq)))
  now := R_fr h.now rfl k (fun q hq => hn q (.inr (.inr (.inl hq))))
  since := R_fr h.since rfl k (fun q hq => hn q (.inr (.inr (.inr (.inl hq)))))
  wait := Q_fr h.wait rfl k (fun q hq => hn q (.inr (.inr (.inr (.inr hq)))))
  ap := h.ap
  byt := h.byt
  len := h.len
  n1 := h.n1
  n2 := h.n2
  at_ := h.at_
  ge := h.ge
theorem DV.below (h : DV w base g v0 v1 v2 v3 m) (hb : Below w.heap.size w w') : DV w' base g v0 v1 v2 v3 m := h.keep (Fr.of_below hb (fun _ => False)) (fun _ _ hk => hk)
theorem DV.foot_ge (h : DV w base g v0 v1 v2 v3 m) : ∀ k, foot g v0 v1 v2 v3 k → base ≤ k := by
  rintro k (rfl | hk | hk | hk | hk)
  · exact h.ge
  · exact R_ge h.sure hk
  · exact R_ge h.now hk
  · exact R_ge h.since hk
  · exact Kd.Q_base h.wait k hk
theorem DV.foot_lt (h : DV w base g v0 v1 v2 v3 m) : ∀ k, foot g v0 v1 v2 v3 k → k < w.heap.size := by
  rintro k (rfl | hk | hk | hk | hk)
  · exact blk_lt h.blk
  · exact R_lt' h.sure hk
  · exact R_lt' h.now hk
  · exact R_lt' h.since hk
  · exact Kd.Q_lt h.wait k hk
/-- The disk's own block is no row's. -/
theorem DV.ne (h : DV w base g v0 v1 v2 v3 m) : ¬ own v0 g ∧ ¬ own v1 g ∧ ¬ own v2 g ∧ ¬ own v3 g :=
  ⟨fun he => Kd.R_ne h.sure h.blk (by decide) he.symm, fun he => Kd.R_ne h.now h.blk (by decide) he.symm, fun he => Kd.R_ne h.since h.blk (by decide) he.symm, fun he => Kd.Q_ne h.wait h.blk (by decide) he.symm⟩
end

set_option maxHeartbeats 1000000 in
set_option maxRecDepth 100000 in
theorem Size_calls (w : World) (base g : Nat) (v0 v1 v2 v3 : Value) (m : DM) (h : DV w base g v0 v1 v2 v3 m) :
    Calls Try.prog 37 #[.pointer (some ⟨g, 0, none⟩)] w fun e w' => e = .returned (.int .i64 m.now.length) ∧ w = w' := by
  obtain ⟨A, c, rfl⟩ := Kd.R_slice h.now
  have k1 : w.cell? ⟨g, 1, none⟩ = some (.slice A m.now.length c) := blk_cell h.blk 1
  clear h
  go_enter Try.func37, Try.ntmps37
  go_wp2
  go_ret
  exact ⟨rfl, rfl⟩
theorem Size_nil (w : World) : Calls Try.prog 37 #[.pointer none] w fun e w' => e = .returned (.int .i64 0) ∧ w = w' := by
  go_enter Try.func37, Try.ntmps37
  go_wp2
  go_ret
  exact ⟨rfl, rfl⟩
set_option maxHeartbeats 1000000 in
set_option maxRecDepth 100000 in
theorem Ops_calls (w : World) (base g : Nat) (v0 v1 v2 v3 : Value) (m : DM) (h : DV w base g v0 v1 v2 v3 m) :
    Calls Try.prog 34 #[.pointer (some ⟨g, 0, none⟩)] w fun e w' => e = .returned (.int .i64 m.ops) ∧ w = w' := by
  have k1 : w.cell? ⟨g, 4, none⟩ = some (.int .i64 m.ops) := blk_cell h.blk 4
  clear h
  go_enter Try.func34, Try.ntmps34
  go_wp2
  go_ret
  exact ⟨rfl, rfl⟩

theorem DV.rows {w w' : World} {base g : Nat} {v0 v1 v2 v3 : Value} {m : DM} (h : DV w base g v0 v1 v2 v3 m) (fr : Fr w w' (fun k => k = g)) :
    Kd.R kB 94 w' base (fun _ => True) v0 m.sure ∧ Kd.R kB 94 w' base (fun _ => True) v1 m.now ∧ Kd.R kW 96 w' base (fun _ => True) v2 m.since ∧ Kd.Q (Kd.int .u8) 5 w' base (fun _ => True) v3 m.wait := by
  obtain ⟨n0, n1, n2, n3⟩ := h.ne
  exact ⟨R_fr h.sure rfl fr (fun k hk he => n0 (he ▸ hk)), R_fr h.now rfl fr (fun k hk he => n1 (he ▸ hk)), R_fr h.since rfl fr (fun k hk he => n2 (he ▸ hk)), Q_fr h.wait rfl fr (fun k hk he => n3 (he ▸ hk))⟩
def outc (m : DM) : Int := match m.wait with | [] => 0 | c :: _ => c % 3
def took (m : DM) : DM := ⟨m.sure, m.now, m.since, m.wait.tail, m.ops + 1⟩
theorem outc_range (m : DM) : 0 ≤ outc m ∧ outc m ≤ 2 := by
  unfold outc
  split
  · omega
  · omega

set_option maxHeartbeats 1000000 in
set_option maxRecDepth 100000 in
theorem next_calls (w : World) (base g : Nat) (v0 v1 v2 v3 : Value) (m : DM) (h : DV w base g v0 v1 v2 v3 m) (ho : 0 ≤ m.ops ∧ m.ops ≤ 1000000000) :
    Calls Try.prog 65 #[.pointer (some ⟨g, 0, none⟩)] w fun e w' => e = .returned (.int .i64 (outc m)) ∧ ∃ v3', DV w' base g v0 v1 v2 v3' (took m) ∧ (∀ k, own v3' k → own v3 k) ∧ Fr w w' (fun k => k = g) := by
  obtain ⟨A, c, rfl, hcl⟩ := Kd.Q_slice h.wait
  have H := Aside0.mk h
  have k3 : w.cell? ⟨g, 3, none⟩ = some (.slice A m.wait.length c) := blk_cell h.blk 3
  have k4 : w.cell? ⟨g, 4, none⟩ = some (.int .i64 m.ops) := blk_cell h.blk 4
  have f3 : w.frozen? ⟨g, 3, none⟩ = false := blk_frozen h.blk 3
  have f4 : w.frozen? ⟨g, 4, none⟩ = false := blk_frozen h.blk 4
  clear h
  go_enter Try.func65, Try.ntmps65
  by_cases hw : m.wait.length = 0
  · have hw1 : ((m.wait.length : Int) == 0) = true := beq_iff_eq.mpr (by omega)
    have hnil : m.wait = [] := List.eq_nil_of_length_eq_zero hw
    have HN := Aside0.mk hnil
    clear hnil hw
    go_wp2_with fail
    go_ret
    have fr : Fr w (w.setCell ⟨g, 4, none⟩ (.int .i64 (m.ops + 1))) (fun k => k = g) := Fr.set (g := g) (o := 4) (F := fun k => k = g) (Fr.refl w _) (.inl rfl) _
    obtain ⟨r0, r1, r2, r3⟩ := H.out.rows fr
    have h := H.out
    refine ⟨by unfold outc; rw [HN.out]; rfl, .slice A m.wait.length c, ⟨blk_set h.blk 4 _, r0, r1, r2, ?_, h.ap, ?_, h.len, h.n1, h.n2, h.at_, h.ge⟩, fun k hk => hk, fr⟩
    · show Kd.Q (Kd.int .u8) 5 _ base (fun _ => True) _ m.wait.tail
      rw [HN.out] at r3 ⊢
      exact r3
    · intro x hx
      have hx : x ∈ m.wait.tail := hx
      rw [HN.out] at hx; cases hx
  · have hw1 : ((m.wait.length : Int) == 0) = false := beq_eq_false_iff_ne.mpr (by omega)
    have hw2 : (1 : Int) ≤ (m.wait.length : Int) := by omega
    have HW := Aside0.mk hw
    clear hw
    go_upto_region 2 with fail
    have fr : Fr w (w.setCell ⟨g, 4, none⟩ (.int .i64 (m.ops + 1))) (fun k => k = g) := Fr.set (g := g) (o := 4) (F := fun k => k = g) (Fr.refl w _) (.inl rfl) _
    have hb1 := blk_set H.out.blk 4 (.int .i64 (m.ops + 1))
    obtain ⟨r0, r1, r2, r3⟩ := H.out.rows fr
    have FR := Aside0.mk fr
    have HB1 := Aside0.mk hb1
    have RR := Aside0.mk (And.intro r0 (And.intro r1 (And.intro r2 r3)))
    clear fr hb1 r0 r1 r2 r3 k3 k4 f3 f4
    generalize w.setCell ⟨g, 4, none⟩ (.int .i64 (m.ops + 1)) = w1 at *
    have k3 : w1.cell? ⟨g, 3, none⟩ = some (.slice A m.wait.length c) := blk_cell HB1.out 3
    have f3 : w1.frozen? ⟨g, 3, none⟩ = false := blk_frozen HB1.out 3
    obtain ⟨ad, rfl, hx⟩ := (Kd.reads_of_C (d := (0 : Int)) (Kd.Q_reads' RR.out.2.2.2).2.2).at_ 0 (by omega) (by omega)
    obtain ⟨x, hxx⟩ : ∃ x, x = rdOf 0 m.wait 0 := ⟨_, rfl⟩
    rw [← hxx] at hx
    have hcons : ∃ l, m.wait = x :: l := by
      cases hm : m.wait with
      | nil => exact absurd (by rw [hm]; rfl) HW.out
      | cons y l => exact ⟨l, by rw [hxx, hm]; rfl⟩
    have hxr : 0 ≤ x ∧ x ≤ 255 := by obtain ⟨l, hl⟩ := hcons; exact H.out.byt x (by rw [hl]; exact List.mem_cons_self)
    have HCN := Aside0.mk hcons
    clear hcons hxx
    have e0 : ad.add (Int.toNat 0) = ad := by simp [Addr.add]
    rw [e0] at hx
    clear e0
    go_wp2_with fail
    all_goals
      go_ret
      have hd := Kd.Q_drop (k := 1) RR.out.2.2.2 (by omega)
      have h := H.out
      obtain ⟨l, hl⟩ := HCN.out
      have hout : outc m = x % 3 := by unfold outc; rw [hl]
      have htail : m.wait.drop 1 = m.wait.tail := by rw [hl]; rfl
      rw [htail] at hd
      have hbyt : ∀ y ∈ m.wait.tail, 0 ≤ y ∧ y ≤ 255 := fun y hy => h.byt y (List.mem_of_mem_tail hy)
    · rename_i hc1
      subst hc1
      rw [if_pos rfl] at hd
      have hd : Kd.Q (Kd.int .u8) 5 w1 base (fun _ => True) (.slice (some ad) (m.wait.length - 1) 0) m.wait.tail := hd
      have fr2 : Fr w (w1.setCell ⟨g, 3, none⟩ (.slice (some ad) (m.wait.length - 1) 0)) (fun k => k = g) := Fr.set (g := g) (o := 3) FR.out (.inl rfl) _
      have fr3 : Fr w1 (w1.setCell ⟨g, 3, none⟩ (.slice (some ad) (m.wait.length - 1) 0)) (fun k => k = g) := Fr.set (g := g) (o := 3) (F := fun k => k = g) (Fr.refl w1 _) (.inl rfl) _
      obtain ⟨r0, r1, r2, r3⟩ := h.rows fr2
      have hne : ∀ k, own (.slice (some ad) (m.wait.length - 1) 0) k → ¬ k = g := fun k hk he => h.ne.2.2.2 (by subst he; simpa [own, Value.ownBlock] using hk)
      exact ⟨by rw [hout]; rfl, _, ⟨blk_set HB1.out 3 _, r0, r1, r2, Q_fr hd rfl fr3 hne, h.ap, hbyt, h.len, h.n1, h.n2, h.at_, h.ge⟩, fun k hk => by simpa [own, Value.ownBlock] using hk, fr2⟩
    · rename_i hc1
      rw [if_neg hc1] at hd
      have hd : Kd.Q (Kd.int .u8) 5 w1 base (fun _ => True) (.slice (some ⟨ad.block, ad.off + 1, none⟩) (m.wait.length - 1) (c - 1)) m.wait.tail := hd
      have fr2 : Fr w (w1.setCell ⟨g, 3, none⟩ (.slice (some ⟨ad.block, ad.off + 1, none⟩) (m.wait.length - 1) (c - 1))) (fun k => k = g) := Fr.set (g := g) (o := 3) FR.out (.inl rfl) _
      have fr3 : Fr w1 (w1.setCell ⟨g, 3, none⟩ (.slice (some ⟨ad.block, ad.off + 1, none⟩) (m.wait.length - 1) (c - 1))) (fun k => k = g) := Fr.set (g := g) (o := 3) (F := fun k => k = g) (Fr.refl w1 _) (.inl rfl) _
      obtain ⟨r0, r1, r2, r3⟩ := h.rows fr2
      have hne : ∀ k, own (.slice (some ⟨ad.block, ad.off + 1, none⟩) (m.wait.length - 1) (c - 1)) k → ¬ k = g := fun k hk he => h.ne.2.2.2 (by subst he; simpa [own, Value.ownBlock] using hk)
      exact ⟨by rw [hout]; rfl, _, ⟨blk_set HB1.out 3 _, r0, r1, r2, Q_fr hd rfl fr3 hne, h.ap, hbyt, h.len, h.n1, h.n2, h.at_, h.ge⟩, fun k hk => by simpa [own, Value.ownBlock] using hk, fr2⟩
def zB : List Int := []
/-- Sector i of a row of sectors: where its cells lie. -/
theorem sector_at {w : World} {base go n c : Nat} {xs : List (List Int)} (h : Kd.R kB 94 w base (fun _ => True) (.slice (some ⟨go, 0, none⟩) n c) xs) (i : Nat) (hi : i < n) :
    (xs.getD i zB).length = 64 ∧ w.rangeAt go (i * 64) (encs (Value.int .u8) (xs.getD i zB)) ∧ w.there go (i * 64) 64 := by
  obtain ⟨cs, hl, hM, hc, hf⟩ := Kd.R_elem h zB i (by omega) (by omega)
  have hM : Kd.M (Kd.arr 64 (Kd.int .u8) (Nat.succ_pos _)) w base (fun k => True ∧ k ≠ go) (xs.getD i zB) cs := by rw [Int.toNat_natCast] at hM; exact hM
  obtain ⟨h1, rfl⟩ := Kd.arr_cells (Kd.K_of_M _ hM)
  rw [Int.toNat_natCast] at hc hf
  have hl : (encs (Value.int .u8) (xs.getD i zB)).length = 64 := hl
  refine ⟨h1, fun j v hv => hc j v hv, fun j hj => ⟨?_, hf j⟩⟩
  rw [show (⟨go, i * 64 + j, none⟩ : Addr) = ⟨go, i * kB.sz + j, none⟩ from rfl, hc j _ (List.getElem?_eq_getElem (by omega))]
  rfl
theorem info89 : (Try.prog.info? 94).map (·.size) = some 64 := by kernel_rfl

theorem one_u8 (xs : List Int) : ∀ v ∈ encs (Value.int .u8) xs, v.oneCell' = true := by
  intro v hv
  obtain ⟨x, _, rfl⟩ := List.mem_map.1 hv
  rfl
def z64 : Array Value := (encs (Value.int .u8) (List.replicate 64 0)).toArray
theorem z64_size : z64.size = 64 := rfl

set_option maxHeartbeats 1000000 in
set_option maxRecDepth 100000 in
theorem Read_calls (w : World) (base g : Nat) (v0 v1 v2 v3 : Value) (m : DM) (h : DV w base g v0 v1 v2 v3 m) (i : Nat) (hi : i < m.now.length) :
    Calls Try.prog 38 #[.pointer (some ⟨g, 0, none⟩), .int .i64 i] w fun e w' => ∃ g2, e = .returned (.tuple #[.slice (some ⟨g2, 0, none⟩) 64 64, .int .i64 0]) ∧ w.heap.size ≤ g2 ∧ w'.heap[g2]? = some (.cells (encs (Value.int .u8) (m.now.getD i zB)).toArray 94 (0, 0)) ∧ (m.now.getD i zB).length = 64 ∧ Below w.heap.size w w' := by
  obtain ⟨go, co, rfl, gb, gl, cl, HG⟩ := Kd.R_form h.now (by omega)
  have H := Aside0.mk h
  obtain ⟨s1, s2, s3⟩ := sector_at h.now i hi
  have HS := Aside0.mk (And.intro s1 (And.intro s2 s3))
  have k1 : w.cell? ⟨g, 1, none⟩ = some (.slice (some ⟨go, 0, none⟩) m.now.length co) := blk_cell h.blk 1
  have hi0 : ¬ ((i : Int) < 0) := by omega
  have hi1 : (i : Int) < (m.now.length : Int) := by omega
  have hn0 : ((m.now.length : Int) == 0) = false := beq_eq_false_iff_ne.mpr (by omega)
  clear h s1 s2 s3 hi
  generalize m.now.getD i zB = b at *
  go_enter Try.func38, Try.ntmps38
  go_wp2_with (first
    | (go_at_call 37; refine (Size_calls _ _ _ _ _ _ _ m H.out).mono ?_; rintro e w1 ⟨rfl, rfl⟩)
    | (refine wpList_load_mid rfl 94 (.tmp 23) rfl go (i * 64) ?_ (encs (Value.int .u8) b) _ HS.out.2.1 Try.underlying94 rfl (by rw [encs_length, HS.out.1]; exact info89) ?_; (focus (go_simp; done)))
    | ((with_reducible refine gate_dst (N := 6) rfl ?_); refine box_event ?hg (N := 6) ?hd (cs := z64) (t := 94) ?hr ?_; (case hd => rfl); (case hg => rfl); (case hr => first | (go_simp; done) | (go_simp; rfl)); intro g2 hg2 w2 hbox hb; have HG2 := Aside0.mk hg2; have HX2 := Aside0.mk hbox; have HB2 := Aside0.mk hb; clear hg2 hbox hb)
    | (refine wp_fill rfl 94 (.tmp 6) (.tmp 24) rfl g2 z64 94 (encs (Value.int .u8) b) HX2.out rfl rfl (by rw [encs_length, HS.out.1]; rfl) info89 (one_u8 b) ?_; intro w3 hx3 hf3; have HX3 := Aside0.mk hx3; have HF3 := Aside0.mk hf3; clear hx3 hf3))
  go_ret2
  exact ⟨g2, rfl, by rw [HG2.out]; exact Nat.le_refl _, HX3.out, HS.out.1, ((HB2.out : Below w.heap.size w w2).trans (HF3.out.to (by have := HB2.out.size; omega) (fun k hk => by rw [hk, HG2.out]; exact Nat.le_refl _)))⟩
set_option maxHeartbeats 1000000 in
set_option maxRecDepth 100000 in
theorem Read_out (w : World) (base g : Nat) (v0 v1 v2 v3 : Value) (m : DM) (h : DV w base g v0 v1 v2 v3 m) (i : Int) (hi : i < 0 ∨ (m.now.length : Int) ≤ i) :
    Calls Try.prog 38 #[.pointer (some ⟨g, 0, none⟩), .int .i64 i] w fun e w' => e = .returned (.tuple #[.slice none 0 0, .int .i64 1]) ∧ w = w' := by
  have H := Aside0.mk h
  have hn0 : ((m.now.length : Int) == 0) = false := beq_eq_false_iff_ne.mpr (by have := h.n1; omega)
  clear h
  go_enter Try.func38, Try.ntmps38
  by_cases h0 : i < 0
  · go_wp2_with (first
      | (go_at_call 37; refine (Size_calls _ _ _ _ _ _ _ m H.out).mono ?_; rintro e w1 ⟨rfl, rfl⟩))
    go_ret2
    exact ⟨rfl, rfl⟩
  · have h1 : i ≥ (m.now.length : Int) := by omega
    go_wp2_with (first
      | (go_at_call 37; refine (Size_calls _ _ _ _ _ _ _ m H.out).mono ?_; rintro e w1 ⟨rfl, rfl⟩))
    go_ret2
    exact ⟨rfl, rfl⟩
theorem info91 : (Try.prog.info? 96).map (·.size) = some Try.zeroCells96.size := by kernel_rfl
theorem one_w (i : Int) (xs : List Int) : ∀ v ∈ Value.int .i64 i :: encs (Value.int .u8) xs, v.oneCell' = true := by
  intro v hv
  rcases List.mem_cons.1 hv with rfl | hv
  · rfl
  · exact one_u8 xs v hv
theorem fold_set (o : Nat) : ∀ (l : List Value) (k : Nat) (A : Array Value), o + k + l.length ≤ A.size → ((l.zipIdx k).foldl (fun cs x => cs.setIfInBounds (o + x.2) x.1) A).toList = A.toList.take (o + k) ++ l ++ A.toList.drop (o + k + l.length)
  | [], k, A, h => by simp
  | v :: r, k, A, h => by
    simp only [List.length_cons] at h
    simp only [List.zipIdx_cons, List.foldl_cons]
    rw [fold_set o r (k + 1) _ (by simp; omega), Array.toList_setIfInBounds]
    have ho : o + k < A.toList.length := by rw [Array.length_toList]; omega
    rw [show o + (k + 1) = o + k + 1 by omega, List.drop_set_of_lt (by omega), List.take_set, List.take_add_one, List.getElem?_eq_getElem ho]
    simp only [List.length_cons, Option.toList_some]
    rw [List.set_append_right _ _ (by rw [List.length_take]; omega)]
    have : o + k - (A.toList.take (o + k)).length = 0 := by rw [List.length_take]; omega
    rw [this, show o + k + 1 + r.length = o + k + (r.length + 1) by omega]
    simp
theorem run_build91 (w : World) (i : Int) (b : List Int) (hb : b.length = 64) :
    (Instr.build 96 #[(0, Value.int .i64 i), (1, Value.agg (encs (Value.int .u8) b).toArray)]).run Try.prog w = .ok (.agg (Value.int .i64 i :: encs (Value.int .u8) b).toArray) w := by
  have hl : (encs (Value.int .u8) b).length = 64 := by rw [encs_length]; exact hb
  have hz : Try.zeroCells96.size = 65 := by decide
  have h1 : (List.foldl (fun cs (x : Value × Nat) => cs.setIfInBounds (1 + x.2) x.1) (Try.zeroCells96.setIfInBounds 0 (Value.int IntKind.i64 i)) (encs (Value.int .u8) b).zipIdx) = (Value.int .i64 i :: encs (Value.int .u8) b).toArray := by
    apply Array.ext'
    rw [fold_set 1 _ 0 _ (by rw [hl]; simp [hz]), hl]
    have h2 : (Try.zeroCells96.setIfInBounds 0 (Value.int IntKind.i64 i)).toList.length = 65 := by simp [hz]
    rw [List.drop_of_length_le (by omega)]
    have h3 : (Try.zeroCells96.setIfInBounds 0 (Value.int IntKind.i64 i)).toList.take (1 + 0) = [Value.int .i64 i] := by rfl
    rw [h3]
    simp
  have hn1 : ¬ (¬ (encs (Value.int .u8) b).length = 64 ∨ 65 < 1 + (encs (Value.int .u8) b).length) := by omega
  go_simp
theorem build_w (a : Act) (o : Oper) (w : World) (x y : Operand) (i : Int) (b : List Int) (hb : b.length = 64) (ho : o.op = Op.build 96 #[(0, x), (1, y)]) (hx : a.eval x = .int .i64 i) (hy : a.eval y = .agg (encs (Value.int .u8) b).toArray) :
    (execOp a.eval o).run Try.prog w = .ok (.value (.agg (Value.int .i64 i :: encs (Value.int .u8) b).toArray)) w := by
  have h := run_build91 w i b hb
  unfold execOp
  simp [ho, hx, hy, h, Result.andThen]
theorem run_bs86 (w : World) (cs : List Value) (hl : cs.length = 65) :
    (Instr.buildSlice 91 1 #[(0, Value.agg cs.toArray)]).run Try.prog w = .ok (.slice (some ⟨w.heap.size, 0, none⟩) 1 1) (w.alloc (.cells cs.toArray 96)) := by
  have hz : Try.zeroCells96.size = 65 := by decide
  have h1 : ∀ A : Array Value, A.size = 65 → (List.foldl (fun cs (x : Value × Nat) => cs.setIfInBounds x.2 x.1) A cs.zipIdx) = cs.toArray := by
    intro A hA
    apply Array.ext'
    have h2 := fold_set 0 cs 0 A (by omega)
    simp only [Nat.zero_add, Nat.add_zero, List.take_zero, List.nil_append] at h2
    rw [h2, List.drop_of_length_le (by rw [Array.length_toList]; omega)]
    simp
  go_simp
theorem bs_w (a : Act) (o : Oper) (w : World) (x : Operand) (cs : List Value) (hl : cs.length = 65) (ho : o.op = Op.buildSlice 91 1 #[(0, x)]) (hx : a.eval x = .agg cs.toArray) :
    (execOp a.eval o).run Try.prog w = .ok (.value (.slice (some ⟨w.heap.size, 0, none⟩) 1 1)) (w.alloc (.cells cs.toArray 96)) := by
  have h := run_bs86 w cs hl
  unfold execOp
  simp [ho, hx, h, Result.andThen]
def zW : Value := .agg (Value.int .i64 0 :: encs (Value.int .u8) (List.replicate 64 0)).toArray
theorem info91z : (Try.prog.info? 96).map (fun i => (i.zero, i.size, i.bytes)) = some (some zW, 65, 72) := by kernel_rfl
theorem mW {w : World} {base : Nat} {ok : Nat → Prop} (i : Int) (b : List Int) (hb : b.length = 64) : kW.M w base ok (i, b) (Value.int .i64 i :: encs (Value.int .u8) b) :=
  ⟨[Value.int .i64 i], encs (Value.int .u8) b, rfl, rfl, Kd.arr_of_cells hb⟩
def tell (x : Int) : Int := if x = 0 then 0 else 8
theorem told_calls (x : Int) (w : World) : Calls Try.prog 61 #[.int .i64 x] w fun e w' => e = .returned (.int .i64 (tell x)) ∧ w = w' := by
  go_enter Try.func61, Try.ntmps61
  by_cases h : x = 0
  · subst h
    go_wp2
    go_ret
    exact ⟨rfl, rfl⟩
  · have h1 : (x == 0) = false := beq_eq_false_iff_ne.mpr h
    go_wp2
    go_ret
    refine ⟨?_, rfl⟩
    unfold tell
    simp only [h]
    rfl
theorem run_arr (gb cb : Nat) (w : World) : (Instr.arrayAt 94 (.slice (some ⟨gb, 0, none⟩) 64 cb)).run Try.prog w = .ok (.pointer (some ⟨gb, 0, none⟩)) w := by
  simp [Instr.arrayAt, run_underlying Try.underlying94, Result.andThen]
/-- What a Write that is not lost leaves. -/
def setNow (m : DM) (i : Nat) (b : List Int) : DM := ⟨m.sure, m.now.set i b, m.since, m.wait, m.ops⟩
def wrote (m : DM) (i : Nat) (b : List Int) : DM := ⟨m.sure, m.now.set i b, m.since ++ [((i : Int), b)], m.wait.tail, m.ops + 1⟩

set_option maxHeartbeats 1000000 in
set_option maxRecDepth 100000 in
theorem Write_done (w : World) (base g : Nat) (v0 v1 v2 v3 : Value) (m : DM) (h : DV w base g v0 v1 v2 v3 m) (ho : 0 ≤ m.ops ∧ m.ops ≤ 1000000000) (hs : m.since.length ≤ 1000000) (i : Nat) (hi : i < m.now.length)
    (gb cb : Nat) (b : List Int) (hb : b.length = 64) (hB : w.rangeAt gb 0 (encs (Value.int .u8) b)) (hx : outc m ≠ 1) (hg : base ≤ w.heap.size) (hgb : gb ≠ g) :
    Calls Try.prog 45 #[.pointer (some ⟨g, 0, none⟩), .int .i64 i, .slice (some ⟨gb, 0, none⟩) 64 cb] w fun e w' => e = .returned (.int .i64 (tell (outc m))) ∧
      ∃ v2' v3', DV w' base g v0 v1 v2' v3' (wrote m i b) ∧ Fr w w' (foot g v0 v1 v2 v3) ∧ (∀ k, foot g v0 v1 v2' v3' k → foot g v0 v1 v2 v3 k ∨ w.heap.size ≤ k) ∧ ∀ k, own v3' k → own v3 k := by
  have H := Aside0.mk h
  have HO := Aside0.mk ho
  have hi0 : ¬ ((i : Int) < 0) := by omega
  have hi1 : (i : Int) < (m.now.length : Int) := by omega
  have hn0 : ((m.now.length : Int) == 0) = false := beq_eq_false_iff_ne.mpr (by omega)
  have k5 : w.cell? ⟨g, 5, none⟩ = some (.func (.func 65) #[.pointer (some ⟨g, 0, none⟩)] #[]) := blk_cell h.blk 5
  have HBB := Aside0.mk hB
  obtain ⟨x, hxx⟩ : ∃ x, x = outc m := ⟨_, rfl⟩
  have HXX := Aside0.mk hxx
  have hx1 : (x != 1) = true := bne_iff_ne.mpr (by rw [hxx]; exact hx)
  have HLN := Aside0.mk hb
  have harr := run_arr gb cb
  clear h ho hi hB hx hxx hb
  have hcl : (Value.int .i64 (i : Int) :: encs (Value.int .u8) b).length = 65 := by rw [List.length_cons, encs_length, HLN.out]
  have HCL := Aside0.mk hcl
  clear hcl
  go_enter Try.func45, Try.ntmps45
  go_upto_region 8 with (first
    | (go_at_call 37; refine (Size_calls _ _ _ _ _ _ _ m H.out).mono ?_; rintro e w1 ⟨rfl, rfl⟩)
    | (go_at_call 65; refine (next_calls _ _ _ _ _ _ _ m H.out HO.out).mono ?_; rintro e w1 ⟨rfl, v3a, hd, hsub, hfr⟩; rw [← HXX.out]; have H1 := Aside0.mk hd; have HF1 := Aside0.mk hfr; have HV1 := Aside0.mk hsub; clear hd hfr hsub k5; have HB1 : Aside0 (w1.rangeAt gb 0 (encs (Value.int .u8) b)) := ⟨range_fr HBB.out HF1.out hgb⟩)
    | (refine wpList_load_mid rfl 94 (.tmp 34) rfl gb 0 rfl (encs (Value.int .u8) b) _ HB1.out Try.underlying94 rfl (by rw [encs_length, HLN.out]; exact info89) ?_)
    | (refine Kd.event_run rfl (build_w _ _ _ (.tmp 32) (.tmp 35) (i : Int) b HLN.out rfl rfl rfl) ?_)
    | ((with_reducible refine gate_dst (N := 8) rfl ?_); refine box_event ?hg (N := 8) ?hd (cs := Try.zeroCells96) (t := 96) ?hr ?_; (case hd => rfl); (case hg => rfl); (case hr => first | (go_simp; done) | (go_simp; rfl)); intro g8 hg8 w2 hbox hb; have HG8 := Aside0.mk hg8; have HX2 := Aside0.mk hbox; have HB2 := Aside0.mk hb; clear hg8 hbox hb)
    | (refine wp_fill rfl 96 (.tmp 8) (.tmp 36) rfl g8 Try.zeroCells96 96 (Value.int .i64 (i : Int) :: encs (Value.int .u8) b) HX2.out rfl rfl HCL.out info91 (one_w _ b) ?_; intro w3 hx3 hf3; have HX3 := Aside0.mk hx3; have HF3 := Aside0.mk hf3; clear hx3 hf3))
  have fr3 : Fr w1 w3 (fun k => k = g8) := by
    have := HB2.out
    exact (Fr.of_below this (fun k => k = g8)).trans HF3.out (fun k hk => .inl hk)
  have hn8 : w1.heap.size ≤ g8 := by rw [HG8.out]; exact Nat.le_refl _
  have d3 : DV w3 base g v0 v1 v2 v3a (took m) := H1.out.keep fr3 (fun q hq he => by have := H1.out.foot_lt q hq; omega)
  obtain ⟨go, co, hv1, gb', gl, cl, HG⟩ := Kd.R_form d3.now (by show 0 < m.now.length; omega)
  have hv1 : v1 = .slice (some ⟨go, 0, none⟩) m.now.length co := hv1
  subst hv1
  clear hv1
  have k1 : w3.cell? ⟨g, 1, none⟩ = some (.slice (some ⟨go, 0, none⟩) m.now.length co) := blk_cell d3.blk 1
  have HR8 : Aside0 (w3.rangeAt g8 1 (encs (Value.int .u8) b)) := ⟨range_part HX3.out⟩
  have hthere := (sector_at d3.now i (by show i < m.now.length; omega)).2.2
  have HT : Aside0 (w3.there go (i * 64) (encs (Value.int .u8) b).toArray.size) := ⟨by rw [List.size_toArray, encs_length, HLN.out]; exact hthere⟩
  have D3 := Aside0.mk d3
  have FR3 := Aside0.mk (And.intro fr3 hn8)
  clear fr3 hn8 d3 hthere gb' gl HG
  refine start_ (n := 9) (S := fun w' => w'.cell? ⟨g, 1, none⟩ = some (.slice (some ⟨go, 0, none⟩) m.now.length co) ∧ w'.rangeAt g8 1 (encs (Value.int .u8) b)) (ds := [8]) #[false, false, false, false, false, false, false, false, false] (by kernel_rfl) rfl rfl ⟨k1, HR8.out⟩ (fun hHeld => ?_)
  refine pure_ (i := 0) (N := some 37) (v := ?_) (a' := ?_) #[true, false, false, false, false, false, false, false, false] rfl rfl (by kernel_rfl) (fun _ _ _ h => h) (Or.inl ⟨by rfl, ?_⟩) ?_ ?_
  rotate_left
  · intro w'
    go_simp
    with_reducible rfl
  rotate_left
  · simp only [Act.put, List.setIfInBounds_toArray, List.set_cons_zero, List.set_cons_succ, i64_w, i32_w]
    rfl
  refine pure_ (i := 1) (N := some 38) (v := ?_) (a' := ?_) #[true, true, false, false, false, false, false, false, false] rfl rfl (by kernel_rfl) (fun _ _ _ h => h) (Or.inl ⟨by rfl, ?_⟩) ?_ ?_
  rotate_left
  · intro w'
    go_simp
    with_reducible rfl
  rotate_left
  · simp only [Act.put, List.setIfInBounds_toArray, List.set_cons_zero, List.set_cons_succ, i64_w, i32_w]
    rfl
  refine pure_ (i := 2) (N := some 39) (v := ?_) (a' := ?_) #[true, true, true, false, false, false, false, false, false] rfl rfl (by kernel_rfl) (fun _ _ _ h => h) (Or.inl ⟨by rfl, ?_⟩) ?_ ?_
  rotate_left
  · intro w'
    go_simp
    with_reducible rfl
  rotate_left
  · simp only [Act.put, List.setIfInBounds_toArray, List.set_cons_zero, List.set_cons_succ, i64_w, i32_w]
    rfl
  refine pure_ (i := 4) (N := some 41) (v := ?_) (a' := ?_) #[true, true, true, false, true, false, false, false, false] rfl rfl (by kernel_rfl) (fun _ _ _ h => h) (Or.inl ⟨by rfl, ?_⟩) ?_ ?_
  rotate_left
  · intro w'
    go_simp
    with_reducible rfl
  rotate_left
  · simp only [Act.put, List.setIfInBounds_toArray, List.set_cons_zero, List.set_cons_succ, i64_w, i32_w]
    rfl
  refine pure_ (i := 5) (N := some 42) (v := ?_) (a' := ?_) #[true, true, true, false, true, true, false, false, false] rfl rfl (by kernel_rfl) (fun _ _ _ h => h) (Or.inl ⟨by rfl, ?_⟩) ?_ ?_
  rotate_left
  · intro w'
    go_simp
    with_reducible rfl
  rotate_left
  · simp only [Act.put, List.setIfInBounds_toArray, List.set_cons_zero, List.set_cons_succ, i64_w, i32_w]
    rfl
  refine take_ (i := 3) (N := some 40) (v := ?_) (a' := ?_) #[true, true, true, true, true, true, false, false, false] rfl rfl (by kernel_rfl) (fun _ _ _ h => h) (Or.inl ⟨by rfl, ?_⟩) hHeld ?_ ?_
  rotate_left
  · rintro w' ⟨s0, s1⟩
    go_simp
    with_reducible rfl
  rotate_left
  · simp only [Act.put, List.setIfInBounds_toArray, List.set_cons_zero, List.set_cons_succ, i64_w, i32_w]
    rfl
  refine take_ (i := 6) (N := some 43) (v := (.agg (encs (Value.int .u8) b).toArray)) (a' := ?aa_1) #[true, true, true, true, true, true, true, false, false] rfl rfl (by kernel_rfl) (fun _ _ _ h => h) ?hy_1 hHeld ?ha_1 ?h_1
  case hy_1 => refine yieldsIf_load_mid (S := fun w' => w'.cell? ⟨g, 1, none⟩ = some (.slice (some ⟨go, 0, none⟩) m.now.length co) ∧ w'.rangeAt g8 1 (encs (Value.int .u8) b)) ?_ 94 (.tmp 42) rfl g8 1 rfl (encs (Value.int .u8) b) _ (fun w' s => s.2) Try.underlying94 rfl (by rw [encs_length, HLN.out]; exact info89); rfl
  case ha_1 => simp only [Act.put, List.setIfInBounds_toArray, List.set_cons_zero, List.set_cons_succ, i64_w, i32_w]; rfl
  refine pure_ (i := 7) (N := some 44) (v := ?_) (a' := ?_) #[true, true, true, true, true, true, true, true, false] rfl rfl (by kernel_rfl) (fun _ _ _ h => h) (Or.inl ⟨by rfl, ?_⟩) ?_ ?_
  rotate_left
  · intro w'
    go_simp
    with_reducible rfl
  rotate_left
  · simp only [Act.put, List.setIfInBounds_toArray, List.set_cons_zero, List.set_cons_succ, i64_w, i32_w]
    rfl
  refine last_ (i := 8) (N := none) #[true, true, true, true, true, true, true, true, true] rfl rfl (by kernel_rfl) (by decide) (fun K hK => ?_)
  refine skip_ (w1 := w3.drew.setCells go (i * 64) (encs (Value.int .u8) b)) (by rfl) rfl ?_ ?_
  · exact run_store_mid 94 (.tmp 44) (.tmp 43) rfl go (i * 64) (encs (Value.int .u8) b).toArray (by go_simp) rfl HT.out (by rw [List.size_toArray, encs_length, HLN.out]; exact info89) (all_oneCell_toArray (one_u8 b))
  refine hK.out _ _ ?_
  clear hK K
  refine done_ (by kernel_rfl) ?_
  obtain ⟨w4, hw4⟩ : ∃ w4, w4 = w3.drew.setCells go (i * 64) (encs (Value.int .u8) b) := ⟨_, rfl⟩
  rw [← hw4]
  have d4 : DV w4 base g v0 (.slice (some ⟨go, 0, none⟩) m.now.length co) v2 v3a (setNow (took m) i b) ∧ Fr w3 w4 (fun k => k = go) ∧ go ≠ g ∧ go < w1.heap.size := by
    have d3 : DV w3.drew base g v0 (.slice (some ⟨go, 0, none⟩) m.now.length co) v2 v3a (took m) := D3.out.keep ((Fr.refl w3 (fun _ => False)).drew) (fun _ _ h => h)
    have fr4 : Fr w3.drew w4 (fun k => k = go) := by
      rw [hw4]
      exact Fr.setCells (F := fun k => k = go) (Fr.refl w3.drew _) (.inl rfl) _ _
    have hgo : own (.slice (some ⟨go, 0, none⟩) m.now.length co) go := rfl
    have hne := d3.ne
    have hil : (i : Int) < ((m.now.length : Nat) : Int) := by omega
    have hseg : Kd.R kB 94 w4 base (fun _ => True) (.slice (some ⟨go, 0, none⟩) m.now.length co) (m.now.set i b) := by
      obtain ⟨cs, hcl, hM, hcc, _⟩ := Kd.R_elem d3.now zB i (by omega) hil
      have h_ := (Kd.R_seg (okp := fun k => True ∧ k ≠ go) d3.now (i : Int) (by omega) hil hcl hcc (j := 0) (seg := encs (Value.int .u8) b) (by rw [encs_length, HLN.out]; exact Nat.le_refl 64) (x' := b) (by
        rw [List.take_zero, List.nil_append, List.drop_of_length_le (by rw [hcl, encs_length, HLN.out]; exact Nat.le_refl 64), List.append_nil]
        exact Kd.arr_of_cells HLN.out) (fun _ hk => hk)).1
      rw [hw4]
      have e1 : (i : Int).toNat * kB.sz + 0 = i * 64 := by rw [Int.toNat_natCast]; rfl
      rw [e1, Int.toNat_natCast] at h_
      exact h_
    have hty : ∃ cells, w3.drew.heap[go]? = some (.cells cells 94 (0, 0)) := by
      obtain ⟨inner, ho⟩ := Kd.R_own d3.now
      exact own_typed ho go rfl
    obtain ⟨cells, hc⟩ := hty
    have hsince := R_fr d3.since rfl fr4 (fun k hk he => by subst he; exact Kd.R_ne d3.since hc (by decide) hk.symm)
    have hwait := Q_fr d3.wait rfl fr4 (fun k hk he => by subst he; exact Kd.Q_ne d3.wait hc (by decide) hk.symm)
    have hsure := R_fr d3.sure rfl fr4 (fun k hk he => d3.ap k hk (he ▸ hgo))
    have hblk := fr4.blk d3.blk (fun he => hne.2.1 (he ▸ hgo))
    have hl : (m.now.set i b).length = m.now.length := List.length_set
    have hlen : m.sure.length = (m.now.set i b).length := by rw [hl]; exact d3.len
    have hn1 : 1 ≤ (m.now.set i b).length := by rw [hl]; exact d3.n1
    have hn2 : (m.now.set i b).length ≤ 4096 := by rw [hl]; exact d3.n2
    have hat : ∀ p ∈ m.since, 0 ≤ p.1 ∧ p.1 < ((m.now.set i b).length : Int) := by rw [hl]; exact d3.at_
    exact ⟨⟨hblk, hsure, hseg, hsince, hwait, d3.ap, d3.byt, hlen, hn1, hn2, hat, d3.ge⟩, ((Fr.refl w3 (fun k => k = go)).drew).trans fr4 (fun k hk => .inl hk), fun he => hne.2.1 (he ▸ hgo), R_lt' H1.out.now hgo⟩
  have D4 := Aside0.mk d4
  have hx4 : w4.heap[g8]? = some (.cells (Value.int .i64 (i : Int) :: encs (Value.int .u8) b).toArray 96 (0, 0)) := d4.2.1.blk HX3.out (by have := d4.2.2.2; have := FR3.out.2; omega)
  obtain ⟨A2, c2, hv2⟩ := Kd.R_slice d4.1.since
  have k2 : w4.cell? ⟨g, 2, none⟩ = some v2 := blk_cell d4.1.blk 2
  have hv2 : v2 = .slice A2 m.since.length c2 := hv2
  subst hv2
  clear hv2
  have HR9 : Aside0 (w4.rangeAt g8 0 (Value.int .i64 (i : Int) :: encs (Value.int .u8) b)) := ⟨range_blk hx4⟩
  have f2 : w4.frozen? ⟨g, 2, none⟩ = false := blk_frozen d4.1.blk 2
  clear d4 hx4 k1 hHeld
  go_upto_region 9 with fail
  have HSI : Aside0 (Kd.R kW 96 w4.drew base (fun _ => True) (.slice A2 m.since.length c2) m.since) := ⟨Kd.R_drew D4.out.1.since⟩
  have HBS : Aside0 (base ≤ w4.drew.heap.size) := ⟨by
    have h1 := D4.out.2.1.size
    have h2 := FR3.out.1.size
    have h3 := HF1.out.size
    show base ≤ w4.heap.size
    omega⟩
  refine start_ (n := 11) (S := fun w' => w'.cell? ⟨g, 2, none⟩ = some (.slice A2 m.since.length c2) ∧ w'.rangeAt g8 0 (Value.int .i64 (i : Int) :: encs (Value.int .u8) b)) (ds := [7, 10]) #[false, false, false, false, false, false, false, false, false, false, false] (by kernel_rfl) rfl rfl ⟨k2, HR9.out⟩ (fun hHeld => ?_)
  refine pure_ (i := 0) (N := some 45) (v := ?_) (a' := ?_) #[true, false, false, false, false, false, false, false, false, false, false] rfl rfl (by kernel_rfl) (fun _ _ _ h => h) (Or.inl ⟨by rfl, ?_⟩) ?_ ?_
  rotate_left
  · intro w'
    go_simp
    with_reducible rfl
  rotate_left
  · simp only [Act.put, List.setIfInBounds_toArray, List.set_cons_zero, List.set_cons_succ, i64_w, i32_w]
    rfl
  refine pure_ (i := 1) (N := some 46) (v := ?_) (a' := ?_) #[true, true, false, false, false, false, false, false, false, false, false] rfl rfl (by kernel_rfl) (fun _ _ _ h => h) (Or.inl ⟨by rfl, ?_⟩) ?_ ?_
  rotate_left
  · intro w'
    go_simp
    with_reducible rfl
  rotate_left
  · simp only [Act.put, List.setIfInBounds_toArray, List.set_cons_zero, List.set_cons_succ, i64_w, i32_w]
    rfl
  refine pure_ (i := 2) (N := some 47) (v := ?_) (a' := ?_) #[true, true, true, false, false, false, false, false, false, false, false] rfl rfl (by kernel_rfl) (fun _ _ _ h => h) (Or.inl ⟨by rfl, ?_⟩) ?_ ?_
  rotate_left
  · intro w'
    go_simp
    with_reducible rfl
  rotate_left
  · simp only [Act.put, List.setIfInBounds_toArray, List.set_cons_zero, List.set_cons_succ, i64_w, i32_w]
    rfl
  refine pure_ (i := 3) (N := some 48) (v := ?_) (a' := ?_) #[true, true, true, true, false, false, false, false, false, false, false] rfl rfl (by kernel_rfl) (fun _ _ _ h => h) (Or.inl ⟨by rfl, ?_⟩) ?_ ?_
  rotate_left
  · intro w'
    go_simp
    with_reducible rfl
  rotate_left
  · simp only [Act.put, List.setIfInBounds_toArray, List.set_cons_zero, List.set_cons_succ, i64_w, i32_w]
    rfl
  refine take_ (i := 4) (N := some 49) (v := ?_) (a' := ?_) #[true, true, true, true, true, false, false, false, false, false, false] rfl rfl (by kernel_rfl) (fun _ _ _ h => h) (Or.inl ⟨by rfl, ?_⟩) hHeld ?_ ?_
  rotate_left
  · rintro w' ⟨s0, s1⟩
    go_simp
    with_reducible rfl
  rotate_left
  · simp only [Act.put, List.setIfInBounds_toArray, List.set_cons_zero, List.set_cons_succ, i64_w, i32_w]
    rfl
  refine take_ (i := 5) (N := some 50) (v := (.agg (Value.int .i64 (i : Int) :: encs (Value.int .u8) b).toArray)) (a' := ?aa_2) #[true, true, true, true, true, true, false, false, false, false, false] rfl rfl (by kernel_rfl) (fun _ _ _ h => h) ?hy_2 hHeld ?ha_2 ?h_2
  case hy_2 => exact yieldsIf_load_mid (by rfl) 96 (.tmp 8) rfl g8 0 rfl (Value.int .i64 (i : Int) :: encs (Value.int .u8) b) _ (fun w' s => s.2) Try.underlying96 rfl (by rw [HCL.out]; exact info91)
  case ha_2 => simp only [Act.put, List.setIfInBounds_toArray, List.set_cons_zero, List.set_cons_succ, i64_w, i32_w]; rfl
  refine one_ (i := 6) (N := some 51) #[true, true, true, true, true, true, true, false, false, false, false] rfl rfl (by kernel_rfl) (by decide) (fun K hK => ?_)
  refine value_ (w1 := w4.drew.alloc (.cells (Value.int .i64 (i : Int) :: encs (Value.int .u8) b).toArray 96)) (v := .slice (some ⟨w4.drew.heap.size, 0, none⟩) 1 1) (by rfl) rfl ?_ ?_
  · exact bs_w _ _ _ (.tmp 50) (Value.int .i64 (i : Int) :: encs (Value.int .u8) b) HCL.out rfl rfl
  refine hK.out _ _ ⟨(cell_alloc_old (w := w4.drew) k2 _), (World.rangeAt_alloc (w := w4.drew) HR9.out _)⟩ (fun hHeld => ?_)
  clear hK K
  refine norm_ (a' := ?_) ?_ ?_
  rotate_left
  · show Act.put _ (some 51) _ = _
    simp only [Act.put, List.setIfInBounds_toArray, List.set_cons_zero, List.set_cons_succ, i64_w, i32_w]
    rfl
  refine last_ (i := 7) (N := some 52) #[true, true, true, true, true, true, true, true, false, false, false] rfl rfl (by kernel_rfl) (by decide) (fun K hK => ?_)
  refine Kd.R_append_step kW (w0 := w4.drew) base (by rfl) (.tmp 49) (.tmp 51) 91 96 zW 72 rfl Try.underlying91 info91z rfl (by decide) (by decide) (.slice A2 m.since.length c2) m.since ((i : Int), b) (Value.int .i64 (i : Int) :: encs (Value.int .u8) b) (fun _ => True) (fun _ => False) rfl rfl (mW _ b HLN.out) (fun _ hk => hk.elim) (fun _ _ => trivial) HSI.out (Below.refl _ _) HBS.out (by omega) ?_
  intro v5 w5 ho hb5 hg5 hat5
  obtain ⟨A5, c5, rfl⟩ := Kd.R_slice ho
  have hl5 : (m.since ++ [((i : Int), b)]).length = m.since.length + 1 := by simp
  rw [hl5] at *
  have HR5 := Aside0.mk ho
  have HG5 := Aside0.mk hg5
  have HA5 := Aside0.mk hat5
  have HB5 := Aside0.mk hb5
  have n5 : some g ≠ (Value.slice A2 m.since.length c2).ownBlock := fun he => D4.out.1.ne.2.2.1 he.symm
  have b5 := blk_grown (w := w4.drew) D4.out.1.blk hg5 n5
  have k5 : w5.cell? ⟨g, 2, none⟩ = some (.slice A2 m.since.length c2) := blk_cell b5 2
  have f5 : w5.frozen? ⟨g, 2, none⟩ = false := blk_frozen b5 2
  have HX5 := Aside0.mk b5
  clear ho hb5 hg5 hat5 b5 hl5 n5
  refine hK.out _ _ ?_
  clear hK K
  refine norm_ (a' := ?_) ?_ ?_
  rotate_left
  · show Act.put _ (some 52) _ = _
    simp only [Act.put, List.setIfInBounds_toArray, List.set_cons_zero, List.set_cons_succ, i64_w, i32_w]
    rfl
  refine pure_ (i := 8) (N := some 53) (v := ?_) (a' := ?_) #[true, true, true, true, true, true, true, true, true, false, false] rfl rfl (by kernel_rfl) (fun _ _ _ h => h) (Or.inl ⟨by rfl, ?_⟩) ?_ ?_
  rotate_left
  · intro w'
    go_simp
    with_reducible rfl
  rotate_left
  · simp only [Act.put, List.setIfInBounds_toArray, List.set_cons_zero, List.set_cons_succ, i64_w, i32_w]
    rfl
  refine pure_ (i := 9) (N := some 54) (v := ?_) (a' := ?_) #[true, true, true, true, true, true, true, true, true, true, false] rfl rfl (by kernel_rfl) (fun _ _ _ h => h) (Or.inl ⟨by rfl, ?_⟩) ?_ ?_
  rotate_left
  · intro w'
    go_simp
    with_reducible rfl
  rotate_left
  · simp only [Act.put, List.setIfInBounds_toArray, List.set_cons_zero, List.set_cons_succ, i64_w, i32_w]
    rfl
  refine last_ (i := 10) (N := none) #[true, true, true, true, true, true, true, true, true, true, true] rfl rfl (by kernel_rfl) (by decide) (fun K hK => ?_)
  refine skip_ (w1 := w5.setCell ⟨g, 2, none⟩ (.slice A5 (m.since.length + 1) c5)) (by rfl) rfl ?_ ?_
  · first | (go_simp; done) | (go_simp; rfl)
  refine hK.out _ _ ?_
  clear hK K
  refine done_ (by kernel_rfl) ?_
  clear hHeld k2 f2 hw4 HSI HBS HR9 HR8 HT
  go_wp2_with (go_at_call 61; refine (told_calls x _).mono ?_; rintro e w6 ⟨rfl, rfl⟩)
  go_ret
  refine ⟨by rw [HXX.out]; rfl, .slice A5 (m.since.length + 1) c5, v3a, ?_⟩
  have hl5 : (m.since ++ [((i : Int), b)]).length = m.since.length + 1 := by simp
  have hr5 := HR5.out
  have ha5 := HA5.out
  rw [hl5] at hr5 ha5
  have d4 := D4.out.1
  obtain ⟨n0, n1, n2, n3⟩ := d4.ne
  have hgrow : Fr w4 w5 (own (.slice A2 m.since.length c2)) := ((Fr.refl w4 (own (.slice A2 m.since.length c2))).drew).grown HG5.out (fun k hk => .inl hk)
  have fs : Fr w5 (w5.setCell ⟨g, 2, none⟩ (.slice A5 (m.since.length + 1) c5)) (fun k => k = g) := Fr.set (g := g) (o := 2) (F := fun k => k = g) (Fr.refl w5 _) (.inl rfl) _
  have fr5 : Fr w4 (w5.setCell ⟨g, 2, none⟩ (.slice A5 (m.since.length + 1) c5)) (fun k => k = g ∨ own (.slice A2 m.since.length c2) k) := (hgrow.mono (fun k hk => .inr hk)).trans fs (fun k hk => .inl (.inl hk))
  have hty2 : ∀ k, own (.slice A2 m.since.length c2) k → ∃ cells, w4.heap[k]? = some (.cells cells 96 (0, 0)) := fun k hk => by
    obtain ⟨inner, ho⟩ := Kd.R_own d4.since
    exact own_typed ho k hk
  have a0 : ∀ k, own v0 k → ¬ (k = g ∨ own (.slice A2 m.since.length c2) k) := fun k hk he => he.elim (fun he => n0 (he ▸ hk)) (fun he => by
    obtain ⟨cells, hc⟩ := hty2 k he
    exact Kd.R_ne d4.sure hc (by decide) hk.symm)
  have a1 : ∀ k, own (.slice (some ⟨go, 0, none⟩) m.now.length co) k → ¬ (k = g ∨ own (.slice A2 m.since.length c2) k) := fun k hk he => he.elim (fun he => n1 (he ▸ hk)) (fun he => by
    obtain ⟨cells, hc⟩ := hty2 k he
    exact Kd.R_ne d4.now hc (by decide) hk.symm)
  have a3 : ∀ k, own v3a k → ¬ (k = g ∨ own (.slice A2 m.since.length c2) k) := fun k hk he => he.elim (fun he => n3 (he ▸ hk)) (fun he => by
    obtain ⟨cells, hc⟩ := hty2 k he
    exact Kd.Q_ne d4.wait hc (by decide) hk.symm)
  have hsz4 : w1.heap.size ≤ w4.heap.size := by have := D4.out.2.1.size; have := FR3.out.1.size; omega
  have hsz1 : w.heap.size ≤ w1.heap.size := HF1.out.size
  have a5 : ∀ k, own (.slice A5 (m.since.length + 1) c5) k → own (.slice A2 m.since.length c2) k ∨ w4.heap.size ≤ k := fun k hk => by
    rcases ha5 with ha | ⟨q, hq, hle⟩
    · left; show _ = some k; rw [← ha]; exact hk
    · right
      have : some q = some k := hq.symm.trans hk
      injection this with this
      subst this; exact hle
  have a5g : ∀ k, own (.slice A5 (m.since.length + 1) c5) k → ¬ k = g := fun k hk he => by
    rcases a5 k hk with h5 | h5
    · exact n2 (he ▸ h5)
    · have := blk_lt d4.blk; omega
  refine ⟨⟨blk_set HX5.out 2 _, R_fr d4.sure rfl fr5 a0, R_fr d4.now rfl fr5 a1, R_fr hr5 rfl fs a5g, Q_fr d4.wait rfl fr5 a3, d4.ap, d4.byt, d4.len, d4.n1, d4.n2, ?_, d4.ge⟩, ?_, ?_, HV1.out⟩
  · intro p hp
    rcases List.mem_append.1 hp with hp | hp
    · exact d4.at_ p hp
    · rw [List.mem_singleton.1 hp]
      show 0 ≤ (i : Int) ∧ (i : Int) < ((m.now.set i b).length : Int)
      rw [List.length_set]
      omega
  · have e1 : Fr w w1 (foot g v0 (.slice (some ⟨go, 0, none⟩) m.now.length co) (.slice A2 m.since.length c2) v3) := HF1.out.mono (fun k hk => .inl hk)
    have e2 := e1.trans FR3.out.1 (fun k hk => .inr (by rw [hk]; have := FR3.out.2; omega))
    have e3 := e2.trans D4.out.2.1 (fun k hk => .inl (.inr (.inr (.inl (by rw [hk]; rfl)))))
    exact e3.trans fr5 (fun k hk => .inl (hk.elim (fun h => .inl h) (fun h => .inr (.inr (.inr (.inl h))))))
  · rintro k (hk | hk | hk | hk | hk)
    · exact .inl (.inl hk)
    · exact .inl (.inr (.inl hk))
    · exact .inl (.inr (.inr (.inl hk)))
    · rcases a5 k hk with h5 | h5
      · exact .inl (.inr (.inr (.inr (.inl h5))))
      · exact .inr (by omega)
    · exact .inl (.inr (.inr (.inr (.inr (HV1.out k hk)))))
set_option maxHeartbeats 1000000 in
set_option maxRecDepth 100000 in
theorem Write_lost (w : World) (base g : Nat) (v0 v1 v2 v3 : Value) (m : DM) (h : DV w base g v0 v1 v2 v3 m) (ho : 0 ≤ m.ops ∧ m.ops ≤ 1000000000) (i : Nat) (hi : i < m.now.length)
    (A : Option Addr) (cb : Nat) (hx : outc m = 1) :
    Calls Try.prog 45 #[.pointer (some ⟨g, 0, none⟩), .int .i64 i, .slice A 64 cb] w fun e w' => e = .returned (.int .i64 8) ∧
      ∃ v3', DV w' base g v0 v1 v2 v3' (took m) ∧ Fr w w' (foot g v0 v1 v2 v3) ∧ ∀ k, own v3' k → own v3 k := by
  have H := Aside0.mk h
  have HO := Aside0.mk ho
  have hi0 : ¬ ((i : Int) < 0) := by omega
  have hi1 : (i : Int) < (m.now.length : Int) := by omega
  have hn0 : ((m.now.length : Int) == 0) = false := beq_eq_false_iff_ne.mpr (by omega)
  have k5 : w.cell? ⟨g, 5, none⟩ = some (.func (.func 65) #[.pointer (some ⟨g, 0, none⟩)] #[]) := blk_cell h.blk 5
  have HX := Aside0.mk hx
  clear h ho hi hx
  go_enter Try.func45, Try.ntmps45
  go_wp2_with (first
    | (go_at_call 37; refine (Size_calls _ _ _ _ _ _ _ m H.out).mono ?_; rintro e w1 ⟨rfl, rfl⟩)
    | (go_at_call 65; refine (next_calls _ _ _ _ _ _ _ m H.out HO.out).mono ?_; rintro e w1 ⟨rfl, v3a, hd, hsub, hfr⟩; rw [HX.out]; have H1 := Aside0.mk hd; have HF1 := Aside0.mk hfr; have HV1 := Aside0.mk hsub; clear hd hfr hsub k5)
    | (go_at_call 61; refine (told_calls 1 _).mono ?_; rintro e w6 ⟨rfl, rfl⟩))
  go_ret
  exact ⟨rfl, v3a, H1.out, HF1.out.mono (fun k hk => .inl hk), HV1.out⟩

set_option maxHeartbeats 1000000 in
set_option maxRecDepth 100000 in
theorem Write_bad (w : World) (base g : Nat) (v0 v1 v2 v3 : Value) (m : DM) (h : DV w base g v0 v1 v2 v3 m) (i : Int) (A : Option Addr) (n cb : Nat) (hx : i < 0 ∨ (m.now.length : Int) ≤ i ∨ n ≠ 64) :
    Calls Try.prog 45 #[.pointer (some ⟨g, 0, none⟩), .int .i64 i, .slice A n cb] w fun e w' => e = .returned (.int .i64 1) ∧ w = w' := by
  have H := Aside0.mk h
  have hn0 : ((m.now.length : Int) == 0) = false := beq_eq_false_iff_ne.mpr (by have := h.n1; omega)
  clear h
  go_enter Try.func45, Try.ntmps45
  by_cases h0 : i < 0
  · go_wp2_with (go_at_call 37; refine (Size_calls _ _ _ _ _ _ _ m H.out).mono ?_; rintro e w1 ⟨rfl, rfl⟩)
    go_ret
    exact ⟨rfl, rfl⟩
  · by_cases h1 : (m.now.length : Int) ≤ i
    · have h1' : i ≥ (m.now.length : Int) := h1
      go_wp2_with (go_at_call 37; refine (Size_calls _ _ _ _ _ _ _ m H.out).mono ?_; rintro e w1 ⟨rfl, rfl⟩)
      go_ret
      exact ⟨rfl, rfl⟩
    · have h1' : ¬ i ≥ (m.now.length : Int) := h1
      have h2 : ((n : Int) != 64) = true := bne_iff_ne.mpr (by omega)
      go_wp2_with (go_at_call 37; refine (Size_calls _ _ _ _ _ _ _ m H.out).mono ?_; rintro e w1 ⟨rfl, rfl⟩)
      go_ret
      exact ⟨rfl, rfl⟩
def zBv : Value := .agg (encs (Value.int .u8) (List.replicate 64 0)).toArray
theorem info89z : (Try.prog.info? 94).map (fun i => (i.zero, i.size, i.bytes)) = some (some zBv, 64, 64) := by kernel_rfl
theorem run_fn (g : Value) (w : World) : (Instr.makeFunc (.func 65) #[g] #[]).run Try.prog w = .ok (.func (.func 65) #[g] #[]) w := rfl
theorem kB_M {w : World} {base : Nat} {ok : Nat → Prop} {x : List Int} {cs : List Value} (h : kB.K w x cs) : kB.M w base ok x cs := by
  have h : Kd.K (Kd.arr 64 (Kd.int .u8) (Nat.succ_pos _)) w x cs := h
  obtain ⟨h1, rfl⟩ := Kd.arr_cells h
  exact Kd.arr_of_cells h1

set_option maxHeartbeats 1000000 in
set_option maxRecDepth 100000 in
/-- Of a row of sectors of one's own: the disk of it. -/
theorem made_calls (w0 w : World) (base : Nat) (v : Value) (l : List (List Int)) (hR : Kd.R kB 94 w base (fun _ => True) v l) (hn : 1 ≤ l.length) (hn2 : l.length ≤ 4096) (hb : base ≤ w.heap.size) :
    Calls Try.prog 52 #[v] w fun e w' => ∃ g v1, e = .returned (.pointer (some ⟨g, 0, none⟩)) ∧ DV w' base g v v1 (.slice none 0 0) (.slice none 0 0) ⟨l, l, [], [], 0⟩ ∧ w.heap.size ≤ g ∧ (∀ k, own v1 k → w.heap.size ≤ k) ∧ Below w.heap.size w w' := by
  obtain ⟨A1, c1, rfl⟩ := Kd.R_slice hR
  have HR := Aside0.mk hR
  have HN := Aside0.mk (And.intro hn hn2)
  have HB := Aside0.mk hb
  clear hR
  have hmf := run_fn
  have hone : ∀ g : Nat, (Value.func (.func 65) #[.pointer (some ⟨g, 0, none⟩)] #[]).oneCell' = true := fun _ => rfl
  go_enter Try.func52, Try.ntmps52
  go_wp2_with (first
    | ((with_reducible refine gate_builtin (b := .append) (xs := #[.const (.slice none 0 0), .tmp 5]) rfl ?_); at_builtin; refine Kd.R_append_rows kB (Rr := kB.K w) (w0 := w) w.heap.size rfl (.const (.slice none 0 0)) (.tmp 5) 90 94 zBv 64 rfl Try.underlying90 info89z rfl (by decide) (by decide) (.slice none 0 0) [] l A1 l.length c1 (fun _ => True) (fun _ => False) rfl rfl (Kd.R_nil _ _ _ _ _) (Kd.R_reads' HR.out).2.2 (fun x cs hK => kB_M hK) (fun _ hk => hk.elim) (fun _ _ => trivial) (Below.refl _ _) (Nat.le_refl _) (by simp; omega) ?_; intro v1 w1 ho hb1 hg1 hat1; rw [List.nil_append] at ho; obtain ⟨A2, c2, rfl⟩ := Kd.R_slice ho; have HO := Aside0.mk ho; have HB1 := Aside0.mk hb1; clear ho hb1 hg1 hat1)
    | ((with_reducible refine gate_dst (N := 8) rfl ?_); refine box_event ?hg (N := 8) ?hd (cs := #[.slice A1 l.length c1, .slice A2 l.length c2, .slice none 0 0, .slice none 0 0, .int .i64 0, .nilFunc]) (t := 93) ?hr ?_; (case hd => rfl); (case hg => rfl); (case hr => first | (go_simp; done) | (go_simp; rfl)); intro g hg w2 hbox hb2; have k5 : w2.cell? ⟨g, 5, none⟩ = some .nilFunc := blk_cell hbox 5; have f5 : w2.frozen? ⟨g, 5, none⟩ = false := blk_frozen hbox 5; have hst : (store ⟨g, 5, none⟩ (.func (.func 65) #[.pointer (some ⟨g, 0, none⟩)] #[])).run Try.prog w2 = .ok () (w2.setCell ⟨g, 5, none⟩ (.func (.func 65) #[.pointer (some ⟨g, 0, none⟩)] #[])) := (by rw [run_store _ _ _ _ _ rfl, k5, f5]; rfl); have HG := Aside0.mk hg; have HX := Aside0.mk hbox; have HB2 := Aside0.mk hb2; clear hg hbox hb2))
  go_ret
  have hsz : w.heap.size ≤ w1.heap.size := HB1.out.size
  have b1 : Below w.heap.size w w2 := below_step HB1.out HB2.out
  have fs : Fr w2 (w2.setCell ⟨g, 5, none⟩ (.func (.func 65) #[.pointer (some ⟨g, 0, none⟩)] #[])) (fun k => k = g) := Fr.set (g := g) (o := 5) (F := fun k => k = g) (Fr.refl w2 _) (.inl rfl) _
  have hg : w.heap.size ≤ g := by rw [HG.out]; exact hsz
  have r0 : Kd.R kB 94 w2 base (fun _ => True) (.slice A1 l.length c1) l := Kd.R_below HR.out b1
  have r1 : Kd.R kB 94 w2 w.heap.size (fun _ => True) (.slice A2 l.length c2) l := Kd.R_below HO.out HB2.out
  have hne1 : ∀ k, own (.slice A1 l.length c1) k → ¬ k = g := fun k hk he => by have := R_lt' HR.out hk; omega
  have hne2 : ∀ k, own (.slice A2 l.length c2) k → ¬ k = g := fun k hk he => by have := R_lt' HO.out hk; have := HG.out; omega
  refine ⟨g, .slice A2 l.length c2, rfl, ⟨blk_set HX.out 5 _, R_fr r0 rfl fs hne1, Kd.R_lower (R_fr r1 rfl fs hne2) HB.out, Kd.R_nil _ _ _ _ _, Kd.Q_nil _ _ _ _ _, ?_, fun x hx => absurd hx (by simp), rfl, HN.out.1, HN.out.2, fun p hp => absurd hp (by simp), Nat.le_trans HB.out hg⟩, hg, fun k hk => R_ge HO.out hk, below_fr b1 b1.size fs (fun k hk => by rw [hk]; exact hg)⟩
  intro k hk hk2
  have h1 := R_lt' HR.out hk
  have h2 := R_ge HO.out hk2
  omega

set_option maxHeartbeats 1000000 in
set_option maxRecDepth 100000 in
theorem New_calls (w : World) (n : Nat) (hn : 1 ≤ n) (hn2 : n ≤ 4096) :
    Calls Try.prog 40 #[.int .i64 n] w fun e w' => ∃ g v0 v1, e = .returned (.tuple #[.pointer (some ⟨g, 0, none⟩), .int .i64 0]) ∧ DV w' w.heap.size g v0 v1 (.slice none 0 0) (.slice none 0 0) ⟨List.replicate n (List.replicate 64 0), List.replicate n (List.replicate 64 0), [], [], 0⟩ ∧ Below w.heap.size w w' := by
  have h1 : ¬ ((n : Int) < 1) := by omega
  have h2 : ¬ ((n : Int) > 4096) := by omega
  go_enter Try.func40, Try.ntmps40
  go_wp2_with (first
    | (refine Kd.R_make kB (w0 := w) w.heap.size 94 rfl (N := 11) rfl 90 (.tmp 10) (.tmp 10) rfl (n : Int) rfl rfl Try.underlying90 zBv 64 info89z rfl (by decide) (by decide) (List.replicate 64 0) (okp := fun _ => False) (ok := fun _ => True) (Kd.arr_of_cells (by simp)) (fun _ hk => hk.elim) trivial (by omega) (by omega) (Below.refl _ _) (Nat.le_refl _) ?_; intro v1 w1 ho hb1 hg1 hat1; rw [Int.toNat_natCast] at ho; have HO := Aside0.mk ho; have HB1 := Aside0.mk hb1; clear ho hb1 hg1 hat1)
    | (go_at_call 52; refine (made_calls w w1 w.heap.size v1 _ HO.out (by simpa using hn) (by simpa using hn2) HB1.out.size).mono ?_; rintro e w2 ⟨g, v2, rfl, hd, hg, hv, hb2⟩; have HD := Aside0.mk hd; have HB2 := Aside0.mk (below_step HB1.out hb2); clear hd hg hv hb2))
  go_ret2
  exact ⟨g, v1, v2, rfl, HD.out, HB2.out⟩
/-- Writes laid over sectors. -/
def laid (s : List (List Int)) (l : List (Int × List Int)) : List (List Int) := l.foldl (fun s p => s.set p.1.toNat p.2) s
theorem laid_len (l : List (Int × List Int)) : ∀ s, (laid s l).length = s.length := by
  induction l with
  | nil => intro s; rfl
  | cons p r ih => intro s; show (laid (s.set p.1.toNat p.2) r).length = _; rw [ih, List.length_set]
theorem laid_snoc (s : List (List Int)) (l : List (Int × List Int)) (p : Int × List Int) : laid s (l ++ [p]) = (laid s l).set p.1.toNat p.2 := by unfold laid; rw [List.foldl_append]; rfl
def zP : Int × List Int := (0, [])
/-- Write i of a row of writes: where its cells lie. -/
theorem write_at {w : World} {base go n c : Nat} {xs : List (Int × List Int)} (h : Kd.R kW 96 w base (fun _ => True) (.slice (some ⟨go, 0, none⟩) n c) xs) (i : Nat) (hi : i < n) :
    (xs.getD i zP).2.length = 64 ∧ w.rangeAt go (i * 65) (Value.int .i64 (xs.getD i zP).1 :: encs (Value.int .u8) (xs.getD i zP).2) := by
  obtain ⟨cs, hl, hM, hc, _⟩ := Kd.R_elem h zP i (by omega) (by omega)
  rw [Int.toNat_natCast] at hM hc
  obtain ⟨c1, c2, rfl, h1, h2⟩ := hM
  have h1 : c1 = [Value.int .i64 (xs.getD i zP).1] := h1
  have h2 : Kd.M (Kd.arr 64 (Kd.int .u8) (Nat.succ_pos _)) w base (fun k => True ∧ k ≠ go) (xs.getD i zP).2 c2 := h2
  obtain ⟨h3, rfl⟩ := Kd.arr_cells (Kd.K_of_M _ h2)
  subst h1
  exact ⟨h3, fun j v hv => hc j v hv⟩
/-- One sector of the row of what is certain is written. -/
def setSure (m : DM) (s : List (List Int)) : DM := ⟨s, m.now, m.since, m.wait, m.ops⟩
theorem DV.set_sure {w w' : World} {base g gs n cs : Nat} {v1 v2 v3 : Value} {m : DM} (h : DV w base g (.slice (some ⟨gs, 0, none⟩) n cs) v1 v2 v3 m) (q : Nat) (hq : q < n) (b : List Int) (hb : b.length = 64) (hw : w' = w.setCells gs (q * 64) (encs (Value.int .u8) b)) :
    DV w' base g (.slice (some ⟨gs, 0, none⟩) n cs) v1 v2 v3 (setSure m (m.sure.set q b)) ∧ Fr w w' (fun k => k = gs) := by
  have fr : Fr w w' (fun k => k = gs) := by
    rw [hw]
    exact Fr.setCells (F := fun k => k = gs) (Fr.refl w _) (.inl rfl) _ _
  have hgs : own (.slice (some ⟨gs, 0, none⟩) n cs) gs := rfl
  have hne := h.ne
  have hseg : Kd.R kB 94 w' base (fun _ => True) (.slice (some ⟨gs, 0, none⟩) n cs) (m.sure.set q b) := by
    obtain ⟨ce, hcl, hM, hcc, _⟩ := Kd.R_elem h.sure zB q (by omega) (by omega)
    have h_ := (Kd.R_seg (okp := fun k => True ∧ k ≠ gs) h.sure (q : Int) (by omega) (by omega) hcl hcc (j := 0) (seg := encs (Value.int .u8) b) (by rw [encs_length, hb]; exact Nat.le_refl 64) (x' := b) (by
      rw [List.take_zero, List.nil_append, List.drop_of_length_le (by rw [hcl, encs_length, hb]; exact Nat.le_refl 64), List.append_nil]
      exact Kd.arr_of_cells hb) (fun _ hk => hk)).1
    rw [hw]
    have e1 : (q : Int).toNat * kB.sz + 0 = q * 64 := by rw [Int.toNat_natCast]; rfl
    rw [e1, Int.toNat_natCast] at h_
    exact h_
  obtain ⟨inner, ho⟩ := Kd.R_own h.sure
  obtain ⟨cells, hc⟩ := own_typed ho gs rfl
  have hsince := R_fr h.since rfl fr (fun k hk he => by subst he; exact Kd.R_ne h.since hc (by decide) hk.symm)
  have hwait := Q_fr h.wait rfl fr (fun k hk he => by subst he; exact Kd.Q_ne h.wait hc (by decide) hk.symm)
  have hnow := R_fr h.now rfl fr (fun k hk he => h.ap k (he ▸ hgs) hk)
  have hblk := fr.blk h.blk (fun he => hne.1 (he ▸ hgs))
  have hlen : (m.sure.set q b).length = m.now.length := by rw [List.length_set]; exact h.len
  exact ⟨⟨hblk, hseg, hnow, hsince, hwait, h.ap, h.byt, hlen, h.n1, h.n2, h.at_, h.ge⟩, fr⟩
/-- What a Sync that is not lost leaves. -/
def synced (m : DM) : DM := ⟨laid m.sure m.since, m.now, [], m.wait.tail, m.ops + 1⟩

set_option maxHeartbeats 1000000 in
set_option maxRecDepth 100000 in
theorem Sync_done (w : World) (base g : Nat) (v0 v1 v2 v3 : Value) (m : DM) (h : DV w base g v0 v1 v2 v3 m) (ho : 0 ≤ m.ops ∧ m.ops ≤ 1000000000) (hs : m.since.length ≤ 1000000) (hx : outc m ≠ 1) (hg : base ≤ w.heap.size) :
    Calls Try.prog 50 #[.pointer (some ⟨g, 0, none⟩)] w fun e w' => e = .returned (.int .i64 (tell (outc m))) ∧
      ∃ v3', DV w' base g v0 v1 (.slice none 0 0) v3' (synced m) ∧ Fr w w' (foot g v0 v1 v2 v3) ∧ ∀ k, own v3' k → own v3 k := by
  have H := Aside0.mk h
  have HO := Aside0.mk ho
  have hn0 : ((m.now.length : Int) == 0) = false := beq_eq_false_iff_ne.mpr (by have := h.n1; omega)
  have k5 : w.cell? ⟨g, 5, none⟩ = some (.func (.func 65) #[.pointer (some ⟨g, 0, none⟩)] #[]) := blk_cell h.blk 5
  obtain ⟨x, hxx⟩ : ∃ x, x = outc m := ⟨_, rfl⟩
  have HXX := Aside0.mk hxx
  have hx1 : (x != 1) = true := bne_iff_ne.mpr (by rw [hxx]; exact hx)
  obtain ⟨gs, cs, hv0, gb', gl, cl, HG⟩ := Kd.R_form h.sure (by have := h.len; have := h.n1; omega)
  have hl := h.len
  rw [hl] at hv0
  subst hv0
  obtain ⟨A2, c2, hv2⟩ := Kd.R_slice h.since
  subst hv2
  have HSL := Aside0.mk hs
  have HLEN := Aside0.mk hl
  clear h ho hx hxx gb' gl HG hl hs
  go_enter Try.func50, Try.ntmps50
  go_upto_region 5 with (first
    | (go_at_call 37; refine (Size_calls _ _ _ _ _ _ _ m H.out).mono ?_; rintro e w1 ⟨rfl, rfl⟩)
    | (go_at_call 65; refine (next_calls _ _ _ _ _ _ _ m H.out HO.out).mono ?_; rintro e w1 ⟨rfl, v3a, hd, hsub, hfr⟩; rw [← HXX.out]; have H1 := Aside0.mk hd; have HF1 := Aside0.mk hfr; have HV1 := Aside0.mk hsub; clear hd hfr hsub k5))
  have k2 : w1.cell? ⟨g, 2, none⟩ = some (.slice A2 m.since.length c2) := blk_cell H1.out.blk 2
  go_wp2_with fail
  clear k2
  go_loopg [21] m.since.length (fun r v21 wr => ∃ (j : Nat), v21 = .int .i64 j ∧ Aside0 (r + j = m.since.length) ∧ Aside0 (DV wr base g (.slice (some ⟨gs, 0, none⟩) m.now.length cs) v1 (.slice A2 m.since.length c2) v3a (setSure (took m) (laid m.sure (m.since.take j))) ∧ Fr w1 wr (fun k => k = gs)))
  case atStart => exact ⟨0, rfl, ⟨by omega⟩, ⟨H1.out, Fr.refl _ _⟩⟩
  case round =>
    obtain ⟨j, rfl, hq, hat⟩ := hrel
    by_cases hj : j < m.since.length
    · have hj1 : decide ((j : Int) < (m.since.length : Int)) = true := decide_eq_true (by omega)
      obtain ⟨go2, co2, hv2, gb', gl, cl2, HG⟩ := Kd.R_form hat.out.1.since (by show 0 < m.since.length; omega)
      injection hv2 with hA2 hA3 hA4
      subst hA2
      subst hA4
      clear hA3
      obtain ⟨p1, p2⟩ := write_at hat.out.1.since j hj
      have hmem : m.since.getD j zP ∈ m.since := by rw [List.getD_eq_getElem?_getD, List.getElem?_eq_getElem hj]; exact List.getElem_mem hj
      have hpq := hat.out.1.at_ _ hmem
      have hsnoc : laid m.sure (m.since.take (j + 1)) = (laid m.sure (m.since.take j)).set (m.since.getD j zP).1.toNat (m.since.getD j zP).2 := by
        rw [List.take_add_one, List.getElem?_eq_getElem hj, Option.toList_some, laid_snoc, List.getD_eq_getElem?_getD, List.getElem?_eq_getElem hj]; rfl
      have p1 : (m.since.getD j zP).2.length = 64 := p1
      have p2 : wr.rangeAt go2 (j * 65) (Value.int .i64 (m.since.getD j zP).1 :: encs (Value.int .u8) (m.since.getD j zP).2) := p2
      have hpq : 0 ≤ (m.since.getD j zP).1 ∧ (m.since.getD j zP).1 < (m.now.length : Int) := hpq
      generalize (m.since.getD j zP) = pb at *
      obtain ⟨p, b⟩ := pb
      simp only at p1 p2 hpq hsnoc
      obtain ⟨q, rfl⟩ := Int.eq_ofNat_of_zero_le hpq.1
      have hqn : q < m.now.length := by omega
      have hq1 : (q : Int) < (m.now.length : Int) := hpq.2
      rw [Int.toNat_natCast] at hsnoc
      have HLN := Aside0.mk p1
      have HP2 := Aside0.mk p2
      have HSN := Aside0.mk hsnoc
      have hcl : (Value.int .i64 (q : Int) :: encs (Value.int .u8) b).length = 65 := by rw [List.length_cons, encs_length, p1]
      have HCL := Aside0.mk hcl
      clear p1 p2 hsnoc hcl hmem gb' gl HG
      go_upto_region 8 with (first
        | (refine wpList_load_mid rfl 96 (.tmp 23) rfl go2 (j * 65) ?_ (Value.int .i64 (q : Int) :: encs (Value.int .u8) b) _ HP2.out Try.underlying96 rfl (by rw [HCL.out]; exact info91) ?_; (focus (go_simp; done)))
        | ((with_reducible refine gate_dst (N := 5) rfl ?_); refine box_event ?hg (N := 5) ?hd (cs := Try.zeroCells96) (t := 96) ?hr ?_; (case hd => rfl); (case hg => rfl); (case hr => first | (go_simp; done) | (go_simp; rfl)); intro g5 hg5 w2 hbox hb; have HG5 := Aside0.mk hg5; have HX2 := Aside0.mk hbox; have HB2 := Aside0.mk hb; clear hg5 hbox hb)
        | (refine wp_fill rfl 96 (.tmp 5) (.tmp 24) rfl g5 Try.zeroCells96 96 (Value.int .i64 (q : Int) :: encs (Value.int .u8) b) HX2.out rfl rfl HCL.out info91 (one_w _ b) ?_; intro w3 hx3 hf3; have HX3 := Aside0.mk hx3; have HF3 := Aside0.mk hf3; clear hx3 hf3))
      have fr3 : Fr wr w3 (fun k => k = g5) := (Fr.of_below HB2.out (fun k => k = g5)).trans HF3.out (fun k hk => .inl hk)
      have hn5 : wr.heap.size ≤ g5 := by rw [HG5.out]; exact Nat.le_refl _
      have d3 := hat.out.1.keep fr3 (fun y hy he => by have := hat.out.1.foot_lt y hy; omega)
      have k0 : w3.cell? ⟨g, 0, none⟩ = some (.slice (some ⟨gs, 0, none⟩) m.now.length cs) := blk_cell d3.blk 0
      have k5 : w3.cell? ⟨g5, 0, none⟩ = some (.int .i64 (q : Int)) := by rw [blk_cell HX3.out 0]; simp
      have HR8 : Aside0 (w3.rangeAt g5 1 (encs (Value.int .u8) b)) := ⟨range_part HX3.out⟩
      have hthere := (sector_at d3.sure q hqn).2.2
      have HT : Aside0 (w3.there gs (q * 64) (encs (Value.int .u8) b).toArray.size) := ⟨by rw [List.size_toArray, encs_length, HLN.out]; exact hthere⟩
      have D3 := Aside0.mk d3
      have FR3 := Aside0.mk (And.intro fr3 hn5)
      clear fr3 hn5 d3 hthere
      refine start_ (n := 10) (S := fun w' => w'.cell? ⟨g, 0, none⟩ = some (.slice (some ⟨gs, 0, none⟩) m.now.length cs) ∧ w'.cell? ⟨g5, 0, none⟩ = some (.int .i64 (q : Int)) ∧ w'.rangeAt g5 1 (encs (Value.int .u8) b)) (ds := [9]) #[false, false, false, false, false, false, false, false, false, false] (by kernel_rfl) rfl rfl ⟨k0, k5, HR8.out⟩ (fun hHeld => ?_)
      refine pure_ (i := 0) (N := some 25) (v := ?_) (a' := ?_) #[true, false, false, false, false, false, false, false, false, false] rfl rfl (by kernel_rfl) (fun _ _ _ h => h) (Or.inl ⟨by rfl, ?_⟩) ?_ ?_
      rotate_left
      · intro w'
        go_simp
        with_reducible rfl
      rotate_left
      · simp only [Act.put, List.setIfInBounds_toArray, List.set_cons_zero, List.set_cons_succ, i64_w, i32_w]
        rfl
      refine pure_ (i := 1) (N := some 26) (v := ?_) (a' := ?_) #[true, true, false, false, false, false, false, false, false, false] rfl rfl (by kernel_rfl) (fun _ _ _ h => h) (Or.inl ⟨by rfl, ?_⟩) ?_ ?_
      rotate_left
      · intro w'
        go_simp
        with_reducible rfl
      rotate_left
      · simp only [Act.put, List.setIfInBounds_toArray, List.set_cons_zero, List.set_cons_succ, i64_w, i32_w]
        rfl
      refine pure_ (i := 2) (N := some 27) (v := ?_) (a' := ?_) #[true, true, true, false, false, false, false, false, false, false] rfl rfl (by kernel_rfl) (fun _ _ _ h => h) (Or.inl ⟨by rfl, ?_⟩) ?_ ?_
      rotate_left
      · intro w'
        go_simp
        with_reducible rfl
      rotate_left
      · simp only [Act.put, List.setIfInBounds_toArray, List.set_cons_zero, List.set_cons_succ, i64_w, i32_w]
        rfl
      refine pure_ (i := 4) (N := some 29) (v := ?_) (a' := ?_) #[true, true, true, false, true, false, false, false, false, false] rfl rfl (by kernel_rfl) (fun _ _ _ h => h) (Or.inl ⟨by rfl, ?_⟩) ?_ ?_
      rotate_left
      · intro w'
        go_simp
        with_reducible rfl
      rotate_left
      · simp only [Act.put, List.setIfInBounds_toArray, List.set_cons_zero, List.set_cons_succ, i64_w, i32_w]
        rfl
      refine pure_ (i := 6) (N := some 31) (v := ?_) (a' := ?_) #[true, true, true, false, true, false, true, false, false, false] rfl rfl (by kernel_rfl) (fun _ _ _ h => h) (Or.inl ⟨by rfl, ?_⟩) ?_ ?_
      rotate_left
      · intro w'
        go_simp
        with_reducible rfl
      rotate_left
      · simp only [Act.put, List.setIfInBounds_toArray, List.set_cons_zero, List.set_cons_succ, i64_w, i32_w]
        rfl
      refine take_ (i := 3) (N := some 28) (v := ?_) (a' := ?_) #[true, true, true, true, true, false, true, false, false, false] rfl rfl (by kernel_rfl) (fun _ _ _ h => h) (Or.inl ⟨by rfl, ?_⟩) hHeld ?_ ?_
      rotate_left
      · rintro w' ⟨s0, s1, s2⟩
        go_simp
        with_reducible rfl
      rotate_left
      · simp only [Act.put, List.setIfInBounds_toArray, List.set_cons_zero, List.set_cons_succ, i64_w, i32_w]
        rfl
      refine take_ (i := 5) (N := some 30) (v := ?_) (a' := ?_) #[true, true, true, true, true, true, true, false, false, false] rfl rfl (by kernel_rfl) (fun _ _ _ h => h) (Or.inl ⟨by rfl, ?_⟩) hHeld ?_ ?_
      rotate_left
      · rintro w' ⟨s0, s1, s2⟩
        go_simp
        with_reducible rfl
      rotate_left
      · simp only [Act.put, List.setIfInBounds_toArray, List.set_cons_zero, List.set_cons_succ, i64_w, i32_w]
        rfl
      refine take_ (i := 7) (N := some 32) (v := (.agg (encs (Value.int .u8) b).toArray)) (a' := ?aa_1) #[true, true, true, true, true, true, true, true, false, false] rfl rfl (by kernel_rfl) (fun _ _ _ h => h) ?hy_1 hHeld ?ha_1 ?h_1
      case hy_1 => exact yieldsIf_load_mid (by rfl) 94 (.tmp 31) rfl g5 1 rfl (encs (Value.int .u8) b) _ (fun w' s => s.2.2) Try.underlying94 rfl (by rw [encs_length, HLN.out]; exact info89)
      case ha_1 => simp only [Act.put, List.setIfInBounds_toArray, List.set_cons_zero, List.set_cons_succ, i64_w, i32_w]; rfl
      refine pure_ (i := 8) (N := some 33) (v := ?_) (a' := ?_) #[true, true, true, true, true, true, true, true, true, false] rfl rfl (by kernel_rfl) (fun _ _ _ h => h) (Or.inl ⟨by rfl, ?_⟩) ?_ ?_
      rotate_left
      · intro w'
        go_simp
        with_reducible rfl
      rotate_left
      · simp only [Act.put, List.setIfInBounds_toArray, List.set_cons_zero, List.set_cons_succ, i64_w, i32_w]
        rfl
      refine last_ (i := 9) (N := none) #[true, true, true, true, true, true, true, true, true, true] rfl rfl (by kernel_rfl) (by decide) (fun K hK => ?_)
      refine skip_ (w1 := w3.drew.setCells gs (q * 64) (encs (Value.int .u8) b)) (by rfl) rfl ?_ ?_
      · exact run_store_mid 94 (.tmp 33) (.tmp 32) rfl gs (q * 64) (encs (Value.int .u8) b).toArray (by go_simp) rfl HT.out (by rw [List.size_toArray, encs_length, HLN.out]; exact info89) (all_oneCell_toArray (one_u8 b))
      refine hK.out _ _ ?_
      clear hK K
      refine done_ (by kernel_rfl) ?_
      obtain ⟨w4, hw4⟩ : ∃ w4, w4 = w3.drew.setCells gs (q * 64) (encs (Value.int .u8) b) := ⟨_, rfl⟩
      rw [← hw4]
      have d4 := DV.set_sure (w := w3.drew) (D3.out.keep ((Fr.refl w3 (fun _ => False)).drew) (fun _ _ h => h)) q hqn b HLN.out hw4
      have D4 : Aside0 (DV w4 base g (.slice (some ⟨gs, 0, none⟩) m.now.length cs) v1 (.slice (some ⟨go2, 0, none⟩) m.since.length c2) v3a (setSure (took m) (laid m.sure (m.since.take (j + 1)))) ∧ Fr w1 w4 (fun k => k = gs)) := by
        refine ⟨?_, ?_⟩
        · have := d4.1
          rw [HSN.out]; exact this
        · have e1 : Fr w1 w3 (fun k => k = gs) := hat.out.2.trans FR3.out.1 (fun k hk => .inr (by rw [hk]; have := FR3.out.2; have := hat.out.2.size; omega))
          exact e1.drew.trans d4.2 (fun k hk => .inl hk)
      clear d4 hw4 k0 k5 hHeld
      go_wp2_with fail
      go_roundg (m.since.length - (j + 1))
      case measure => have := hq.out; omega
      case rel => exact ⟨j + 1, by have := HSL.out; rw [show wrap64 ((j : Int) + 1) = ((j + 1 : Nat) : Int) from by unfold wrap64; omega], ⟨by omega⟩, D4⟩
    · have hj1 : decide ((j : Int) < (m.since.length : Int)) = false := decide_eq_false (by omega)
      have hall : m.since.take j = m.since := List.take_of_length_le (by omega)
      rw [hall] at hat
      have k2 : wr.cell? ⟨g, 2, none⟩ = some (.slice A2 m.since.length c2) := blk_cell hat.out.1.blk 2
      have f2 : wr.frozen? ⟨g, 2, none⟩ = false := blk_frozen hat.out.1.blk 2
      go_wp2_with (go_at_call 61; refine (told_calls x _).mono ?_; rintro e w6 ⟨rfl, rfl⟩)
      go_ret
      have d := hat.out.1
      have fs : Fr wr (wr.setCell ⟨g, 2, none⟩ (.slice none 0 0)) (fun k => k = g) := Fr.set (g := g) (o := 2) (F := fun k => k = g) (Fr.refl wr _) (.inl rfl) _
      obtain ⟨r0, r1, _, r3⟩ := d.rows fs
      refine ⟨by rw [HXX.out]; rfl, v3a, ⟨blk_set d.blk 2 _, r0, r1, Kd.R_nil _ _ _ _ _, r3, d.ap, d.byt, d.len, d.n1, d.n2, fun p hp => absurd hp (by simp [synced]), d.ge⟩, ?_, HV1.out⟩
      have e1 := HF1.out.mono (F2 := foot g (.slice (some ⟨gs, 0, none⟩) m.now.length cs) v1 (.slice A2 m.since.length c2) v3) (fun k hk => .inl hk)
      have e2 := e1.trans hat.out.2 (fun k hk => .inl (.inr (.inl (by rw [hk]; rfl))))
      exact e2.trans fs (fun k hk => .inl (.inl hk))
end Go.Proofs.Ytldddinebhopcaa.Sec
