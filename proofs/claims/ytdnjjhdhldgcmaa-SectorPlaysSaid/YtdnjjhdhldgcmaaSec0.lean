/- sector.Disk: how it lies in memory; what it tells; the next outcome. -/
import Derived.Test.YtdnjjhdhldgcmaaFr
namespace Go.Proofs.Ytdnjjhdhldgcmaa.Sec
open Go.RowKit Go.Proofs.YtdnjjhdhldgcmaaW.PrintWords Go.Proofs.YtdnjjhdhldgcmaaW.PrintLast Go.Proofs.YtdnjjhdhldgcmaaW.PrintMore Go.Proofs.Ytdnjjhdhldgcmaa.Bs Go.Proofs.Ytdnjjhdhldgcmaa.Fr
set_option linter.unusedVariables false
set_option linter.unusedSimpArgs false

def kB : Kd (List Int) := Kd.arr 64 (Kd.int .u8) (Nat.succ_pos _)
def kW : Kd (Int × List Int) := Kd.pair (Kd.int .i64) kB
structure DM where
  sure : List (List Int)
  now : List (List Int)
  since : List (Int × List Int)
  wait : List Int
  ops : Int
/-- The disk of block g, its rows told. -/
structure DV (w : World) (base g : Nat) (v0 v1 v2 v3 : Value) (m : DM) : Prop where
  blk : w.heap[g]? = some (.cells #[v0, v1, v2, v3, .int .i64 m.ops, .func (.func 73) #[.pointer (some ⟨g, 0, none⟩)] #[]] 88 (0, 0))
  sure : Kd.R kB 89 w base (fun _ => True) v0 m.sure
  now : Kd.R kB 89 w base (fun _ => True) v1 m.now
  since : Kd.R kW 91 w base (fun _ => True) v2 m.since
  wait : Kd.Q (Kd.int .u8) 5 w base (fun _ => True) v3 m.wait
  ap : ∀ k, own v0 k → ¬ own v1 k
  byt : ∀ x ∈ m.wait, 0 ≤ x ∧ x ≤ 255
  len : m.sure.length = m.now.length
  n1 : 1 ≤ m.now.length
  n2 : m.now.length ≤ 4096
  at_ : ∀ p ∈ m.since, 0 ≤ p.1 ∧ p.1 < m.now.length
  ge : base ≤ g
def foot (g : Nat) (v0 v1 v2 v3 : Value) : Nat → Prop := fun k => k = g ∨ own v0 k ∨ own v1 k ∨ own v2 k ∨ own v3 k
section
variable {w w' : World} {base g : Nat} {v0 v1 v2 v3 : Value} {m : DM}
theorem DV.keep (h : DV w base g v0 v1 v2 v3 m) {F : Nat → Prop} (k : Fr w w' F) (hn : ∀ q, foot g v0 v1 v2 v3 q → ¬ F q) : DV w' base g v0 v1 v2 v3 m where
  blk := k.blk h.blk (hn g (.inl rfl))
  sure := R_fr h.sure rfl k (fun q hq => hn q (.inr (.inl hq)))
  now := R_fr h.now rfl k (fun q hq => hn q (.inr (.inr (.inl hq))))
  since := R_fr h.since rfl k (fun q hq => hn q (.inr (.inr (.inr (.inl hq)))))
  wait := Q_fr h.wait rfl k (fun q hq => hn q (.inr (.inr (.inr (.inr hq)))))
  ap := h.ap
  byt := h.byt
  len := h.len
  n1 := h.n1
  n2 := h.n2
  at_ := h.at_
  ge := h.ge
theorem DV.below (h : DV w base g v0 v1 v2 v3 m) (hb : Below w.heap.size w w') : DV w' base g v0 v1 v2 v3 m := h.keep (Fr.of_below hb (fun _ => False)) (fun _ _ hk => hk)
theorem DV.foot_ge (h : DV w base g v0 v1 v2 v3 m) : ∀ k, foot g v0 v1 v2 v3 k → base ≤ k := by
  rintro k (rfl | hk | hk | hk | hk)
  · exact h.ge
  · exact R_ge h.sure hk
  · exact R_ge h.now hk
  · exact R_ge h.since hk
  · exact Kd.Q_base h.wait k hk
theorem DV.foot_lt (h : DV w base g v0 v1 v2 v3 m) : ∀ k, foot g v0 v1 v2 v3 k → k < w.heap.size := by
  rintro k (rfl | hk | hk | hk | hk)
  · exact blk_lt h.blk
  · exact R_lt' h.sure hk
  · exact R_lt' h.now hk
  · exact R_lt' h.since hk
  · exact Kd.Q_lt h.wait k hk
/-- The disk's own block is no row's. -/
theorem DV.ne (h : DV w base g v0 v1 v2 v3 m) : ¬ own v0 g ∧ ¬ own v1 g ∧ ¬ own v2 g ∧ ¬ own v3 g :=
  ⟨fun he => Kd.R_ne h.sure h.blk (by decide) he.symm, fun he => Kd.R_ne h.now h.blk (by decide) he.symm, fun he => Kd.R_ne h.since h.blk (by decide) he.symm, fun he => Kd.Q_ne h.wait h.blk (by decide) he.symm⟩
end

set_option maxHeartbeats 1000000 in
set_option maxRecDepth 100000 in
theorem Size_calls (w : World) (base g : Nat) (v0 v1 v2 v3 : Value) (m : DM) (h : DV w base g v0 v1 v2 v3 m) :
    Calls Try.prog 54 #[.pointer (some ⟨g, 0, none⟩)] w fun e w' => e = .returned (.int .i64 m.now.length) ∧ w = w' := by
  obtain ⟨A, c, rfl⟩ := Kd.R_slice h.now
  have k1 : w.cell? ⟨g, 1, none⟩ = some (.slice A m.now.length c) := blk_cell h.blk 1
  clear h
  go_enter Try.func54, Try.ntmps54
  go_wp2
  go_ret
  exact ⟨rfl, rfl⟩
theorem Size_nil (w : World) : Calls Try.prog 54 #[.pointer none] w fun e w' => e = .returned (.int .i64 0) ∧ w = w' := by
  go_enter Try.func54, Try.ntmps54
  go_wp2
  go_ret
  exact ⟨rfl, rfl⟩
set_option maxHeartbeats 1000000 in
set_option maxRecDepth 100000 in
theorem Dirty_calls (w : World) (base g : Nat) (v0 v1 v2 v3 : Value) (m : DM) (h : DV w base g v0 v1 v2 v3 m) :
    Calls Try.prog 30 #[.pointer (some ⟨g, 0, none⟩)] w fun e w' => e = .returned (.int .i64 m.since.length) ∧ w = w' := by
  obtain ⟨A, c, rfl⟩ := Kd.R_slice h.since
  have k1 : w.cell? ⟨g, 2, none⟩ = some (.slice A m.since.length c) := blk_cell h.blk 2
  clear h
  go_enter Try.func30, Try.ntmps30
  go_wp2
  go_ret
  exact ⟨rfl, rfl⟩
set_option maxHeartbeats 1000000 in
set_option maxRecDepth 100000 in
theorem Ops_calls (w : World) (base g : Nat) (v0 v1 v2 v3 : Value) (m : DM) (h : DV w base g v0 v1 v2 v3 m) :
    Calls Try.prog 31 #[.pointer (some ⟨g, 0, none⟩)] w fun e w' => e = .returned (.int .i64 m.ops) ∧ w = w' := by
  have k1 : w.cell? ⟨g, 4, none⟩ = some (.int .i64 m.ops) := blk_cell h.blk 4
  clear h
  go_enter Try.func31, Try.ntmps31
  go_wp2
  go_ret
  exact ⟨rfl, rfl⟩

theorem DV.rows {w w' : World} {base g : Nat} {v0 v1 v2 v3 : Value} {m : DM} (h : DV w base g v0 v1 v2 v3 m) (fr : Fr w w' (fun k => k = g)) :
    Kd.R kB 89 w' base (fun _ => True) v0 m.sure ∧ Kd.R kB 89 w' base (fun _ => True) v1 m.now ∧ Kd.R kW 91 w' base (fun _ => True) v2 m.since ∧ Kd.Q (Kd.int .u8) 5 w' base (fun _ => True) v3 m.wait := by
  obtain ⟨n0, n1, n2, n3⟩ := h.ne
  exact ⟨R_fr h.sure rfl fr (fun k hk he => n0 (he ▸ hk)), R_fr h.now rfl fr (fun k hk he => n1 (he ▸ hk)), R_fr h.since rfl fr (fun k hk he => n2 (he ▸ hk)), Q_fr h.wait rfl fr (fun k hk he => n3 (he ▸ hk))⟩
def outc (m : DM) : Int := match m.wait with | [] => 0 | c :: _ => c % 3
def took (m : DM) : DM := ⟨m.sure, m.now, m.since, m.wait.tail, m.ops + 1⟩
theorem outc_range (m : DM) : 0 ≤ outc m ∧ outc m ≤ 2 := by
  unfold outc
  split
  · omega
  · omega

set_option maxHeartbeats 1000000 in
set_option maxRecDepth 100000 in
theorem next_calls (w : World) (base g : Nat) (v0 v1 v2 v3 : Value) (m : DM) (h : DV w base g v0 v1 v2 v3 m) (ho : 0 ≤ m.ops ∧ m.ops ≤ 1000000000) :
    Calls Try.prog 73 #[.pointer (some ⟨g, 0, none⟩)] w fun e w' => e = .returned (.int .i64 (outc m)) ∧ ∃ v3', DV w' base g v0 v1 v2 v3' (took m) ∧ (∀ k, own v3' k → own v3 k) ∧ Fr w w' (fun k => k = g) := by
  obtain ⟨A, c, rfl, hcl⟩ := Kd.Q_slice h.wait
  have H := Aside0.mk h
  have k3 : w.cell? ⟨g, 3, none⟩ = some (.slice A m.wait.length c) := blk_cell h.blk 3
  have k4 : w.cell? ⟨g, 4, none⟩ = some (.int .i64 m.ops) := blk_cell h.blk 4
  have f3 : w.frozen? ⟨g, 3, none⟩ = false := blk_frozen h.blk 3
  have f4 : w.frozen? ⟨g, 4, none⟩ = false := blk_frozen h.blk 4
  clear h
  go_enter Try.func73, Try.ntmps73
  by_cases hw : m.wait.length = 0
  · have hw1 : ((m.wait.length : Int) == 0) = true := beq_iff_eq.mpr (by omega)
    have hnil : m.wait = [] := List.eq_nil_of_length_eq_zero hw
    have HN := Aside0.mk hnil
    clear hnil hw
    go_wp2_with fail
    go_ret
    have fr : Fr w (w.setCell ⟨g, 4, none⟩ (.int .i64 (m.ops + 1))) (fun k => k = g) := Fr.set (g := g) (o := 4) (F := fun k => k = g) (Fr.refl w _) (.inl rfl) _
    obtain ⟨r0, r1, r2, r3⟩ := H.out.rows fr
    have h := H.out
    refine ⟨by unfold outc; rw [HN.out]; rfl, .slice A m.wait.length c, ⟨blk_set h.blk 4 _, r0, r1, r2, ?_, h.ap, ?_, h.len, h.n1, h.n2, h.at_, h.ge⟩, fun k hk => hk, fr⟩
    · show Kd.Q (Kd.int .u8) 5 _ base (fun _ => True) _ m.wait.tail
      rw [HN.out] at r3 ⊢
      exact r3
    · intro x hx
      have hx : x ∈ m.wait.tail := hx
      rw [HN.out] at hx; cases hx
  · have hw1 : ((m.wait.length : Int) == 0) = false := beq_eq_false_iff_ne.mpr (by omega)
    have hw2 : (1 : Int) ≤ (m.wait.length : Int) := by omega
    have HW := Aside0.mk hw
    clear hw
    go_upto_region 2 with fail
    have fr : Fr w (w.setCell ⟨g, 4, none⟩ (.int .i64 (m.ops + 1))) (fun k => k = g) := Fr.set (g := g) (o := 4) (F := fun k => k = g) (Fr.refl w _) (.inl rfl) _
    have hb1 := blk_set H.out.blk 4 (.int .i64 (m.ops + 1))
    obtain ⟨r0, r1, r2, r3⟩ := H.out.rows fr
    have FR := Aside0.mk fr
    have HB1 := Aside0.mk hb1
    have RR := Aside0.mk (And.intro r0 (And.intro r1 (And.intro r2 r3)))
    clear fr hb1 r0 r1 r2 r3 k3 k4 f3 f4
    generalize w.setCell ⟨g, 4, none⟩ (.int .i64 (m.ops + 1)) = w1 at *
    have k3 : w1.cell? ⟨g, 3, none⟩ = some (.slice A m.wait.length c) := blk_cell HB1.out 3
    have f3 : w1.frozen? ⟨g, 3, none⟩ = false := blk_frozen HB1.out 3
    obtain ⟨ad, rfl, hx⟩ := (Kd.reads_of_C (d := (0 : Int)) (Kd.Q_reads' RR.out.2.2.2).2.2).at_ 0 (by omega) (by omega)
    obtain ⟨x, hxx⟩ : ∃ x, x = rdOf 0 m.wait 0 := ⟨_, rfl⟩
    rw [← hxx] at hx
    have hcons : ∃ l, m.wait = x :: l := by
      cases hm : m.wait with
      | nil => exact absurd (by rw [hm]; rfl) HW.out
      | cons y l => exact ⟨l, by rw [hxx, hm]; rfl⟩
    have hxr : 0 ≤ x ∧ x ≤ 255 := by obtain ⟨l, hl⟩ := hcons; exact H.out.byt x (by rw [hl]; exact List.mem_cons_self)
    have HCN := Aside0.mk hcons
    clear hcons hxx
    have e0 : ad.add (Int.toNat 0) = ad := by simp [Addr.add]
    rw [e0] at hx
    clear e0
    go_wp2_with fail
    all_goals
      go_ret
      have hd := Kd.Q_drop (k := 1) RR.out.2.2.2 (by omega)
      have h := H.out
      obtain ⟨l, hl⟩ := HCN.out
      have hout : outc m = x % 3 := by unfold outc; rw [hl]
      have htail : m.wait.drop 1 = m.wait.tail := by rw [hl]; rfl
      rw [htail] at hd
      have hbyt : ∀ y ∈ m.wait.tail, 0 ≤ y ∧ y ≤ 255 := fun y hy => h.byt y (List.mem_of_mem_tail hy)
    · rename_i hc1
      subst hc1
      rw [if_pos rfl] at hd
      have hd : Kd.Q (Kd.int .u8) 5 w1 base (fun _ => True) (.slice (some ad) (m.wait.length - 1) 0) m.wait.tail := hd
      have fr2 : Fr w (w1.setCell ⟨g, 3, none⟩ (.slice (some ad) (m.wait.length - 1) 0)) (fun k => k = g) := Fr.set (g := g) (o := 3) FR.out (.inl rfl) _
      have fr3 : Fr w1 (w1.setCell ⟨g, 3, none⟩ (.slice (some ad) (m.wait.length - 1) 0)) (fun k => k = g) := Fr.set (g := g) (o := 3) (F := fun k => k = g) (Fr.refl w1 _) (.inl rfl) _
      obtain ⟨r0, r1, r2, r3⟩ := h.rows fr2
      have hne : ∀ k, own (.slice (some ad) (m.wait.length - 1) 0) k → ¬ k = g := fun k hk he => h.ne.2.2.2 (by subst he; simpa [own, Value.ownBlock] using hk)
      exact ⟨by rw [hout]; rfl, _, ⟨blk_set HB1.out 3 _, r0, r1, r2, Q_fr hd rfl fr3 hne, h.ap, hbyt, h.len, h.n1, h.n2, h.at_, h.ge⟩, fun k hk => by simpa [own, Value.ownBlock] using hk, fr2⟩
    · rename_i hc1
      rw [if_neg hc1] at hd
      have hd : Kd.Q (Kd.int .u8) 5 w1 base (fun _ => True) (.slice (some ⟨ad.block, ad.off + 1, none⟩) (m.wait.length - 1) (c - 1)) m.wait.tail := hd
      have fr2 : Fr w (w1.setCell ⟨g, 3, none⟩ (.slice (some ⟨ad.block, ad.off + 1, none⟩) (m.wait.length - 1) (c - 1))) (fun k => k = g) := Fr.set (g := g) (o := 3) FR.out (.inl rfl) _
      have fr3 : Fr w1 (w1.setCell ⟨g, 3, none⟩ (.slice (some ⟨ad.block, ad.off + 1, none⟩) (m.wait.length - 1) (c - 1))) (fun k => k = g) := Fr.set (g := g) (o := 3) (F := fun k => k = g) (Fr.refl w1 _) (.inl rfl) _
      obtain ⟨r0, r1, r2, r3⟩ := h.rows fr2
      have hne : ∀ k, own (.slice (some ⟨ad.block, ad.off + 1, none⟩) (m.wait.length - 1) (c - 1)) k → ¬ k = g := fun k hk he => h.ne.2.2.2 (by subst he; simpa [own, Value.ownBlock] using hk)
      exact ⟨by rw [hout]; rfl, _, ⟨blk_set HB1.out 3 _, r0, r1, r2, Q_fr hd rfl fr3 hne, h.ap, hbyt, h.len, h.n1, h.n2, h.at_, h.ge⟩, fun k hk => by simpa [own, Value.ownBlock] using hk, fr2⟩
end Go.Proofs.Ytdnjjhdhldgcmaa.Sec
