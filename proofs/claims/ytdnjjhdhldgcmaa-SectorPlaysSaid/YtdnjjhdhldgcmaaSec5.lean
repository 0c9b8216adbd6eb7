/- sector.Disk: Sync. -/
import Derived.Test.YtdnjjhdhldgcmaaSec4
namespace Go.Proofs.Ytdnjjhdhldgcmaa.Sec
open Go.RowKit Go.Proofs.YtdnjjhdhldgcmaaW.PrintWords Go.Proofs.YtdnjjhdhldgcmaaW.PrintLast Go.Proofs.YtdnjjhdhldgcmaaW.PrintMore Go.Proofs.Ytdnjjhdhldgcmaa.Bs Go.Proofs.Ytdnjjhdhldgcmaa.Fr
set_option linter.unusedVariables false
set_option linter.unusedSimpArgs false

/-- Writes laid over sectors. -/
def laid (s : List (List Int)) (l : List (Int × List Int)) : List (List Int) := l.foldl (fun s p => s.set p.1.toNat p.2) s
theorem laid_len (l : List (Int × List Int)) : ∀ s, (laid s l).length = s.length := by
  induction l with
  | nil => intro s; rfl
  | cons p r ih => intro s; show (laid (s.set p.1.toNat p.2) r).length = _; rw [ih, List.length_set]
theorem laid_snoc (s : List (List Int)) (l : List (Int × List Int)) (p : Int × List Int) : laid s (l ++ [p]) = (laid s l).set p.1.toNat p.2 := by unfold laid; rw [List.foldl_append]; rfl
def zP : Int × List Int := (0, [])
/-- Write i of a row of writes: where its cells lie. -/
theorem write_at {w : World} {base go n c : Nat} {xs : List (Int × List Int)} (h : Kd.R kW 91 w base (fun _ => True) (.slice (some ⟨go, 0, none⟩) n c) xs) (i : Nat) (hi : i < n) :
    (xs.getD i zP).2.length = 64 ∧ w.rangeAt go (i * 65) (Value.int .i64 (xs.getD i zP).1 :: encs (Value.int .u8) (xs.getD i zP).2) := by
  obtain ⟨cs, hl, hM, hc, _⟩ := Kd.R_elem h zP i (by omega) (by omega)
  rw [Int.toNat_natCast] at hM hc
  obtain ⟨c1, c2, rfl, h1, h2⟩ := hM
  have h1 : c1 = [Value.int .i64 (xs.getD i zP).1] := h1
  have h2 : Kd.M (Kd.arr 64 (Kd.int .u8) (Nat.succ_pos _)) w base (fun k => True ∧ k ≠ go) (xs.getD i zP).2 c2 := h2
  obtain ⟨h3, rfl⟩ := Kd.arr_cells (Kd.K_of_M _ h2)
  subst h1
  exact ⟨h3, fun j v hv => hc j v hv⟩
/-- One sector of the row of what is certain is written. -/
def setSure (m : DM) (s : List (List Int)) : DM := ⟨s, m.now, m.since, m.wait, m.ops⟩
theorem DV.set_sure {w w' : World} {base g gs n cs : Nat} {v1 v2 v3 : Value} {m : DM} (h : DV w base g (.slice (some ⟨gs, 0, none⟩) n cs) v1 v2 v3 m) (q : Nat) (hq : q < n) (b : List Int) (hb : b.length = 64) (hw : w' = w.setCells gs (q * 64) (encs (Value.int .u8) b)) :
    DV w' base g (.slice (some ⟨gs, 0, none⟩) n cs) v1 v2 v3 (setSure m (m.sure.set q b)) ∧ Fr w w' (fun k => k = gs) := by
  have fr : Fr w w' (fun k => k = gs) := by
    rw [hw]
    exact Fr.setCells (F := fun k => k = gs) (Fr.refl w _) (.inl rfl) _ _
  have hgs : own (.slice (some ⟨gs, 0, none⟩) n cs) gs := rfl
  have hne := h.ne
  have hseg : Kd.R kB 89 w' base (fun _ => True) (.slice (some ⟨gs, 0, none⟩) n cs) (m.sure.set q b) := by
    obtain ⟨ce, hcl, hM, hcc, _⟩ := Kd.R_elem h.sure zB q (by omega) (by omega)
    have h_ := (Kd.R_seg (okp := fun k => True ∧ k ≠ gs) h.sure (q : Int) (by omega) (by omega) hcl hcc (j := 0) (seg := encs (Value.int .u8) b) (by rw [encs_length, hb]; exact Nat.le_refl 64) (x' := b) (by
      rw [List.take_zero, List.nil_append, List.drop_of_length_le (by rw [hcl, encs_length, hb]; exact Nat.le_refl 64), List.append_nil]
      exact Kd.arr_of_cells hb) (fun _ hk => hk)).1
    rw [hw]
    have e1 : (q : Int).toNat * kB.sz + 0 = q * 64 := by rw [Int.toNat_natCast]; rfl
    rw [e1, Int.toNat_natCast] at h_
    exact h_
  obtain ⟨inner, ho⟩ := Kd.R_own h.sure
  obtain ⟨cells, hc⟩ := own_typed ho gs rfl
  have hsince := R_fr h.since rfl fr (fun k hk he => by subst he; exact Kd.R_ne h.since hc (by decide) hk.symm)
  have hwait := Q_fr h.wait rfl fr (fun k hk he => by subst he; exact Kd.Q_ne h.wait hc (by decide) hk.symm)
  have hnow := R_fr h.now rfl fr (fun k hk he => h.ap k (he ▸ hgs) hk)
  have hblk := fr.blk h.blk (fun he => hne.1 (he ▸ hgs))
  have hlen : (m.sure.set q b).length = m.now.length := by rw [List.length_set]; exact h.len
  exact ⟨⟨hblk, hseg, hnow, hsince, hwait, h.ap, h.byt, hlen, h.n1, h.n2, h.at_, h.ge⟩, fr⟩
/-- What a Sync that is not lost leaves. -/
def synced (m : DM) : DM := ⟨laid m.sure m.since, m.now, [], m.wait.tail, m.ops + 1⟩

set_option maxHeartbeats 1000000 in
set_option maxRecDepth 100000 in
theorem Sync_done (w : World) (base g : Nat) (v0 v1 v2 v3 : Value) (m : DM) (h : DV w base g v0 v1 v2 v3 m) (ho : 0 ≤ m.ops ∧ m.ops ≤ 1000000000) (hs : m.since.length ≤ 1000000) (hx : outc m ≠ 1) (hg : base ≤ w.heap.size) :
    Calls Try.prog 26 #[.pointer (some ⟨g, 0, none⟩)] w fun e w' => e = .returned (.int .i64 (tell (outc m))) ∧
      ∃ v3', DV w' base g v0 v1 (.slice none 0 0) v3' (synced m) ∧ Fr w w' (foot g v0 v1 v2 v3) ∧ ∀ k, own v3' k → own v3 k := by
  have H := Aside0.mk h
  have HO := Aside0.mk ho
  have hn0 : ((m.now.length : Int) == 0) = false := beq_eq_false_iff_ne.mpr (by have := h.n1; omega)
  have k5 : w.cell? ⟨g, 5, none⟩ = some (.func (.func 73) #[.pointer (some ⟨g, 0, none⟩)] #[]) := blk_cell h.blk 5
  obtain ⟨x, hxx⟩ : ∃ x, x = outc m := ⟨_, rfl⟩
  have HXX := Aside0.mk hxx
  have hx1 : (x != 1) = true := bne_iff_ne.mpr (by rw [hxx]; exact hx)
  obtain ⟨gs, cs, hv0, gb', gl, cl, HG⟩ := Kd.R_form h.sure (by have := h.len; have := h.n1; omega)
  have hl := h.len
  rw [hl] at hv0
  subst hv0
  obtain ⟨A2, c2, hv2⟩ := Kd.R_slice h.since
  subst hv2
  have HSL := Aside0.mk hs
  have HLEN := Aside0.mk hl
  clear h ho hx hxx gb' gl HG hl hs
  go_enter Try.func26, Try.ntmps26
  go_upto_region 5 with (first
    | (go_at_call 54; refine (Size_calls _ _ _ _ _ _ _ m H.out).mono ?_; rintro e w1 ⟨rfl, rfl⟩)
    | (go_at_call 73; refine (next_calls _ _ _ _ _ _ _ m H.out HO.out).mono ?_; rintro e w1 ⟨rfl, v3a, hd, hsub, hfr⟩; rw [← HXX.out]; have H1 := Aside0.mk hd; have HF1 := Aside0.mk hfr; have HV1 := Aside0.mk hsub; clear hd hfr hsub k5))
  have k2 : w1.cell? ⟨g, 2, none⟩ = some (.slice A2 m.since.length c2) := blk_cell H1.out.blk 2
  go_wp2_with fail
  clear k2
  go_loopg [21] m.since.length (fun r v21 wr => ∃ (j : Nat), v21 = .int .i64 j ∧ Aside0 (r + j = m.since.length) ∧ Aside0 (DV wr base g (.slice (some ⟨gs, 0, none⟩) m.now.length cs) v1 (.slice A2 m.since.length c2) v3a (setSure (took m) (laid m.sure (m.since.take j))) ∧ Fr w1 wr (fun k => k = gs)))
  case atStart => exact ⟨0, rfl, ⟨by omega⟩, ⟨H1.out, Fr.refl _ _⟩⟩
  case round =>
    obtain ⟨j, rfl, hq, hat⟩ := hrel
    by_cases hj : j < m.since.length
    · have hj1 : decide ((j : Int) < (m.since.length : Int)) = true := decide_eq_true (by omega)
      obtain ⟨go2, co2, hv2, gb', gl, cl2, HG⟩ := Kd.R_form hat.out.1.since (by show 0 < m.since.length; omega)
      injection hv2 with hA2 hA3 hA4
      subst hA2
      subst hA4
      clear hA3
      obtain ⟨p1, p2⟩ := write_at hat.out.1.since j hj
      have hmem : m.since.getD j zP ∈ m.since := by rw [List.getD_eq_getElem?_getD, List.getElem?_eq_getElem hj]; exact List.getElem_mem hj
      have hpq := hat.out.1.at_ _ hmem
      have hsnoc : laid m.sure (m.since.take (j + 1)) = (laid m.sure (m.since.take j)).set (m.since.getD j zP).1.toNat (m.since.getD j zP).2 := by
        rw [List.take_add_one, List.getElem?_eq_getElem hj, Option.toList_some, laid_snoc, List.getD_eq_getElem?_getD, List.getElem?_eq_getElem hj]; rfl
      have p1 : (m.since.getD j zP).2.length = 64 := p1
      have p2 : wr.rangeAt go2 (j * 65) (Value.int .i64 (m.since.getD j zP).1 :: encs (Value.int .u8) (m.since.getD j zP).2) := p2
      have hpq : 0 ≤ (m.since.getD j zP).1 ∧ (m.since.getD j zP).1 < (m.now.length : Int) := hpq
      generalize (m.since.getD j zP) = pb at *
      obtain ⟨p, b⟩ := pb
      simp only at p1 p2 hpq hsnoc
      obtain ⟨q, rfl⟩ := Int.eq_ofNat_of_zero_le hpq.1
      have hqn : q < m.now.length := by omega
      have hq1 : (q : Int) < (m.now.length : Int) := hpq.2
      rw [Int.toNat_natCast] at hsnoc
      have HLN := Aside0.mk p1
      have HP2 := Aside0.mk p2
      have HSN := Aside0.mk hsnoc
      have hcl : (Value.int .i64 (q : Int) :: encs (Value.int .u8) b).length = 65 := by rw [List.length_cons, encs_length, p1]
      have HCL := Aside0.mk hcl
      clear p1 p2 hsnoc hcl hmem gb' gl HG
      go_upto_region 8 with (first
        | (refine wpList_load_mid rfl 91 (.tmp 23) rfl go2 (j * 65) ?_ (Value.int .i64 (q : Int) :: encs (Value.int .u8) b) _ HP2.out Try.underlying91 rfl (by rw [HCL.out]; exact info91) ?_; (focus (go_simp; done)))
        | ((with_reducible refine gate_dst (N := 5) rfl ?_); refine box_event ?hg (N := 5) ?hd (cs := Try.zeroCells91) (t := 91) ?hr ?_; (case hd => rfl); (case hg => rfl); (case hr => first | (go_simp; done) | (go_simp; rfl)); intro g5 hg5 w2 hbox hb; have HG5 := Aside0.mk hg5; have HX2 := Aside0.mk hbox; have HB2 := Aside0.mk hb; clear hg5 hbox hb)
        | (refine wp_fill rfl 91 (.tmp 5) (.tmp 24) rfl g5 Try.zeroCells91 91 (Value.int .i64 (q : Int) :: encs (Value.int .u8) b) HX2.out rfl rfl HCL.out info91 (one_w _ b) ?_; intro w3 hx3 hf3; have HX3 := Aside0.mk hx3; have HF3 := Aside0.mk hf3; clear hx3 hf3))
      have fr3 : Fr wr w3 (fun k => k = g5) := (Fr.of_below HB2.out (fun k => k = g5)).trans HF3.out (fun k hk => .inl hk)
      have hn5 : wr.heap.size ≤ g5 := by rw [HG5.out]; exact Nat.le_refl _
      have d3 := hat.out.1.keep fr3 (fun y hy he => by have := hat.out.1.foot_lt y hy; omega)
      have k0 : w3.cell? ⟨g, 0, none⟩ = some (.slice (some ⟨gs, 0, none⟩) m.now.length cs) := blk_cell d3.blk 0
      have k5 : w3.cell? ⟨g5, 0, none⟩ = some (.int .i64 (q : Int)) := by rw [blk_cell HX3.out 0]; simp
      have HR8 : Aside0 (w3.rangeAt g5 1 (encs (Value.int .u8) b)) := ⟨range_part HX3.out⟩
      have hthere := (sector_at d3.sure q hqn).2.2
      have HT : Aside0 (w3.there gs (q * 64) (encs (Value.int .u8) b).toArray.size) := ⟨by rw [List.size_toArray, encs_length, HLN.out]; exact hthere⟩
      have D3 := Aside0.mk d3
      have FR3 := Aside0.mk (And.intro fr3 hn5)
      clear fr3 hn5 d3 hthere
      refine start_ (n := 10) (S := fun w' => w'.cell? ⟨g, 0, none⟩ = some (.slice (some ⟨gs, 0, none⟩) m.now.length cs) ∧ w'.cell? ⟨g5, 0, none⟩ = some (.int .i64 (q : Int)) ∧ w'.rangeAt g5 1 (encs (Value.int .u8) b)) (ds := [9]) #[false, false, false, false, false, false, false, false, false, false] (by kernel_rfl) rfl rfl ⟨k0, k5, HR8.out⟩ (fun hHeld => ?_)
      refine pure_ (i := 0) (N := some 25) (v := ?_) (a' := ?_) #[true, false, false, false, false, false, false, false, false, false] rfl rfl (by kernel_rfl) (fun _ _ _ h => h) (Or.inl ⟨by rfl, ?_⟩) ?_ ?_
      rotate_left
      · intro w'
        go_simp
        with_reducible rfl
      rotate_left
      · simp only [Act.put, List.setIfInBounds_toArray, List.set_cons_zero, List.set_cons_succ, i64_w, i32_w]
        rfl
      refine pure_ (i := 1) (N := some 26) (v := ?_) (a' := ?_) #[true, true, false, false, false, false, false, false, false, false] rfl rfl (by kernel_rfl) (fun _ _ _ h => h) (Or.inl ⟨by rfl, ?_⟩) ?_ ?_
      rotate_left
      · intro w'
        go_simp
        with_reducible rfl
      rotate_left
      · simp only [Act.put, List.setIfInBounds_toArray, List.set_cons_zero, List.set_cons_succ, i64_w, i32_w]
        rfl
      refine pure_ (i := 2) (N := some 27) (v := ?_) (a' := ?_) #[true, true, true, false, false, false, false, false, false, false] rfl rfl (by kernel_rfl) (fun _ _ _ h => h) (Or.inl ⟨by rfl, ?_⟩) ?_ ?_
      rotate_left
      · intro w'
        go_simp
        with_reducible rfl
      rotate_left
      · simp only [Act.put, List.setIfInBounds_toArray, List.set_cons_zero, List.set_cons_succ, i64_w, i32_w]
        rfl
      refine pure_ (i := 4) (N := some 29) (v := ?_) (a' := ?_) #[true, true, true, false, true, false, false, false, false, false] rfl rfl (by kernel_rfl) (fun _ _ _ h => h) (Or.inl ⟨by rfl, ?_⟩) ?_ ?_
      rotate_left
      · intro w'
        go_simp
        with_reducible rfl
      rotate_left
      · simp only [Act.put, List.setIfInBounds_toArray, List.set_cons_zero, List.set_cons_succ, i64_w, i32_w]
        rfl
      refine pure_ (i := 6) (N := some 31) (v := ?_) (a' := ?_) #[true, true, true, false, true, false, true, false, false, false] rfl rfl (by kernel_rfl) (fun _ _ _ h => h) (Or.inl ⟨by rfl, ?_⟩) ?_ ?_
      rotate_left
      · intro w'
        go_simp
        with_reducible rfl
      rotate_left
      · simp only [Act.put, List.setIfInBounds_toArray, List.set_cons_zero, List.set_cons_succ, i64_w, i32_w]
        rfl
      refine take_ (i := 3) (N := some 28) (v := ?_) (a' := ?_) #[true, true, true, true, true, false, true, false, false, false] rfl rfl (by kernel_rfl) (fun _ _ _ h => h) (Or.inl ⟨by rfl, ?_⟩) hHeld ?_ ?_
      rotate_left
      · rintro w' ⟨s0, s1, s2⟩
        go_simp
        with_reducible rfl
      rotate_left
      · simp only [Act.put, List.setIfInBounds_toArray, List.set_cons_zero, List.set_cons_succ, i64_w, i32_w]
        rfl
      refine take_ (i := 5) (N := some 30) (v := ?_) (a' := ?_) #[true, true, true, true, true, true, true, false, false, false] rfl rfl (by kernel_rfl) (fun _ _ _ h => h) (Or.inl ⟨by rfl, ?_⟩) hHeld ?_ ?_
      rotate_left
      · rintro w' ⟨s0, s1, s2⟩
        go_simp
        with_reducible rfl
      rotate_left
      · simp only [Act.put, List.setIfInBounds_toArray, List.set_cons_zero, List.set_cons_succ, i64_w, i32_w]
        rfl
      refine take_ (i := 7) (N := some 32) (v := (.agg (encs (Value.int .u8) b).toArray)) (a' := ?aa_1) #[true, true, true, true, true, true, true, true, false, false] rfl rfl (by kernel_rfl) (fun _ _ _ h => h) ?hy_1 hHeld ?ha_1 ?h_1
      case hy_1 => exact yieldsIf_load_mid (by rfl) 89 (.tmp 31) rfl g5 1 rfl (encs (Value.int .u8) b) _ (fun w' s => s.2.2) Try.underlying89 rfl (by rw [encs_length, HLN.out]; exact info89)
      case ha_1 => simp only [Act.put, List.setIfInBounds_toArray, List.set_cons_zero, List.set_cons_succ, i64_w, i32_w]; rfl
      refine pure_ (i := 8) (N := some 33) (v := ?_) (a' := ?_) #[true, true, true, true, true, true, true, true, true, false] rfl rfl (by kernel_rfl) (fun _ _ _ h => h) (Or.inl ⟨by rfl, ?_⟩) ?_ ?_
      rotate_left
      · intro w'
        go_simp
        with_reducible rfl
      rotate_left
      · simp only [Act.put, List.setIfInBounds_toArray, List.set_cons_zero, List.set_cons_succ, i64_w, i32_w]
        rfl
      refine last_ (i := 9) (N := none) #[true, true, true, true, true, true, true, true, true, true] rfl rfl (by kernel_rfl) (by decide) (fun K hK => ?_)
      refine skip_ (w1 := w3.drew.setCells gs (q * 64) (encs (Value.int .u8) b)) (by rfl) rfl ?_ ?_
      · exact run_store_mid 89 (.tmp 33) (.tmp 32) rfl gs (q * 64) (encs (Value.int .u8) b).toArray (by go_simp) rfl HT.out (by rw [List.size_toArray, encs_length, HLN.out]; exact info89) (all_oneCell_toArray (one_u8 b))
      refine hK.out _ _ ?_
      clear hK K
      refine done_ (by kernel_rfl) ?_
      obtain ⟨w4, hw4⟩ : ∃ w4, w4 = w3.drew.setCells gs (q * 64) (encs (Value.int .u8) b) := ⟨_, rfl⟩
      rw [← hw4]
      have d4 := DV.set_sure (w := w3.drew) (D3.out.keep ((Fr.refl w3 (fun _ => False)).drew) (fun _ _ h => h)) q hqn b HLN.out hw4
      have D4 : Aside0 (DV w4 base g (.slice (some ⟨gs, 0, none⟩) m.now.length cs) v1 (.slice (some ⟨go2, 0, none⟩) m.since.length c2) v3a (setSure (took m) (laid m.sure (m.since.take (j + 1)))) ∧ Fr w1 w4 (fun k => k = gs)) := by
        refine ⟨?_, ?_⟩
        · have := d4.1
          rw [HSN.out]; exact this
        · have e1 : Fr w1 w3 (fun k => k = gs) := hat.out.2.trans FR3.out.1 (fun k hk => .inr (by rw [hk]; have := FR3.out.2; have := hat.out.2.size; omega))
          exact e1.drew.trans d4.2 (fun k hk => .inl hk)
      clear d4 hw4 k0 k5 hHeld
      go_wp2_with fail
      go_roundg (m.since.length - (j + 1))
      case measure => have := hq.out; omega
      case rel => exact ⟨j + 1, by have := HSL.out; rw [show wrap64 ((j : Int) + 1) = ((j + 1 : Nat) : Int) from by unfold wrap64; omega], ⟨by omega⟩, D4⟩
    · have hj1 : decide ((j : Int) < (m.since.length : Int)) = false := decide_eq_false (by omega)
      have hall : m.since.take j = m.since := List.take_of_length_le (by omega)
      rw [hall] at hat
      have k2 : wr.cell? ⟨g, 2, none⟩ = some (.slice A2 m.since.length c2) := blk_cell hat.out.1.blk 2
      have f2 : wr.frozen? ⟨g, 2, none⟩ = false := blk_frozen hat.out.1.blk 2
      go_wp2_with (go_at_call 55; refine (told_calls x _).mono ?_; rintro e w6 ⟨rfl, rfl⟩)
      go_ret
      have d := hat.out.1
      have fs : Fr wr (wr.setCell ⟨g, 2, none⟩ (.slice none 0 0)) (fun k => k = g) := Fr.set (g := g) (o := 2) (F := fun k => k = g) (Fr.refl wr _) (.inl rfl) _
      obtain ⟨r0, r1, _, r3⟩ := d.rows fs
      refine ⟨by rw [HXX.out]; rfl, v3a, ⟨blk_set d.blk 2 _, r0, r1, Kd.R_nil _ _ _ _ _, r3, d.ap, d.byt, d.len, d.n1, d.n2, fun p hp => absurd hp (by simp [synced]), d.ge⟩, ?_, HV1.out⟩
      have e1 := HF1.out.mono (F2 := foot g (.slice (some ⟨gs, 0, none⟩) m.now.length cs) v1 (.slice A2 m.since.length c2) v3) (fun k hk => .inl hk)
      have e2 := e1.trans hat.out.2 (fun k hk => .inl (.inr (.inl (by rw [hk]; rfl))))
      exact e2.trans fs (fun k hk => .inl (.inl hk))
end Go.Proofs.Ytdnjjhdhldgcmaa.Sec
