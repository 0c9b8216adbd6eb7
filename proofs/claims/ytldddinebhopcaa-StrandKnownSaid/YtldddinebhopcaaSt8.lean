/- strand: next, Place, Sync, All. -/
import Derived.Test.YtldddinebhopcaaSt7
namespace Go.Proofs.Ytldddinebhopcaa.St
open Go.RowKit Go.Shelf Go.Proofs.YtldddinebhopcaaW.PrintWords Go.Proofs.YtldddinebhopcaaW.PrintLast Go.Proofs.YtldddinebhopcaaW.PrintMore Go.Proofs.Ytldddinebhopcaa.Bs Go.Proofs.Ytldddinebhopcaa.Fr Go.Proofs.Ytldddinebhopcaa.Oct Go.Proofs.Ytldddinebhopcaa.Sec Go.Proofs.Ytldddinebhopcaa.Rg
set_option linter.unusedVariables false
set_option linter.unusedSimpArgs false
def nextM (m : SM) : SM := ⟨m.at_ + 1, [], m.recs⟩
set_option maxHeartbeats 1000000 in
set_option maxRecDepth 100000 in
theorem Snext_calls (w : World) (base gs gd : Nat) (ok : Nat → Prop) (v2 v3 : Value) (m : SM) (h : SV w base ok gs gd v2 v3 m) (ha : 0 ≤ m.at_ ∧ m.at_ ≤ 1000000) :
    Calls Try.prog 44 #[.pointer (some ⟨gs, 0, none⟩)] w fun e w' => e = .returned (.tuple #[]) ∧ SV w' base ok gs gd (.slice none 0 0) v3 (nextM m) ∧ Fr w w' (fun k => k = gs) := by
  have H := Aside0.mk h
  have k1 : w.cell? ⟨gs, 1, none⟩ = some (.int .i64 m.at_) := blk_cell h.blk 1
  have f1 : w.frozen? ⟨gs, 1, none⟩ = false := blk_frozen h.blk 1
  have f2 : w.frozen? ⟨gs, 2, none⟩ = false := blk_frozen h.blk 2
  have k2 : w.cell? ⟨gs, 2, none⟩ = some v2 := blk_cell h.blk 2
  clear h
  go_enter Try.func44, Try.ntmps44
  go_wp2
  first | go_end0 | ((try simp only [Exit.inBlock, Exit.then]); refine bodyPost_ret (results_none rfl _ _ _) rfl ?_)
  obtain ⟨s1, r1⟩ := H.out.set (m.at_ + 1)
  obtain ⟨s2, r2⟩ := s1.ahd (v := .slice none 0 0) (l := []) (Kd.R_nil _ _ _ _ _)
  exact ⟨rfl, s2, r1.trans r2 (fun k hk => .inl hk)⟩
set_option maxHeartbeats 1000000 in
set_option maxRecDepth 100000 in
theorem Place_calls (w : World) (base gs gd : Nat) (ok : Nat → Prop) (v2 v3 : Value) (m : SM) (h : SV w base ok gs gd v2 v3 m) :
    Calls Try.prog 15 #[.pointer (some ⟨gs, 0, none⟩)] w fun e w' => e = .returned (.tuple #[.int .i64 m.at_, .int .i64 m.ahead.length]) ∧ w.drew = w' := by
  obtain ⟨A2, c2, rfl⟩ := Kd.R_slice h.ahead
  have k1 : w.cell? ⟨gs, 1, none⟩ = some (.int .i64 m.at_) := blk_cell h.blk 1
  have k2 : w.cell? ⟨gs, 2, none⟩ = some (.slice A2 m.ahead.length c2) := blk_cell h.blk 2
  clear h
  go_enter Try.func15, Try.ntmps15
  go_upto_region 3 with fail
  refine start_ (n := 11) (S := fun w' => w'.cell? ⟨gs, 1, none⟩ = some (.int .i64 m.at_) ∧ w'.cell? ⟨gs, 2, none⟩ = some (.slice A2 m.ahead.length c2)) (ds := []) #[false, false, false, false, false, false, false, false, false, false, false] (by kernel_rfl) rfl rfl ⟨k1, k2⟩ (fun hHeld => ?_)
  refine pure_ (i := 0) (N := some 6) (v := ?_) (a' := ?_) #[true, false, false, false, false, false, false, false, false, false, false] rfl rfl (by kernel_rfl) (fun _ _ _ h => h) (Or.inl ⟨by rfl, ?_⟩) ?_ ?_
  rotate_left
  · intro w'
    go_simp
    with_reducible rfl
  rotate_left
  · simp only [Act.put, List.setIfInBounds_toArray, List.set_cons_zero, List.set_cons_succ, i64_w, i32_w]
    rfl
  refine pure_ (i := 1) (N := some 7) (v := ?_) (a' := ?_) #[true, true, false, false, false, false, false, false, false, false, false] rfl rfl (by kernel_rfl) (fun _ _ _ h => h) (Or.inl ⟨by rfl, ?_⟩) ?_ ?_
  rotate_left
  · intro w'
    go_simp
    with_reducible rfl
  rotate_left
  · simp only [Act.put, List.setIfInBounds_toArray, List.set_cons_zero, List.set_cons_succ, i64_w, i32_w]
    rfl
  refine pure_ (i := 2) (N := some 8) (v := ?_) (a' := ?_) #[true, true, true, false, false, false, false, false, false, false, false] rfl rfl (by kernel_rfl) (fun _ _ _ h => h) (Or.inl ⟨by rfl, ?_⟩) ?_ ?_
  rotate_left
  · intro w'
    go_simp
    with_reducible rfl
  rotate_left
  · simp only [Act.put, List.setIfInBounds_toArray, List.set_cons_zero, List.set_cons_succ, i64_w, i32_w]
    rfl
  refine pure_ (i := 4) (N := some 10) (v := ?_) (a' := ?_) #[true, true, true, false, true, false, false, false, false, false, false] rfl rfl (by kernel_rfl) (fun _ _ _ h => h) (Or.inl ⟨by rfl, ?_⟩) ?_ ?_
  rotate_left
  · intro w'
    go_simp
    with_reducible rfl
  rotate_left
  · simp only [Act.put, List.setIfInBounds_toArray, List.set_cons_zero, List.set_cons_succ, i64_w, i32_w]
    rfl
  refine pure_ (i := 5) (N := some 11) (v := ?_) (a' := ?_) #[true, true, true, false, true, true, false, false, false, false, false] rfl rfl (by kernel_rfl) (fun _ _ _ h => h) (Or.inl ⟨by rfl, ?_⟩) ?_ ?_
  rotate_left
  · intro w'
    go_simp
    with_reducible rfl
  rotate_left
  · simp only [Act.put, List.setIfInBounds_toArray, List.set_cons_zero, List.set_cons_succ, i64_w, i32_w]
    rfl
  refine pure_ (i := 6) (N := some 12) (v := ?_) (a' := ?_) #[true, true, true, false, true, true, true, false, false, false, false] rfl rfl (by kernel_rfl) (fun _ _ _ h => h) (Or.inl ⟨by rfl, ?_⟩) ?_ ?_
  rotate_left
  · intro w'
    go_simp
    with_reducible rfl
  rotate_left
  · simp only [Act.put, List.setIfInBounds_toArray, List.set_cons_zero, List.set_cons_succ, i64_w, i32_w]
    rfl
  refine take_ (i := 3) (N := some 9) (v := ?_) (a' := ?_) #[true, true, true, true, true, true, true, false, false, false, false] rfl rfl (by kernel_rfl) (fun _ _ _ h => h) (Or.inl ⟨by rfl, ?_⟩) hHeld ?_ ?_
  rotate_left
  · rintro w' ⟨s0, s1⟩
    go_simp
    with_reducible rfl
  rotate_left
  · simp only [Act.put, List.setIfInBounds_toArray, List.set_cons_zero, List.set_cons_succ, i64_w, i32_w]
    rfl
  refine pure_ (i := 9) (N := some 2) (v := ?_) (a' := ?_) #[true, true, true, true, true, true, true, false, false, true, false] rfl rfl (by kernel_rfl) (fun _ _ _ h => h) (Or.inl ⟨by rfl, ?_⟩) ?_ ?_
  rotate_left
  · intro w'
    go_simp
    with_reducible rfl
  rotate_left
  · simp only [Act.put, List.setIfInBounds_toArray, List.set_cons_zero, List.set_cons_succ, i64_w, i32_w]
    rfl
  refine take_ (i := 7) (N := some 13) (v := ?_) (a' := ?_) #[true, true, true, true, true, true, true, true, false, true, false] rfl rfl (by kernel_rfl) (fun _ _ _ h => h) (Or.inl ⟨by rfl, ?_⟩) hHeld ?_ ?_
  rotate_left
  · rintro w' ⟨s0, s1⟩
    go_simp
    with_reducible rfl
  rotate_left
  · simp only [Act.put, List.setIfInBounds_toArray, List.set_cons_zero, List.set_cons_succ, i64_w, i32_w]
    rfl
  refine pure_ (i := 8) (N := some 14) (v := ?_) (a' := ?_) #[true, true, true, true, true, true, true, true, true, true, false] rfl rfl (by kernel_rfl) (fun _ _ _ h => h) (Or.inl ⟨by rfl, ?_⟩) ?_ ?_
  rotate_left
  · intro w'
    go_simp
    with_reducible rfl
  rotate_left
  · simp only [Act.put, List.setIfInBounds_toArray, List.set_cons_zero, List.set_cons_succ, i64_w, i32_w]
    rfl
  refine pure_ (i := 10) (N := some 3) (v := ?_) (a' := ?_) #[true, true, true, true, true, true, true, true, true, true, true] rfl rfl (by kernel_rfl) (fun _ _ _ h => h) (Or.inl ⟨by rfl, ?_⟩) ?_ ?_
  rotate_left
  · intro w'
    go_simp
    with_reducible rfl
  rotate_left
  · simp only [Act.put, List.setIfInBounds_toArray, List.set_cons_zero, List.set_cons_succ, i64_w, i32_w]
    rfl
  refine done_ (by kernel_rfl) ?_
  go_wp2
  go_ret2
  exact ⟨rfl, rfl⟩
/-- What Sync makes of a strand. -/
def sySM (m : SM) (e : Int) : SM := if e ≠ 0 ∧ m.ahead.length ≠ 0 then nextM m else m
set_option maxHeartbeats 2000000 in
set_option maxRecDepth 100000 in
theorem SSync_calls (w : World) (base gs gd : Nat) (ok : Nat → Prop) (u2 u3 v0 v1 v2 v3 : Value) (m : SM) (d : DM) (h : SV w base ok gs gd u2 u3 m) (hd : DV w base gd v0 v1 v2 v3 d) (ho : 0 ≤ d.ops ∧ d.ops ≤ 1000000000) (hs : d.since.length ≤ 1000000) (hb : base ≤ w.heap.size)
    (ha : 0 ≤ m.at_ ∧ m.at_ ≤ 1000000) (hl : m.ahead.length ≤ 64) (hk : ∀ k, ok k → ¬ foot gd v0 v1 v2 v3 k) (hg : ¬ foot gd v0 v1 v2 v3 gs) :
    Calls Try.prog 23 #[.pointer (some ⟨gs, 0, none⟩)] w fun e w' => e = .returned (.int .i64 (tell (outc d))) ∧ ∃ u2' v2' v3', DV w' base gd v0 v1 v2' v3' (syM d) ∧ SV w' base (fun k => ok k ∧ ¬ foot gd v0 v1 v2' v3' k) gs gd u2' u3 (sySM m (tell (outc d))) ∧ ¬ foot gd v0 v1 v2' v3' gs ∧
      Fr w w' (fun k => foot gd v0 v1 v2 v3 k ∨ k = gs) ∧ ∀ k, foot gd v0 v1 v2' v3' k → foot gd v0 v1 v2 v3 k ∨ w.heap.size ≤ k := by
  have H := Aside0.mk h
  have D := Aside0.mk hd
  have HB := Aside0.mk hb
  have HO := Aside0.mk (And.intro ho hs)
  have HK := Aside0.mk hk
  have HG := Aside0.mk hg
  have HA := Aside0.mk ha
  have HLT := Aside0.mk (blk_lt h.blk)
  have HRL := Aside0.mk (fun k (q : ok k ∧ base ≤ k ∧ k < w.heap.size) => q.2.2)
  have k0 : w.cell? ⟨gs, 0, none⟩ = some (.pointer (some ⟨gd, 0, none⟩)) := blk_cell h.blk 0
  have hll : 0 ≤ (m.ahead.length : Int) ∧ (m.ahead.length : Int) ≤ 64 := by omega
  clear h hd ho hs hb hk hg ha hl
  go_enter Try.func23, Try.ntmps23
  go_wp2_with fail
  refine (Sync_all w base gd v0 v1 v2 v3 d D.out HO.out.1 HO.out.2 HB.out).mono ?_
  rintro e w1 ⟨rfl, v2', v3', d1, f1, ft1⟩
  have D1 := Aside0.mk d1
  have F1 := Aside0.mk f1
  have FT1 := Aside0.mk ft1
  have S1 : Aside0 (SV w1 base (fun k => ok k ∧ ¬ foot gd v0 v1 v2' v3' k) gs gd u2 u3 m) := ⟨by
    have h1 := H.out.okto (ok' := fun k => ok k ∧ k < w.heap.size) (fun k q1 _ q3 => ⟨q1, q3⟩)
    refine (h1.keep f1 (fun q hq => HK.out q hq.1) HG.out).okto (fun k q1 _ _ => ⟨q1.1, fun hf => ?_⟩)
    rcases ft1 k hf with q | q
    · exact HK.out k q1.1 q
    · have := q1.2; omega⟩
  have G1 : Aside0 (¬ foot gd v0 v1 v2' v3' gs) := ⟨fun hf => by
    rcases ft1 gs hf with q | q
    · exact HG.out q
    · have := HLT.out; omega⟩
  obtain ⟨A2, c2, rfl⟩ := Kd.R_slice H.out.ahead
  have k2 : w1.cell? ⟨gs, 2, none⟩ = some (.slice A2 m.ahead.length c2) := blk_cell S1.out.blk 2
  have HT := outc_range d
  clear d1 f1 ft1 k0
  by_cases hc : tell (outc d) ≠ 0 ∧ m.ahead.length ≠ 0
  · have HM : Aside0 (sySM m (tell (outc d)) = nextM m) := ⟨by unfold sySM; rw [if_pos hc]⟩
    have hn : (tell (outc d) != 0) = true := bne_iff_ne.mpr hc.1
    have hp : (m.ahead.length : Int) > 0 := by have := hc.2; omega
    have hpb : decide (0 < (m.ahead.length : Int)) = true := decide_eq_true hp
    clear hc
    go_wp2_with fail
    refine (Snext_calls w1 base gs gd _ _ u3 m S1.out HA.out).mono ?_
    rintro e w2 ⟨rfl, s2, f2⟩
    have S2 := Aside0.mk s2
    have F2 := Aside0.mk f2
    clear s2 f2
    go_wp2
    go_ret
    refine ⟨rfl, .slice none 0 0, v2', v3', D1.out.keep F2.out (fun q hq he => G1.out (he ▸ hq)), by rw [HM.out]; exact S2.out, G1.out, (F1.out.mono (fun k hk => Or.inl hk)).trans F2.out (fun k hk => .inl (.inr hk)), FT1.out⟩
  · have HM : Aside0 (sySM m (tell (outc d)) = m) := ⟨by unfold sySM; rw [if_neg hc]⟩
    by_cases h0 : tell (outc d) = 0
    · have hn : (tell (outc d) != 0) = false := by rw [h0]; rfl
      clear hc h0
      go_wp2
      go_ret
      exact ⟨rfl, _, v2', v3', D1.out, by rw [HM.out]; exact S1.out, G1.out, F1.out.mono (fun k hk => Or.inl hk), FT1.out⟩
    · have hn : (tell (outc d) != 0) = true := bne_iff_ne.mpr h0
      have hp : ¬ (m.ahead.length : Int) > 0 := by omega
      have hpb : decide (0 < (m.ahead.length : Int)) = false := decide_eq_false hp
      clear hc h0
      go_wp2
      go_ret
      exact ⟨rfl, _, v2', v3', D1.out, by rw [HM.out]; exact S1.out, G1.out, F1.out.mono (fun k hk => Or.inl hk), FT1.out⟩
theorem below_nil {w w1 : World} (hg : w.grownBy w1 (Value.ownBlock (.slice none 0 0))) : Below w.heap.size w w1 := (Below.refl _ _).grown hg (Nat.le_refl _) (fun k hk => by cases hk)
/-- A record of a row of them: its cells, its body. -/
theorem rec_at {w : World} {base : Nat} {ok : Nat → Prop} {A : Option Addr} {c : Nat} {l : List (List Int × Int)} (h : Kd.R kRec 81 w base ok (.slice A l.length c) l) (i : Nat) (hi : i < l.length) :
    ∃ g Ab cb, A = some ⟨g, 0, none⟩ ∧ w.cell? ⟨g, i * 2, none⟩ = some (.slice Ab (l.getD i ([], 0)).1.length cb) ∧ w.cell? ⟨g, i * 2 + 1, none⟩ = some (.int .i64 (l.getD i ([], 0)).2) ∧ Kd.R (Kd.int .u8) 5 w base ok (.slice Ab (l.getD i ([], 0)).1.length cb) (l.getD i ([], 0)).1 := by
  obtain ⟨g, cap, hv, _⟩ := Kd.R_form h (by omega)
  injection hv with hA _ _
  subst hA
  obtain ⟨cs, hl, hM, hc, _⟩ := Kd.R_elem h (([], 0) : List Int × Int) i (by omega) (by omega)
  rw [Int.toNat_natCast] at hM hc
  obtain ⟨c1, c2, rfl, ⟨v, rfl, hR⟩, h2⟩ := hM
  have h2 : c2 = [Value.int .i64 (l.getD i ([], 0)).2] := h2
  subst h2
  obtain ⟨Ab, cb, rfl⟩ := Kd.R_slice hR
  exact ⟨g, Ab, cb, rfl, hc 0 _ rfl, hc 1 _ rfl, Kd.R_mono hR (fun k hk => hk.1)⟩
set_option maxHeartbeats 2000000 in
set_option maxRecDepth 100000 in
theorem All_calls (w : World) (base gs gd : Nat) (ok : Nat → Prop) (v2 v3 : Value) (m : SM) (h : SV w base ok gs gd v2 v3 m) (hn : m.recs.length ≤ 1000000) (hl : ∀ r ∈ m.recs, r.1.length ≤ 1000) :
    Calls Try.prog 27 #[.pointer (some ⟨gs, 0, none⟩)] w fun e w' => ∃ v, e = .returned v ∧ Kd.R kL 23 w' w.heap.size (fun _ => True) v (m.recs.map (·.1)) ∧ Below w.heap.size w w' := by
  have HR := Aside0.mk h.recs
  have HN := Aside0.mk hn
  have HL := Aside0.mk hl
  obtain ⟨A3, c3, rfl⟩ := Kd.R_slice h.recs
  have k3 : w.cell? ⟨gs, 3, none⟩ = some (.slice A3 m.recs.length c3) := blk_cell h.blk 3
  clear h hn hl
  go_enter Try.func27, Try.ntmps27
  go_upto_region 5 with fail
  go_loopg [3, 13] m.recs.length (fun q v3 v13 wr => ∃ i : Nat, v13 = .int .i64 (i : Int) ∧ Aside0 (i + q = m.recs.length) ∧ Aside0 (Kd.R kL 23 wr w.heap.size (fun _ => True) v3 ((m.recs.take i).map (·.1))) ∧ Aside0 (Below w.heap.size w wr))
  case atStart => exact ⟨0, rfl, ⟨by omega⟩, ⟨Kd.R_nil _ _ _ _ _⟩, ⟨Below.refl _ _⟩⟩
  case round =>
    obtain ⟨i, rfl, Hi, RA, BA⟩ := hrel
    cases gk with
    | zero =>
      have hlt : ¬ ((i : Int) < (m.recs.length : Int)) := by have := Hi.out; omega
      have hlb := decide_eq_false hlt
      have HT : Aside0 (m.recs.take i = m.recs) := ⟨List.take_of_length_le (by have := Hi.out; omega)⟩
      go_wp2
      go_ret
      exact ⟨u3, rfl, by have h := RA.out; rw [HT.out] at h; exact h, BA.out⟩
    | succ q =>
      have hlt : (i : Int) < (m.recs.length : Int) := by have := Hi.out; omega
      have hlb := decide_eq_true hlt
      have hi0 : (0 : Int) ≤ i ∧ (i : Int) < (m.recs.length : Int) := ⟨by omega, hlt⟩
      have hil : (i : Int) ≤ 1000000 := by have := HN.out; omega
      obtain ⟨g, Ab, cb, hA, x0, x1, RX⟩ := rec_at HR.out i (by omega)
      subst hA
      have HTS : Aside0 ((m.recs.take (i + 1)).map (·.1) = (m.recs.take i).map (·.1) ++ [(m.recs.getD i ([], 0)).1]) := ⟨by
        have hi' : i < m.recs.length := by omega
        rw [List.take_add_one, List.getElem?_eq_getElem hi', Option.toList_some, List.map_append, List.getD_eq_getElem?_getD, List.getElem?_eq_getElem hi']
        rfl⟩
      have HXL : Aside0 ((m.recs.getD i ([], 0)).1.length ≤ 1000) := ⟨HL.out _ (by
        have hi' : i < m.recs.length := by omega
        rw [List.getD_eq_getElem?_getD, List.getElem?_eq_getElem hi']
        exact List.getElem_mem hi')⟩
      have RXC := Aside0.mk (Kd.C_below (Kd.R_reads' RX).2.2 BA.out)
      have y0 := pw_cell_below BA.out x0
      have y1 := pw_cell_below BA.out x1
      obtain ⟨A4, c4, ev⟩ := Kd.R_slice RA.out
      subst ev
      have HAL : Aside0 ((((m.recs.take i).map (·.1)).length + 1) * 24 ≤ 140737488355328) := ⟨by rw [List.length_map, List.length_take]; have := HN.out; omega⟩
      clear RX x0 x1
      obtain ⟨x, hx⟩ : ∃ x, (m.recs.getD i ([], 0)).1 = x := ⟨_, rfl⟩
      obtain ⟨n2, hn2⟩ : ∃ x, (m.recs.getD i ([], 0)).2 = x := ⟨_, rfl⟩
      rw [hx] at y0 HTS HXL RXC
      rw [hn2] at y1
      clear hx hn2
      obtain ⟨acc, hacc⟩ : ∃ acc, (m.recs.take i).map (·.1) = acc := ⟨_, rfl⟩
      rw [hacc] at RA HTS HAL
      rw [hacc]
      clear hacc
      have BA1 := Aside0.mk (Below.alloc BA.out BA.out.size (.cells #[.slice Ab x.length cb, .int .i64 n2] 81))
      have CX1 := Aside0.mk (Kd.C_below RXC.out (below_alloc (Below.refl _ _) (.cells #[.slice Ab x.length cb, .int .i64 n2] 81)))
      have RA1 := Aside0.mk (Kd.R_alloc RA.out (.cells #[.slice Ab x.length cb, .int .i64 n2] 81))
      go_upto_region 8 with (first
        | ((with_reducible refine gate_builtin (b := .append) (xs := #[.const (.slice none 0 0), .tmp 19]) rfl ?_); at_builtin; refine Kd.R_append_row (Value.int .u8) (0 : Int) (w0 := w) w.heap.size rfl (.const (.slice none 0 0)) (.tmp 19) 23 5 (.int .u8 0) 1 rfl Try.underlying23 infoU rfl (Nat.succ_pos _) (.slice none 0 0) [] x Ab x.length cb (fun k => (wr.alloc (.cells #[.slice Ab x.length cb, .int .i64 n2] 81)).heap.size ≤ k) rfl rfl (fun _ h_ => h_) (Kd.R_nil _ _ _ _ _) CX1.out BA1.out BA1.out.size (by have := HXL.out; rw [List.length_nil]; omega) ?_; intro v6 w6 hr_ hb_ hg_ _; rw [List.nil_append] at hr_; have R6 := Aside0.mk hr_; have B6 := Aside0.mk hb_; have RA6 := Aside0.mk (Kd.R_below RA1.out (below_nil hg_)); obtain ⟨A6, c6, ev⟩ := Kd.R_slice hr_; subst ev; clear hr_ hb_ hg_)
        | ((with_reducible refine gate_builtin (b := .append) (xs := #[.tmp 17, .tmp 21]) rfl ?_); at_builtin; refine Kd.R_append kL (w0 := w) w.heap.size rfl (.tmp 17) (.tmp 21) 40 23 (.slice none 0 0) 24 rfl Try.underlying40 infoL rfl (by decide) (by decide) (.slice A4 acc.length c4) acc x [.slice A6 x.length c6] (fun _ => True) (fun k => (wr.alloc (.cells #[.slice Ab x.length cb, .int .i64 n2] 81)).heap.size ≤ k) rfl rfl (kL_mk R6.out) (fun k hk => ⟨trivial, fun he => by have := R_own_lt RA1.out k he.symm; omega⟩) (fun _ _ => trivial) RA6.out B6.out B6.out.size HAL.out ?_; intro v8 w8 hr_ hb_ _ _; have R8 := Aside0.mk hr_; have B8 := Aside0.mk hb_; clear hr_ hb_))
      go_wp2
      go_roundg q
      case measure => omega
      case rel => exact ⟨i + 1, by go_num, ⟨by have := Hi.out; omega⟩, ⟨by rw [HTS.out]; exact R8.out⟩, B8⟩
end Go.Proofs.Ytldddinebhopcaa.St
