/- sector.Disk: its other contracts; whatever the outcome. -/
import Derived.Test.YtldddinebhopcaaDkA
namespace Go.Proofs.Ytldddinebhopcaa.Sec
open Go.RowKit Go.Proofs.YtldddinebhopcaaW.PrintWords Go.Proofs.YtldddinebhopcaaW.PrintLast Go.Proofs.YtldddinebhopcaaW.PrintMore Go.Proofs.Ytldddinebhopcaa.Bs Go.Proofs.Ytldddinebhopcaa.Fr
set_option linter.unusedVariables false
set_option linter.unusedSimpArgs false

/-- What a crash leaves of a sector. -/
def leftM (old wr : List Int) (c : Int) : List Int := if c % 3 = 0 then wr else if c % 3 = 1 then old else wr.take (min (c / 3) 64).toNat ++ old.drop (min (c / 3) 64).toNat
theorem leftM_len {old wr : List Int} (h1 : old.length = 64) (h2 : wr.length = 64) (c : Int) : (leftM old wr c).length = 64 := by
  unfold leftM
  split
  · exact h2
  · split
    · exact h1
    · simp [h1, h2]; omega

set_option maxHeartbeats 1000000 in
set_option maxRecDepth 100000 in
theorem left_0 (w : World) (old wr : List Int) (c : Int) (h1 : old.length = 64) (h2 : wr.length = 64) (hc : 0 ≤ c ∧ c ≤ 255) (h0 : c % 3 = 0) :
    Calls Try.prog 51 #[.agg (encs (Value.int .u8) old).toArray, .agg (encs (Value.int .u8) wr).toArray, .int .u8 c] w fun e w' => e = .returned (.agg (encs (Value.int .u8) wr).toArray) ∧ Below w.heap.size w w' := by
  have H1 := Aside0.mk h1
  have H2 := Aside0.mk h2
  have e0 : (c % 3 == 0) = true := beq_iff_eq.mpr h0
  clear h1 h2 h0
  go_enter Try.func51, Try.ntmps51
  go_wp2_with (first
    | ((with_reducible refine gate_dst (N := 3) rfl ?_); refine box_event ?hg (N := 3) ?hd (cs := (encs (Value.int .u8) old).toArray) (t := 94) ?hr ?_; (case hd => rfl); (case hg => rfl); (case hr => first | (go_simp; done) | (go_simp; rfl)); intro g3 hg3 w1 hbox1 hb1; have HG3 := Aside0.mk hg3; have HX3 := Aside0.mk hbox1; have HB1 := Aside0.mk hb1; clear hg3 hbox1 hb1)
    | ((with_reducible refine gate_dst (N := 4) rfl ?_); refine box_event ?hg (N := 4) ?hd (cs := (encs (Value.int .u8) wr).toArray) (t := 94) ?hr ?_; (case hd => rfl); (case hg => rfl); (case hr => first | (go_simp; done) | (go_simp; rfl)); intro g4 hg4 w2 hbox2 hb2; have HG4 := Aside0.mk hg4; have HX4 := Aside0.mk hbox2; have HB2 := Aside0.mk hb2; clear hg4 hbox2 hb2)
    | ((with_reducible refine gate_dst (N := 6) rfl ?_); refine box_event ?hg (N := 6) ?hd (cs := z64) (t := 94) ?hr ?_; (case hd => rfl); (case hg => rfl); (case hr => first | (go_simp; done) | (go_simp; rfl)); intro g6 hg6 w3 hbox3 hb3; have HG6 := Aside0.mk hg6; have HX6 := Aside0.mk hbox3; have HB3 := Aside0.mk hb3; clear hg6 hbox3 hb3; have HX4b := Aside0.mk (blk_below HX4.out HB3.out); have HX3b := Aside0.mk (blk_below (blk_below HX3.out HB2.out) HB3.out))
    | (refine wpList_load_mid rfl 94 (.tmp 4) rfl g4 0 rfl (encs (Value.int .u8) wr) _ (range_blk HX4b.out) Try.underlying94 rfl (by rw [encs_length, H2.out]; exact info89) ?_)
    | (refine wp_fill rfl 94 (.tmp 6) (.tmp 12) rfl g6 z64 94 (encs (Value.int .u8) wr) HX6.out rfl rfl (by rw [encs_length, H2.out]; rfl) info89 (one_u8 wr) ?_; intro w4 hx4 hf4; have HX7 := Aside0.mk hx4; have HF4 := Aside0.mk hf4; clear hx4 hf4))
  (try simp only [Exit.inBlock, Exit.then])
  have hb : Below w.heap.size w w3 := below_step (below_step HB1.out HB2.out) HB3.out
  refine bodyPost_ret (results_cell_row rfl _ _ g6 94 _ (0, 0) _ rfl HX7.out Try.underlying94 rfl (by rw [List.size_toArray, encs_length, H2.out]; exact info89)) rfl ⟨rfl, ?_⟩
  exact below_fr hb hb.size HF4.out (fun k hk => by have h1 := HG6.out; have h2 := HB1.out.size; have h3 := HB2.out.size; rw [hk]; omega)
set_option maxHeartbeats 1000000 in
set_option maxRecDepth 100000 in
theorem left_1 (w : World) (old wr : List Int) (c : Int) (h1 : old.length = 64) (h2 : wr.length = 64) (hc : 0 ≤ c ∧ c ≤ 255) (h0 : c % 3 = 1) :
    Calls Try.prog 51 #[.agg (encs (Value.int .u8) old).toArray, .agg (encs (Value.int .u8) wr).toArray, .int .u8 c] w fun e w' => e = .returned (.agg (encs (Value.int .u8) old).toArray) ∧ Below w.heap.size w w' := by
  have H1 := Aside0.mk h1
  have H2 := Aside0.mk h2
  have e0 : (c % 3 == 0) = false := beq_eq_false_iff_ne.mpr (by omega)
  have e1 : (c % 3 == 1) = true := beq_iff_eq.mpr h0
  clear h1 h2 h0
  go_enter Try.func51, Try.ntmps51
  go_wp2_with (first
    | ((with_reducible refine gate_dst (N := 3) rfl ?_); refine box_event ?hg (N := 3) ?hd (cs := (encs (Value.int .u8) old).toArray) (t := 94) ?hr ?_; (case hd => rfl); (case hg => rfl); (case hr => first | (go_simp; done) | (go_simp; rfl)); intro g3 hg3 w1 hbox1 hb1; have HG3 := Aside0.mk hg3; have HX3 := Aside0.mk hbox1; have HB1 := Aside0.mk hb1; clear hg3 hbox1 hb1)
    | ((with_reducible refine gate_dst (N := 4) rfl ?_); refine box_event ?hg (N := 4) ?hd (cs := (encs (Value.int .u8) wr).toArray) (t := 94) ?hr ?_; (case hd => rfl); (case hg => rfl); (case hr => first | (go_simp; done) | (go_simp; rfl)); intro g4 hg4 w2 hbox2 hb2; have HG4 := Aside0.mk hg4; have HX4 := Aside0.mk hbox2; have HB2 := Aside0.mk hb2; clear hg4 hbox2 hb2)
    | ((with_reducible refine gate_dst (N := 6) rfl ?_); refine box_event ?hg (N := 6) ?hd (cs := z64) (t := 94) ?hr ?_; (case hd => rfl); (case hg => rfl); (case hr => first | (go_simp; done) | (go_simp; rfl)); intro g6 hg6 w3 hbox3 hb3; have HG6 := Aside0.mk hg6; have HX6 := Aside0.mk hbox3; have HB3 := Aside0.mk hb3; clear hg6 hbox3 hb3; have HX4b := Aside0.mk (blk_below HX4.out HB3.out); have HX3b := Aside0.mk (blk_below (blk_below HX3.out HB2.out) HB3.out))
    | (refine wpList_load_mid rfl 94 (.tmp 3) rfl g3 0 rfl (encs (Value.int .u8) old) _ (range_blk HX3b.out) Try.underlying94 rfl (by rw [encs_length, H1.out]; exact info89) ?_)
    | (refine wp_fill rfl 94 (.tmp 6) (.tmp 15) rfl g6 z64 94 (encs (Value.int .u8) old) HX6.out rfl rfl (by rw [encs_length, H1.out]; rfl) info89 (one_u8 old) ?_; intro w4 hx4 hf4; have HX7 := Aside0.mk hx4; have HF4 := Aside0.mk hf4; clear hx4 hf4))
  (try simp only [Exit.inBlock, Exit.then])
  have hb : Below w.heap.size w w3 := below_step (below_step HB1.out HB2.out) HB3.out
  refine bodyPost_ret (results_cell_row rfl _ _ g6 94 _ (0, 0) _ rfl HX7.out Try.underlying94 rfl (by rw [List.size_toArray, encs_length, H1.out]; exact info89)) rfl ⟨rfl, ?_⟩
  exact below_fr hb hb.size HF4.out (fun k hk => by have h1 := HG6.out; have h2 := HB1.out.size; have h3 := HB2.out.size; rw [hk]; omega)
set_option maxHeartbeats 1000000 in
set_option maxRecDepth 100000 in
theorem left_2 (w : World) (old wr : List Int) (c : Int) (h1 : old.length = 64) (h2 : wr.length = 64) (hc : 0 ≤ c ∧ c ≤ 255) (h0 : c % 3 = 2) (n : Nat) (hn : (n : Int) = if 64 < c / 3 then 64 else c / 3) :
    Calls Try.prog 51 #[.agg (encs (Value.int .u8) old).toArray, .agg (encs (Value.int .u8) wr).toArray, .int .u8 c] w fun e w' => e = .returned (.agg (encs (Value.int .u8) (wr.take n ++ old.drop n)).toArray) ∧ Below w.heap.size w w' := by
  have H1 := Aside0.mk h1
  have H2 := Aside0.mk h2
  have HN := Aside0.mk hn
  have e0 : (c % 3 == 0) = false := beq_eq_false_iff_ne.mpr (by omega)
  have e1 : (c % 3 == 1) = false := beq_eq_false_iff_ne.mpr (by omega)
  clear h1 h2 h0 hn
  go_enter Try.func51, Try.ntmps51
  go_upto_region 7 with (first
    | ((with_reducible refine gate_dst (N := 3) rfl ?_); refine box_event ?hg (N := 3) ?hd (cs := (encs (Value.int .u8) old).toArray) (t := 94) ?hr ?_; (case hd => rfl); (case hg => rfl); (case hr => first | (go_simp; done) | (go_simp; rfl)); intro g3 hg3 w1 hbox1 hb1; have HG3 := Aside0.mk hg3; have HX3 := Aside0.mk hbox1; have HB1 := Aside0.mk hb1; clear hg3 hbox1 hb1)
    | ((with_reducible refine gate_dst (N := 4) rfl ?_); refine box_event ?hg (N := 4) ?hd (cs := (encs (Value.int .u8) wr).toArray) (t := 94) ?hr ?_; (case hd => rfl); (case hg => rfl); (case hr => first | (go_simp; done) | (go_simp; rfl)); intro g4 hg4 w2 hbox2 hb2; have HG4 := Aside0.mk hg4; have HX4 := Aside0.mk hbox2; have HB2 := Aside0.mk hb2; clear hg4 hbox2 hb2)
    | ((with_reducible refine gate_dst (N := 6) rfl ?_); refine box_event ?hg (N := 6) ?hd (cs := z64) (t := 94) ?hr ?_; (case hd => rfl); (case hg => rfl); (case hr => first | (go_simp; done) | (go_simp; rfl)); intro g6 hg6 w3 hbox3 hb3; have HG6 := Aside0.mk hg6; have HX6 := Aside0.mk hbox3; have HB3 := Aside0.mk hb3; clear hg6 hbox3 hb3; have HX4b := Aside0.mk (blk_below HX4.out HB3.out); have HX3b := Aside0.mk (blk_below (blk_below HX3.out HB2.out) HB3.out)))
  rw [← HN.out]
  have hn64 : (n : Int) ≤ 64 := by rw [HN.out]; split <;> omega
  have hn64' : n ≤ 64 := by omega
  have HCS : Aside0 ((encs (Value.int .u8) (wr.take n)).length = n) := ⟨by rw [encs_length, List.length_take, H2.out]; omega⟩
  have HSRC : Aside0 (∀ j v, (encs (Value.int .u8) (wr.take n))[j]? = some v → w3.drew.cell? ((⟨g4, 0, none⟩ : Addr).add j) = some v) := ⟨fun j v hv => by
    rw [Addr.add_mid, Nat.zero_add]
    have h_ := range_blk HX4b.out j v (by
      unfold encs at hv ⊢
      rw [List.map_take, List.getElem?_take] at hv
      split at hv
      · exact hv
      · cases hv)
    rw [Nat.zero_add] at h_
    exact h_⟩
  have HTH : Aside0 (w3.drew.there g3 0 (encs (Value.int .u8) (wr.take n)).length) := ⟨by rw [HCS.out]; exact there_blk (W := w3.drew) HX3b.out 0 n (by rw [List.size_toArray, encs_length, H1.out]; omega)⟩
  refine start_ (n := 5) (S := fun w' => True) (ds := [4]) #[false, false, false, false, false] (by kernel_rfl) rfl rfl trivial (fun hHeld => ?_)
  refine pure_ (i := 0) (N := some 20) (v := ?_) (a' := ?_) #[true, false, false, false, false] rfl rfl (by kernel_rfl) (fun _ _ _ h => h) (Or.inl ⟨by rfl, ?_⟩) ?_ ?_
  rotate_left
  · intro w'
    go_simp
    with_reducible rfl
  rotate_left
  · simp only [Act.put, List.setIfInBounds_toArray, List.set_cons_zero, List.set_cons_succ, i64_w, i32_w]
    rfl
  refine pure_ (i := 1) (N := some 21) (v := ?_) (a' := ?_) #[true, true, false, false, false] rfl rfl (by kernel_rfl) (fun _ _ _ h => h) (Or.inl ⟨by rfl, ?_⟩) ?_ ?_
  rotate_left
  · intro w'
    go_simp
    with_reducible rfl
  rotate_left
  · simp only [Act.put, List.setIfInBounds_toArray, List.set_cons_zero, List.set_cons_succ, i64_w, i32_w]
    rfl
  refine pure_ (i := 2) (N := some 22) (v := ?_) (a' := ?_) #[true, true, true, false, false] rfl rfl (by kernel_rfl) (fun _ _ _ h => h) (Or.inl ⟨by rfl, ?_⟩) ?_ ?_
  rotate_left
  · intro w'
    go_simp
    with_reducible rfl
  rotate_left
  · simp only [Act.put, List.setIfInBounds_toArray, List.set_cons_zero, List.set_cons_succ, i64_w, i32_w]
    rfl
  refine pure_ (i := 3) (N := some 23) (v := ?_) (a' := ?_) #[true, true, true, true, false] rfl rfl (by kernel_rfl) (fun _ _ _ h => h) (Or.inl ⟨by rfl, ?_⟩) ?_ ?_
  rotate_left
  · intro w'
    go_simp
    with_reducible rfl
  rotate_left
  · simp only [Act.put, List.setIfInBounds_toArray, List.set_cons_zero, List.set_cons_succ, i64_w, i32_w]
    rfl
  refine last_ (i := 4) (N := some 24) #[true, true, true, true, true] rfl rfl (by kernel_rfl) (by decide) (fun K hK => ?_)
  refine value_ (w1 := w3.drew.setCells g3 0 (encs (Value.int .u8) (wr.take n))) (v := goInt (encs (Value.int .u8) (wr.take n)).length) (by rfl) rfl ?_ ?_
  · exact copy_w 23 23 5 (.tmp 21) (.tmp 23) rfl g3 0 n 64 ⟨g4, 0, none⟩ n 64 (encs (Value.int .u8) (wr.take n)) rfl rfl Try.underlying23 (by kernel_rfl) (by rw [HCS.out]; exact (Nat.min_self n).symm) HSRC.out HTH.out (one_u8 _)
  refine hK.out _ _ ?_
  clear hK K
  refine norm_ (a' := ?_) ?_ ?_
  rotate_left
  · show Act.put _ (some 24) _ = _
    simp only [Act.put, List.setIfInBounds_toArray, List.set_cons_zero, List.set_cons_succ, i64_w, i32_w]
    rfl
  refine done_ (by kernel_rfl) ?_
  obtain ⟨w4, hw4⟩ : ∃ w4, w4 = w3.drew.setCells g3 0 (encs (Value.int .u8) (wr.take n)) := ⟨_, rfl⟩
  rw [← hw4]
  have fr4 : Fr w3 w4 (fun k => k = g3) := by
    rw [hw4]; exact Fr.setCells (F := fun k => k = g3) ((Fr.refl w3 _).drew) (.inl rfl) _ _
  have hg : g3 < g4 ∧ g4 < g6 ∧ w.heap.size ≤ g3 := by
    have h1 := HG3.out; have h2 := HG4.out; have h3 := HG6.out; have h4 := blk_lt HX3.out; have h5 := blk_lt HX4.out
    omega
  have hx3 : w4.heap[g3]? = some (.cells (encs (Value.int .u8) (wr.take n ++ old.drop n)).toArray 94 (0, 0)) := by
    obtain ⟨cur, h1, h2, h3⟩ := setCells_row (encs (Value.int .u8) (wr.take n)) 0 w3.drew (encs (Value.int .u8) old).toArray HX3b.out (by rw [HCS.out, List.size_toArray, encs_length, H1.out]; omega)
    rw [hw4, h1]
    have : cur = (encs (Value.int .u8) (wr.take n ++ old.drop n)).toArray := by
      apply Array.ext'
      rw [h3, HCS.out]
      unfold encs
      simp
    rw [this]
  have hx6 := fr4.blk HX6.out (by omega)
  have HX3c := Aside0.mk hx3
  have HX6c := Aside0.mk hx6
  have FR4 := Aside0.mk fr4
  have HGG := Aside0.mk hg
  have HL : Aside0 ((wr.take n ++ old.drop n).length = 64) := ⟨by rw [List.length_append, List.length_take, List.length_drop, H1.out, H2.out]; omega⟩
  clear hx3 hx6 fr4 hw4 hg
  obtain ⟨res, hres⟩ : ∃ r, r = wr.take n ++ old.drop n := ⟨_, rfl⟩
  rw [← hres] at HX3c HL
  have HRES := Aside0.mk hres
  clear hres
  go_wp2_with (first
    | (refine wpList_load_mid rfl 94 (.tmp 3) rfl g3 0 rfl (encs (Value.int .u8) res) _ (range_blk HX3c.out) Try.underlying94 rfl (by rw [encs_length, HL.out]; exact info89) ?_)
    | (refine wp_fill rfl 94 (.tmp 6) (.tmp 25) rfl g6 z64 94 (encs (Value.int .u8) res) HX6c.out rfl rfl (by rw [encs_length, HL.out]; rfl) info89 (one_u8 res) ?_; intro w5 hx5 hf5; have HX7 := Aside0.mk hx5; have HF5 := Aside0.mk hf5; clear hx5 hf5))
  (try simp only [Exit.inBlock, Exit.then])
  have hb : Below w.heap.size w w3 := below_step (below_step HB1.out HB2.out) HB3.out
  refine bodyPost_ret (results_cell_row rfl _ _ g6 94 _ (0, 0) _ rfl HX7.out Try.underlying94 rfl (by rw [List.size_toArray, encs_length, HL.out]; exact info89)) rfl ⟨by rw [← HRES.out], ?_⟩
  have hg := HGG.out
  have b4 := below_fr hb hb.size FR4.out (fun k hk => by rw [hk]; omega)
  exact below_fr b4 b4.size HF5.out (fun k hk => by rw [hk]; omega)
theorem left_calls (w : World) (old wr : List Int) (c : Int) (h1 : old.length = 64) (h2 : wr.length = 64) (hc : 0 ≤ c ∧ c ≤ 255) :
    Calls Try.prog 51 #[.agg (encs (Value.int .u8) old).toArray, .agg (encs (Value.int .u8) wr).toArray, .int .u8 c] w fun e w' => e = .returned (.agg (encs (Value.int .u8) (leftM old wr c)).toArray) ∧ Below w.heap.size w w' := by
  by_cases e0 : c % 3 = 0
  · rw [show leftM old wr c = wr from by unfold leftM; rw [if_pos e0]]
    exact left_0 w old wr c h1 h2 hc e0
  · by_cases e1 : c % 3 = 1
    · rw [show leftM old wr c = old from by unfold leftM; rw [if_neg e0, if_pos e1]]
      exact left_1 w old wr c h1 h2 hc e1
    · rw [show leftM old wr c = wr.take (min (c / 3) 64).toNat ++ old.drop (min (c / 3) 64).toNat from by unfold leftM; rw [if_neg e0, if_neg e1]]
      exact left_2 w old wr c h1 h2 hc (by omega) (min (c / 3) 64).toNat (by split <;> omega)
theorem range_below {w w' : World} {g o : Nat} {cs : List Value} (h : w.rangeAt g o cs) (hb : Below w.heap.size w w') : w'.rangeAt g o cs := fun j v hv => pw_cell_below hb (h j v hv)
/-- What is certain, with the first j writes laid over it as the choice says. -/
def crashTo (s : List (List Int)) (l : List (Int × List Int)) (ch : List Int) : Nat → List (List Int)
  | 0 => s
  | j + 1 => (crashTo s l ch j).set (l.getD j zP).1.toNat (leftM ((crashTo s l ch j).getD (l.getD j zP).1.toNat zB) (l.getD j zP).2 (ch.getD j 0))
theorem crashTo_len (s : List (List Int)) (l : List (Int × List Int)) (ch : List Int) (j : Nat) : (crashTo s l ch j).length = s.length := by
  induction j with
  | zero => rfl
  | succ j ih => show (List.set _ _ _).length = _; rw [List.length_set, ih]
theorem row_set {w : World} {base gs n cs : Nat} {xs : List (List Int)} (h : Kd.R kB 94 w base (fun _ => True) (.slice (some ⟨gs, 0, none⟩) n cs) xs) (q : Nat) (hq : q < n) (b : List Int) (hb : b.length = 64) :
    Kd.R kB 94 (w.setCells gs (q * 64) (encs (Value.int .u8) b)) base (fun _ => True) (.slice (some ⟨gs, 0, none⟩) n cs) (xs.set q b) := by
  obtain ⟨ce, hcl, hM, hcc, _⟩ := Kd.R_elem h zB q (by omega) (by omega)
  have h_ := (Kd.R_seg (okp := fun k => True ∧ k ≠ gs) h (q : Int) (by omega) (by omega) hcl hcc (j := 0) (seg := encs (Value.int .u8) b) (by rw [encs_length, hb]; exact Nat.le_refl 64) (x' := b) (by
    rw [List.take_zero, List.nil_append, List.drop_of_length_le (by rw [hcl, encs_length, hb]; exact Nat.le_refl 64), List.append_nil]
    exact Kd.arr_of_cells hb) (fun _ hk => hk)).1
  have e1 : (q : Int).toNat * kB.sz + 0 = q * 64 := by rw [Int.toNat_natCast]; rfl
  rw [e1, Int.toNat_natCast] at h_
  exact h_
/-- A disk of its own. -/
def crashed (m : DM) (ch : List Int) : DM := ⟨crashTo m.sure m.since ch m.since.length, crashTo m.sure m.since ch m.since.length, [], [], 0⟩

set_option maxHeartbeats 2000000 in
set_option maxRecDepth 100000 in
theorem Crash_calls (w : World) (base g : Nat) (v0 v1 v2 v3 : Value) (m : DM) (h : DV w base g v0 v1 v2 v3 m) (hs : m.since.length ≤ 1000000) (A : Option Addr) (c : Nat) (l : List Int) (hC : Kd.C (Kd.int .u8) w A l.length l) (hc : l.length ≤ c) (hby : ∀ x ∈ l, 0 ≤ x ∧ x ≤ 255) :
    Calls Try.prog 25 #[.pointer (some ⟨g, 0, none⟩), .slice A l.length c] w fun e w' => ∃ g' v0' v1', e = .returned (.pointer (some ⟨g', 0, none⟩)) ∧ DV w' w.heap.size g' v0' v1' (.slice none 0 0) (.slice none 0 0) (crashed m l) ∧ Below w.heap.size w w' := by
  have H := Aside0.mk h
  have hn0 : ((m.now.length : Int) == 0) = false := beq_eq_false_iff_ne.mpr (by have := h.n1; omega)
  obtain ⟨A0, c0, hv0⟩ := Kd.R_slice h.sure
  have hl := h.len
  rw [hl] at hv0
  subst hv0
  obtain ⟨A2, c2, hv2⟩ := Kd.R_slice h.since
  subst hv2
  have k0 : w.cell? ⟨g, 0, none⟩ = some (.slice A0 m.now.length c0) := blk_cell h.blk 0
  have HSL := Aside0.mk hs
  have HC := Aside0.mk hC
  have HBY := Aside0.mk hby
  have HNN := Aside0.mk (And.intro h.n1 h.n2)
  have HLE := Aside0.mk hl
  have HSR : Aside0 (Kd.R kB 94 w base (fun _ => True) (.slice A0 m.now.length c0) m.sure) := ⟨h.sure⟩
  clear h hs hC hby hl
  go_enter Try.func25, Try.ntmps25
  go_upto_region 4 with (first
    | (go_at_call 37; refine (Size_calls _ _ _ _ _ _ _ m H.out).mono ?_; rintro e w1 ⟨rfl, rfl⟩)
    | ((with_reducible refine gate_builtin (b := .append) (xs := #[.const (.slice none 0 0), .tmp 15]) rfl ?_); at_builtin; refine Kd.R_append_rows kB (Rr := kB.K w) (w0 := w) w.heap.size rfl (.const (.slice none 0 0)) (.tmp 15) 90 94 zBv 64 rfl Try.underlying90 info89z rfl (by decide) (by decide) (.slice none 0 0) [] m.sure A0 m.now.length c0 (fun _ => True) (fun _ => False) rfl rfl (Kd.R_nil _ _ _ _ _) (by have h_ := (Kd.R_reads' HSR.out).2.2; rw [HLE.out] at h_; exact h_) (fun x cs hK => kB_M hK) (fun _ hk => hk.elim) (fun _ _ => trivial) (Below.refl _ _) (Nat.le_refl _) (by have := HNN.out.2; simp; omega) ?_; intro v5 w1 ho hb1 hg1 hat1; rw [List.nil_append] at ho; have HO := Aside0.mk ho; have HB1 := Aside0.mk hb1; clear ho hb1 hg1 hat1 k0))
  obtain ⟨go5, co5, hv5, gb', gl, cl, HG⟩ := Kd.R_form HO.out (by have := HNN.out.1; have := HLE.out; omega)
  rw [HLE.out] at hv5
  subst hv5
  clear gb' gl HG
  have H1 : Aside0 (DV w1 base g (.slice A0 m.now.length c0) v1 (.slice A2 m.since.length c2) v3 m) := ⟨H.out.below HB1.out⟩
  have k2 : w1.cell? ⟨g, 2, none⟩ = some (.slice A2 m.since.length c2) := blk_cell H1.out.blk 2
  go_wp2_with fail
  clear k2
  go_loopg [22] m.since.length (fun r v22 wr => ∃ (j : Nat), v22 = .int .i64 j ∧ Aside0 (r + j = m.since.length) ∧ Aside0 (Kd.R kB 94 wr w.heap.size (fun _ => True) (.slice (some ⟨go5, 0, none⟩) m.now.length co5) (crashTo m.sure m.since l j) ∧ Below w.heap.size w wr))
  case atStart => exact ⟨0, rfl, ⟨by omega⟩, ⟨HO.out, HB1.out⟩⟩
  case round =>
    obtain ⟨j, rfl, hq, hat⟩ := hrel
    by_cases hj : j < m.since.length
    · have hj1 : decide ((j : Int) < (m.since.length : Int)) = true := decide_eq_true (by omega)
      have dd := H.out.below hat.out.2
      obtain ⟨go2, co2, hv2, gb', gl, cl2, HG⟩ := Kd.R_form dd.since (by omega)
      injection hv2 with hA2 hA3 hA4
      subst hA2
      subst hA4
      clear hA3
      obtain ⟨p1, p2⟩ := write_at dd.since j hj
      have hmem : m.since.getD j zP ∈ m.since := by rw [List.getD_eq_getElem?_getD, List.getElem?_eq_getElem hj]; exact List.getElem_mem hj
      have hpq := dd.at_ _ hmem
      have hsn : crashTo m.sure m.since l (j + 1) = (crashTo m.sure m.since l j).set (m.since.getD j zP).1.toNat (leftM ((crashTo m.sure m.since l j).getD (m.since.getD j zP).1.toNat zB) (m.since.getD j zP).2 (l.getD j 0)) := rfl
      generalize (m.since.getD j zP) = pb at *
      obtain ⟨p, b⟩ := pb
      simp only at p1 p2 hpq hsn
      obtain ⟨q, rfl⟩ := Int.eq_ofNat_of_zero_le hpq.1
      have hqn : q < m.now.length := by omega
      have hq1 : (q : Int) < (m.now.length : Int) := hpq.2
      rw [Int.toNat_natCast] at hsn
      obtain ⟨s1, s2, s3⟩ := sector_at hat.out.1 q hqn
      obtain ⟨old, hold⟩ : ∃ old, old = (crashTo m.sure m.since l j).getD q zB := ⟨_, rfl⟩
      obtain ⟨cc, hcc⟩ : ∃ cc, cc = l.getD j 0 := ⟨_, rfl⟩
      rw [← hold] at s1 s2 hsn
      rw [← hcc] at hsn
      have HLO := Aside0.mk s1
      have HS2 := Aside0.mk s2
      have HLN := Aside0.mk p1
      have HP2 := Aside0.mk p2
      have HSN := Aside0.mk hsn
      have HCC := Aside0.mk hcc
      have HCR : Aside0 (0 ≤ cc ∧ cc ≤ 255) := ⟨by
        rw [hcc, List.getD_eq_getElem?_getD]
        cases hx : l[j]? with
        | none => simp
        | some x => exact HBY.out x (List.mem_of_getElem? hx)⟩
      have hcl : (Value.int .i64 (q : Int) :: encs (Value.int .u8) b).length = 65 := by rw [List.length_cons, encs_length, p1]
      have HCL := Aside0.mk hcl
      clear p1 p2 hsn hcl hmem gb' gl HG dd s1 s2 s3 hold hcc
      by_cases hjl : j < l.length
      · have hjl1 : (j : Int) < (l.length : Int) := by omega
        obtain ⟨ad, hA, hx⟩ := (Kd.reads_of_C (d := (0 : Int)) HC.out).at_ j (by omega) (by omega)
        subst hA
        have hrd : rdOf 0 l (j : Int) = cc := by rw [HCC.out]; unfold rdOf; rw [Int.toNat_natCast]
        rw [hrd, Int.toNat_natCast] at hx
        have HXC := Aside0.mk hx
        clear hrd hx
        go_upto_region 10 with (first
          | (refine wpList_load_mid rfl 96 (.tmp 25) rfl go2 (j * 65) ?_ (Value.int .i64 (q : Int) :: encs (Value.int .u8) b) _ HP2.out Try.underlying96 rfl (by rw [HCL.out]; exact info91) ?_; (focus (go_simp; done)))
          | ((with_reducible refine gate_dst (N := 7) rfl ?_); refine box_event ?hg (N := 7) ?hd (cs := Try.zeroCells96) (t := 96) ?hr ?_; (case hd => rfl); (case hg => rfl); (case hr => first | (go_simp; done) | (go_simp; rfl)); intro g7 hg7 w2 hbox hb; have HG7 := Aside0.mk hg7; have HX2 := Aside0.mk hbox; have HB2 := Aside0.mk hb; clear hg7 hbox hb)
          | (refine wp_fill rfl 96 (.tmp 7) (.tmp 26) rfl g7 Try.zeroCells96 96 (Value.int .i64 (q : Int) :: encs (Value.int .u8) b) HX2.out rfl rfl HCL.out info91 (one_w _ b) ?_; intro w3 hx3 hf3; have HX3 := Aside0.mk hx3; have HF3 := Aside0.mk hf3; clear hx3 hf3; have HB3 : Aside0 (Below w.heap.size w w3) := ⟨below_fr (below_step hat.out.2 HB2.out) (below_step hat.out.2 HB2.out).size HF3.out (fun k hk => by rw [hk, HG7.out]; exact hat.out.2.size)⟩; have hxc := pw_cell_below HB3.out HXC.out))
        clear hxc
        have fr3 : Fr wr w3 (fun k => k = g7) := (Fr.of_below HB2.out (fun k => k = g7)).trans HF3.out (fun k hk => .inl hk)
        have hn7 : wr.heap.size ≤ g7 := by rw [HG7.out]; exact Nat.le_refl _
        have HR3 : Aside0 (Kd.R kB 94 w3 w.heap.size (fun _ => True) (.slice (some ⟨go5, 0, none⟩) m.now.length co5) (crashTo m.sure m.since l j)) := ⟨R_fr hat.out.1 rfl fr3 (fun k hk he => by have := R_lt' hat.out.1 hk; omega)⟩
        have HRO : Aside0 (w3.rangeAt go5 (q * 64) (encs (Value.int .u8) old)) := ⟨range_fr HS2.out fr3 (fun he => by have := R_lt' hat.out.1 (k := go5) rfl; omega)⟩
        have k7 : w3.cell? ⟨g7, 0, none⟩ = some (.int .i64 (q : Int)) := by rw [blk_cell HX3.out 0]; simp
        have HR7 : Aside0 (w3.rangeAt g7 1 (encs (Value.int .u8) b)) := ⟨range_part HX3.out⟩
        clear fr3 hn7
        refine start_ (n := 14) (S := fun w' => w'.cell? ⟨g7, 0, none⟩ = some (.int .i64 (q : Int)) ∧ w'.rangeAt g7 1 (encs (Value.int .u8) b) ∧ w'.rangeAt go5 (q * 64) (encs (Value.int .u8) old)) (ds := [13]) #[false, false, false, false, false, false, false, false, false, false, false, false, false, false] (by kernel_rfl) rfl rfl ⟨k7, HR7.out, HRO.out⟩ (fun hHeld => ?_)
        refine pure_ (i := 0) (N := some 35) (v := ?_) (a' := ?_) #[true, false, false, false, false, false, false, false, false, false, false, false, false, false] rfl rfl (by kernel_rfl) (fun _ _ _ h => h) (Or.inl ⟨by rfl, ?_⟩) ?_ ?_
        rotate_left
        · intro w'
          go_simp
          with_reducible rfl
        rotate_left
        · simp only [Act.put, List.setIfInBounds_toArray, List.set_cons_zero, List.set_cons_succ, i64_w, i32_w]
          rfl
        refine pure_ (i := 1) (N := some 36) (v := ?_) (a' := ?_) #[true, true, false, false, false, false, false, false, false, false, false, false, false, false] rfl rfl (by kernel_rfl) (fun _ _ _ h => h) (Or.inl ⟨by rfl, ?_⟩) ?_ ?_
        rotate_left
        · intro w'
          go_simp
          with_reducible rfl
        rotate_left
        · simp only [Act.put, List.setIfInBounds_toArray, List.set_cons_zero, List.set_cons_succ, i64_w, i32_w]
          rfl
        refine pure_ (i := 3) (N := some 38) (v := ?_) (a' := ?_) #[true, true, false, true, false, false, false, false, false, false, false, false, false, false] rfl rfl (by kernel_rfl) (fun _ _ _ h => h) (Or.inl ⟨by rfl, ?_⟩) ?_ ?_
        rotate_left
        · intro w'
          go_simp
          with_reducible rfl
        rotate_left
        · simp only [Act.put, List.setIfInBounds_toArray, List.set_cons_zero, List.set_cons_succ, i64_w, i32_w]
          rfl
        refine pure_ (i := 4) (N := some 39) (v := ?_) (a' := ?_) #[true, true, false, true, true, false, false, false, false, false, false, false, false, false] rfl rfl (by kernel_rfl) (fun _ _ _ h => h) (Or.inl ⟨by rfl, ?_⟩) ?_ ?_
        rotate_left
        · intro w'
          go_simp
          with_reducible rfl
        rotate_left
        · simp only [Act.put, List.setIfInBounds_toArray, List.set_cons_zero, List.set_cons_succ, i64_w, i32_w]
          rfl
        refine pure_ (i := 8) (N := some 43) (v := ?_) (a' := ?_) #[true, true, false, true, true, false, false, false, true, false, false, false, false, false] rfl rfl (by kernel_rfl) (fun _ _ _ h => h) (Or.inl ⟨by rfl, ?_⟩) ?_ ?_
        rotate_left
        · intro w'
          go_simp
          with_reducible rfl
        rotate_left
        · simp only [Act.put, List.setIfInBounds_toArray, List.set_cons_zero, List.set_cons_succ, i64_w, i32_w]
          rfl
        refine pure_ (i := 10) (N := some 45) (v := ?_) (a' := ?_) #[true, true, false, true, true, false, false, false, true, false, true, false, false, false] rfl rfl (by kernel_rfl) (fun _ _ _ h => h) (Or.inl ⟨by rfl, ?_⟩) ?_ ?_
        rotate_left
        · intro w'
          go_simp
          with_reducible rfl
        rotate_left
        · simp only [Act.put, List.setIfInBounds_toArray, List.set_cons_zero, List.set_cons_succ, i64_w, i32_w]
          rfl
        refine take_ (i := 2) (N := some 37) (v := ?_) (a' := ?_) #[true, true, true, true, true, false, false, false, true, false, true, false, false, false] rfl rfl (by kernel_rfl) (fun _ _ _ h => h) (Or.inl ⟨by rfl, ?_⟩) hHeld ?_ ?_
        rotate_left
        · rintro w' ⟨s0, s1, s2⟩
          go_simp
          with_reducible rfl
        rotate_left
        · simp only [Act.put, List.setIfInBounds_toArray, List.set_cons_zero, List.set_cons_succ, i64_w, i32_w]
          rfl
        refine take_ (i := 5) (N := some 40) (v := ?_) (a' := ?_) #[true, true, true, true, true, true, false, false, true, false, true, false, false, false] rfl rfl (by kernel_rfl) (fun _ _ _ h => h) (Or.inl ⟨by rfl, ?_⟩) hHeld ?_ ?_
        rotate_left
        · rintro w' ⟨s0, s1, s2⟩
          go_simp
          with_reducible rfl
        rotate_left
        · simp only [Act.put, List.setIfInBounds_toArray, List.set_cons_zero, List.set_cons_succ, i64_w, i32_w]
          rfl
        refine pure_ (i := 6) (N := some 41) (v := ?_) (a' := ?_) #[true, true, true, true, true, true, true, false, true, false, true, false, false, false] rfl rfl (by kernel_rfl) (fun _ _ _ h => h) (Or.inl ⟨by rfl, ?_⟩) ?_ ?_
        rotate_left
        · intro w'
          go_simp
          with_reducible rfl
        rotate_left
        · simp only [Act.put, List.setIfInBounds_toArray, List.set_cons_zero, List.set_cons_succ, i64_w, i32_w]
          rfl
        refine take_ (i := 7) (N := some 42) (v := (.agg (encs (Value.int .u8) old).toArray)) (a' := ?aa_2) #[true, true, true, true, true, true, true, true, true, false, true, false, false, false] rfl rfl (by kernel_rfl) (fun _ _ _ h => h) ?hy_2 hHeld ?ha_2 ?h_2
        case hy_2 => exact yieldsIf_load_mid (by rfl) 94 (.tmp 41) rfl go5 (q * 64) rfl (encs (Value.int .u8) old) _ (fun w' s => s.2.2) Try.underlying94 rfl (by rw [encs_length, HLO.out]; exact info89)
        case ha_2 => simp only [Act.put, List.setIfInBounds_toArray, List.set_cons_zero, List.set_cons_succ, i64_w, i32_w]; rfl
        refine take_ (i := 9) (N := some 44) (v := (.agg (encs (Value.int .u8) b).toArray)) (a' := ?aa_1) #[true, true, true, true, true, true, true, true, true, true, true, false, false, false] rfl rfl (by kernel_rfl) (fun _ _ _ h => h) ?hy_1 hHeld ?ha_1 ?h_1
        case hy_1 => exact yieldsIf_load_mid (by rfl) 94 (.tmp 43) rfl g7 1 rfl (encs (Value.int .u8) b) _ (fun w' s => s.2.1) Try.underlying94 rfl (by rw [encs_length, HLN.out]; exact info89)
        case ha_1 => simp only [Act.put, List.setIfInBounds_toArray, List.set_cons_zero, List.set_cons_succ, i64_w, i32_w]; rfl
        refine one_ (i := 11) (N := some 46) #[true, true, true, true, true, true, true, true, true, true, true, true, false, false] rfl rfl (by kernel_rfl) (by decide) (fun K hK => ?_)
        refine goes_ Try.func51 (by kernel_rfl) rfl #[.agg (encs (Value.int .u8) old).toArray, .agg (encs (Value.int .u8) b).toArray, .int .u8 cc] (by rfl) rfl rfl (by simp only [List.map_toArray, List.map_cons, List.map_nil]; rfl) ?_
        with_reducible refine (left_calls _ old b cc HLO.out HLN.out HCR.out).mono ?_
        rintro e w5 ⟨rfl, hb5⟩
        refine ⟨_, rfl, ?_⟩
        have HB5 := Aside0.mk hb5
        clear hb5
        refine hK.out _ _ ⟨(pw_cell_below HB5.out k7), (range_below (w := w3.drew) HR7.out HB5.out), (range_below (w := w3.drew) HRO.out HB5.out)⟩ (fun hHeld => ?_)
        clear hK K
        refine norm_ (a' := ?_) ?_ ?_
        rotate_left
        · show Act.put _ (some 46) _ = _
          simp only [Act.put, List.setIfInBounds_toArray, List.set_cons_zero, List.set_cons_succ, i64_w, i32_w]
          rfl
        refine pure_ (i := 12) (N := some 47) (v := ?_) (a' := ?_) #[true, true, true, true, true, true, true, true, true, true, true, true, true, false] rfl rfl (by kernel_rfl) (fun _ _ _ h => h) (Or.inl ⟨by rfl, ?_⟩) ?_ ?_
        rotate_left
        · intro w'
          go_simp
          with_reducible rfl
        rotate_left
        · simp only [Act.put, List.setIfInBounds_toArray, List.set_cons_zero, List.set_cons_succ, i64_w, i32_w]
          rfl
        refine last_ (i := 13) (N := none) #[true, true, true, true, true, true, true, true, true, true, true, true, true, true] rfl rfl (by kernel_rfl) (by decide) (fun K hK => ?_)
        have HT5 : Aside0 (w5.there go5 (q * 64) (encs (Value.int .u8) (leftM old b cc)).toArray.size) := ⟨by rw [List.size_toArray, encs_length, leftM_len HLO.out HLN.out]; exact (sector_at (Kd.R_below (w := w3.drew) HR3.out HB5.out) q hqn).2.2⟩
        refine skip_ (w1 := w5.setCells go5 (q * 64) (encs (Value.int .u8) (leftM old b cc))) (by rfl) rfl ?_ ?_
        · exact run_store_mid 94 (.tmp 47) (.tmp 46) rfl go5 (q * 64) (encs (Value.int .u8) (leftM old b cc)).toArray (by go_simp) rfl HT5.out (by rw [List.size_toArray, encs_length, leftM_len HLO.out HLN.out]; exact info89) (all_oneCell_toArray (one_u8 _))
        refine hK.out _ _ ?_
        clear hK K
        refine done_ (by kernel_rfl) ?_
        obtain ⟨w6, hw6⟩ : ∃ w6, w6 = w5.setCells go5 (q * 64) (encs (Value.int .u8) (leftM old b cc)) := ⟨_, rfl⟩
        rw [← hw6]
        have fr6 : Fr w5 w6 (fun k => k = go5) := by rw [hw6]; exact Fr.setCells (F := fun k => k = go5) (Fr.refl w5 _) (.inl rfl) _ _
        have hr5 : Kd.R kB 94 w5 w.heap.size (fun _ => True) (.slice (some ⟨go5, 0, none⟩) m.now.length co5) (crashTo m.sure m.since l j) := Kd.R_below (w := w3.drew) HR3.out HB5.out
        have hr6 : Kd.R kB 94 w6 w.heap.size (fun _ => True) (.slice (some ⟨go5, 0, none⟩) m.now.length co5) (crashTo m.sure m.since l (j + 1)) := by
          rw [HSN.out, hw6]
          exact row_set hr5 q hqn (leftM old b cc) (leftM_len HLO.out HLN.out _)
        have hb6 : Below w.heap.size w w6 := by
          have h1 : Below w.heap.size w w3.drew := HB3.out.drew
          have h2 := below_step h1 HB5.out
          exact below_fr h2 h2.size fr6 (fun k hk => by rw [hk]; exact R_ge hr5 rfl)
        have D6 := Aside0.mk (And.intro hr6 hb6)
        clear hr5 hr6 hb6 fr6 hw6 k7 hHeld
        go_wp2_with fail
        go_roundg (m.since.length - (j + 1))
        case measure => have := hq.out; omega
        case rel => exact ⟨j + 1, by have := HSL.out; rw [show wrap64 ((j : Int) + 1) = ((j + 1 : Nat) : Int) from by unfold wrap64; omega], ⟨by omega⟩, D6⟩
      · have hjl1 : ¬ ((j : Int) < (l.length : Int)) := by omega
        have hc0 : cc = 0 := by rw [HCC.out, List.getD_eq_getElem?_getD, List.getElem?_eq_none (by omega)]; rfl
        subst hc0
        go_upto_region 10 with (first
          | (refine wpList_load_mid rfl 96 (.tmp 25) rfl go2 (j * 65) ?_ (Value.int .i64 (q : Int) :: encs (Value.int .u8) b) _ HP2.out Try.underlying96 rfl (by rw [HCL.out]; exact info91) ?_; (focus (go_simp; done)))
          | ((with_reducible refine gate_dst (N := 7) rfl ?_); refine box_event ?hg (N := 7) ?hd (cs := Try.zeroCells96) (t := 96) ?hr ?_; (case hd => rfl); (case hg => rfl); (case hr => first | (go_simp; done) | (go_simp; rfl)); intro g7 hg7 w2 hbox hb; have HG7 := Aside0.mk hg7; have HX2 := Aside0.mk hbox; have HB2 := Aside0.mk hb; clear hg7 hbox hb)
          | (refine wp_fill rfl 96 (.tmp 7) (.tmp 26) rfl g7 Try.zeroCells96 96 (Value.int .i64 (q : Int) :: encs (Value.int .u8) b) HX2.out rfl rfl HCL.out info91 (one_w _ b) ?_; intro w3 hx3 hf3; have HX3 := Aside0.mk hx3; have HF3 := Aside0.mk hf3; clear hx3 hf3; have HB3 : Aside0 (Below w.heap.size w w3) := ⟨below_fr (below_step hat.out.2 HB2.out) (below_step hat.out.2 HB2.out).size HF3.out (fun k hk => by rw [hk, HG7.out]; exact hat.out.2.size)⟩))
        have fr3 : Fr wr w3 (fun k => k = g7) := (Fr.of_below HB2.out (fun k => k = g7)).trans HF3.out (fun k hk => .inl hk)
        have hn7 : wr.heap.size ≤ g7 := by rw [HG7.out]; exact Nat.le_refl _
        have HR3 : Aside0 (Kd.R kB 94 w3 w.heap.size (fun _ => True) (.slice (some ⟨go5, 0, none⟩) m.now.length co5) (crashTo m.sure m.since l j)) := ⟨R_fr hat.out.1 rfl fr3 (fun k hk he => by have := R_lt' hat.out.1 hk; omega)⟩
        have HRO : Aside0 (w3.rangeAt go5 (q * 64) (encs (Value.int .u8) old)) := ⟨range_fr HS2.out fr3 (fun he => by have := R_lt' hat.out.1 (k := go5) rfl; omega)⟩
        have k7 : w3.cell? ⟨g7, 0, none⟩ = some (.int .i64 (q : Int)) := by rw [blk_cell HX3.out 0]; simp
        have HR7 : Aside0 (w3.rangeAt g7 1 (encs (Value.int .u8) b)) := ⟨range_part HX3.out⟩
        clear fr3 hn7
        refine start_ (n := 14) (S := fun w' => w'.cell? ⟨g7, 0, none⟩ = some (.int .i64 (q : Int)) ∧ w'.rangeAt g7 1 (encs (Value.int .u8) b) ∧ w'.rangeAt go5 (q * 64) (encs (Value.int .u8) old)) (ds := [13]) #[false, false, false, false, false, false, false, false, false, false, false, false, false, false] (by kernel_rfl) rfl rfl ⟨k7, HR7.out, HRO.out⟩ (fun hHeld => ?_)
        refine pure_ (i := 0) (N := some 35) (v := ?_) (a' := ?_) #[true, false, false, false, false, false, false, false, false, false, false, false, false, false] rfl rfl (by kernel_rfl) (fun _ _ _ h => h) (Or.inl ⟨by rfl, ?_⟩) ?_ ?_
        rotate_left
        · intro w'
          go_simp
          with_reducible rfl
        rotate_left
        · simp only [Act.put, List.setIfInBounds_toArray, List.set_cons_zero, List.set_cons_succ, i64_w, i32_w]
          rfl
        refine pure_ (i := 1) (N := some 36) (v := ?_) (a' := ?_) #[true, true, false, false, false, false, false, false, false, false, false, false, false, false] rfl rfl (by kernel_rfl) (fun _ _ _ h => h) (Or.inl ⟨by rfl, ?_⟩) ?_ ?_
        rotate_left
        · intro w'
          go_simp
          with_reducible rfl
        rotate_left
        · simp only [Act.put, List.setIfInBounds_toArray, List.set_cons_zero, List.set_cons_succ, i64_w, i32_w]
          rfl
        refine pure_ (i := 3) (N := some 38) (v := ?_) (a' := ?_) #[true, true, false, true, false, false, false, false, false, false, false, false, false, false] rfl rfl (by kernel_rfl) (fun _ _ _ h => h) (Or.inl ⟨by rfl, ?_⟩) ?_ ?_
        rotate_left
        · intro w'
          go_simp
          with_reducible rfl
        rotate_left
        · simp only [Act.put, List.setIfInBounds_toArray, List.set_cons_zero, List.set_cons_succ, i64_w, i32_w]
          rfl
        refine pure_ (i := 4) (N := some 39) (v := ?_) (a' := ?_) #[true, true, false, true, true, false, false, false, false, false, false, false, false, false] rfl rfl (by kernel_rfl) (fun _ _ _ h => h) (Or.inl ⟨by rfl, ?_⟩) ?_ ?_
        rotate_left
        · intro w'
          go_simp
          with_reducible rfl
        rotate_left
        · simp only [Act.put, List.setIfInBounds_toArray, List.set_cons_zero, List.set_cons_succ, i64_w, i32_w]
          rfl
        refine pure_ (i := 8) (N := some 43) (v := ?_) (a' := ?_) #[true, true, false, true, true, false, false, false, true, false, false, false, false, false] rfl rfl (by kernel_rfl) (fun _ _ _ h => h) (Or.inl ⟨by rfl, ?_⟩) ?_ ?_
        rotate_left
        · intro w'
          go_simp
          with_reducible rfl
        rotate_left
        · simp only [Act.put, List.setIfInBounds_toArray, List.set_cons_zero, List.set_cons_succ, i64_w, i32_w]
          rfl
        refine pure_ (i := 10) (N := some 45) (v := ?_) (a' := ?_) #[true, true, false, true, true, false, false, false, true, false, true, false, false, false] rfl rfl (by kernel_rfl) (fun _ _ _ h => h) (Or.inl ⟨by rfl, ?_⟩) ?_ ?_
        rotate_left
        · intro w'
          go_simp
          with_reducible rfl
        rotate_left
        · simp only [Act.put, List.setIfInBounds_toArray, List.set_cons_zero, List.set_cons_succ, i64_w, i32_w]
          rfl
        refine take_ (i := 2) (N := some 37) (v := ?_) (a' := ?_) #[true, true, true, true, true, false, false, false, true, false, true, false, false, false] rfl rfl (by kernel_rfl) (fun _ _ _ h => h) (Or.inl ⟨by rfl, ?_⟩) hHeld ?_ ?_
        rotate_left
        · rintro w' ⟨s0, s1, s2⟩
          go_simp
          with_reducible rfl
        rotate_left
        · simp only [Act.put, List.setIfInBounds_toArray, List.set_cons_zero, List.set_cons_succ, i64_w, i32_w]
          rfl
        refine take_ (i := 5) (N := some 40) (v := ?_) (a' := ?_) #[true, true, true, true, true, true, false, false, true, false, true, false, false, false] rfl rfl (by kernel_rfl) (fun _ _ _ h => h) (Or.inl ⟨by rfl, ?_⟩) hHeld ?_ ?_
        rotate_left
        · rintro w' ⟨s0, s1, s2⟩
          go_simp
          with_reducible rfl
        rotate_left
        · simp only [Act.put, List.setIfInBounds_toArray, List.set_cons_zero, List.set_cons_succ, i64_w, i32_w]
          rfl
        refine pure_ (i := 6) (N := some 41) (v := ?_) (a' := ?_) #[true, true, true, true, true, true, true, false, true, false, true, false, false, false] rfl rfl (by kernel_rfl) (fun _ _ _ h => h) (Or.inl ⟨by rfl, ?_⟩) ?_ ?_
        rotate_left
        · intro w'
          go_simp
          with_reducible rfl
        rotate_left
        · simp only [Act.put, List.setIfInBounds_toArray, List.set_cons_zero, List.set_cons_succ, i64_w, i32_w]
          rfl
        refine take_ (i := 7) (N := some 42) (v := (.agg (encs (Value.int .u8) old).toArray)) (a' := ?aa_4) #[true, true, true, true, true, true, true, true, true, false, true, false, false, false] rfl rfl (by kernel_rfl) (fun _ _ _ h => h) ?hy_4 hHeld ?ha_4 ?h_4
        case hy_4 => exact yieldsIf_load_mid (by rfl) 94 (.tmp 41) rfl go5 (q * 64) rfl (encs (Value.int .u8) old) _ (fun w' s => s.2.2) Try.underlying94 rfl (by rw [encs_length, HLO.out]; exact info89)
        case ha_4 => simp only [Act.put, List.setIfInBounds_toArray, List.set_cons_zero, List.set_cons_succ, i64_w, i32_w]; rfl
        refine take_ (i := 9) (N := some 44) (v := (.agg (encs (Value.int .u8) b).toArray)) (a' := ?aa_3) #[true, true, true, true, true, true, true, true, true, true, true, false, false, false] rfl rfl (by kernel_rfl) (fun _ _ _ h => h) ?hy_3 hHeld ?ha_3 ?h_3
        case hy_3 => exact yieldsIf_load_mid (by rfl) 94 (.tmp 43) rfl g7 1 rfl (encs (Value.int .u8) b) _ (fun w' s => s.2.1) Try.underlying94 rfl (by rw [encs_length, HLN.out]; exact info89)
        case ha_3 => simp only [Act.put, List.setIfInBounds_toArray, List.set_cons_zero, List.set_cons_succ, i64_w, i32_w]; rfl
        refine one_ (i := 11) (N := some 46) #[true, true, true, true, true, true, true, true, true, true, true, true, false, false] rfl rfl (by kernel_rfl) (by decide) (fun K hK => ?_)
        refine goes_ Try.func51 (by kernel_rfl) rfl #[.agg (encs (Value.int .u8) old).toArray, .agg (encs (Value.int .u8) b).toArray, .int .u8 (0 : Int)] (by rfl) rfl rfl (by simp only [List.map_toArray, List.map_cons, List.map_nil]; rfl) ?_
        with_reducible refine (left_calls _ old b (0 : Int) HLO.out HLN.out HCR.out).mono ?_
        rintro e w5 ⟨rfl, hb5⟩
        refine ⟨_, rfl, ?_⟩
        have HB5 := Aside0.mk hb5
        clear hb5
        refine hK.out _ _ ⟨(pw_cell_below HB5.out k7), (range_below (w := w3.drew) HR7.out HB5.out), (range_below (w := w3.drew) HRO.out HB5.out)⟩ (fun hHeld => ?_)
        clear hK K
        refine norm_ (a' := ?_) ?_ ?_
        rotate_left
        · show Act.put _ (some 46) _ = _
          simp only [Act.put, List.setIfInBounds_toArray, List.set_cons_zero, List.set_cons_succ, i64_w, i32_w]
          rfl
        refine pure_ (i := 12) (N := some 47) (v := ?_) (a' := ?_) #[true, true, true, true, true, true, true, true, true, true, true, true, true, false] rfl rfl (by kernel_rfl) (fun _ _ _ h => h) (Or.inl ⟨by rfl, ?_⟩) ?_ ?_
        rotate_left
        · intro w'
          go_simp
          with_reducible rfl
        rotate_left
        · simp only [Act.put, List.setIfInBounds_toArray, List.set_cons_zero, List.set_cons_succ, i64_w, i32_w]
          rfl
        refine last_ (i := 13) (N := none) #[true, true, true, true, true, true, true, true, true, true, true, true, true, true] rfl rfl (by kernel_rfl) (by decide) (fun K hK => ?_)
        have HT5 : Aside0 (w5.there go5 (q * 64) (encs (Value.int .u8) (leftM old b (0 : Int))).toArray.size) := ⟨by rw [List.size_toArray, encs_length, leftM_len HLO.out HLN.out]; exact (sector_at (Kd.R_below (w := w3.drew) HR3.out HB5.out) q hqn).2.2⟩
        refine skip_ (w1 := w5.setCells go5 (q * 64) (encs (Value.int .u8) (leftM old b (0 : Int)))) (by rfl) rfl ?_ ?_
        · exact run_store_mid 94 (.tmp 47) (.tmp 46) rfl go5 (q * 64) (encs (Value.int .u8) (leftM old b (0 : Int))).toArray (by go_simp) rfl HT5.out (by rw [List.size_toArray, encs_length, leftM_len HLO.out HLN.out]; exact info89) (all_oneCell_toArray (one_u8 _))
        refine hK.out _ _ ?_
        clear hK K
        refine done_ (by kernel_rfl) ?_
        obtain ⟨w6, hw6⟩ : ∃ w6, w6 = w5.setCells go5 (q * 64) (encs (Value.int .u8) (leftM old b (0 : Int))) := ⟨_, rfl⟩
        rw [← hw6]
        have fr6 : Fr w5 w6 (fun k => k = go5) := by rw [hw6]; exact Fr.setCells (F := fun k => k = go5) (Fr.refl w5 _) (.inl rfl) _ _
        have hr5 : Kd.R kB 94 w5 w.heap.size (fun _ => True) (.slice (some ⟨go5, 0, none⟩) m.now.length co5) (crashTo m.sure m.since l j) := Kd.R_below (w := w3.drew) HR3.out HB5.out
        have hr6 : Kd.R kB 94 w6 w.heap.size (fun _ => True) (.slice (some ⟨go5, 0, none⟩) m.now.length co5) (crashTo m.sure m.since l (j + 1)) := by
          rw [HSN.out, hw6]
          exact row_set hr5 q hqn (leftM old b (0 : Int)) (leftM_len HLO.out HLN.out _)
        have hb6 : Below w.heap.size w w6 := by
          have h1 : Below w.heap.size w w3.drew := HB3.out.drew
          have h2 := below_step h1 HB5.out
          exact below_fr h2 h2.size fr6 (fun k hk => by rw [hk]; exact R_ge hr5 rfl)
        have D6 := Aside0.mk (And.intro hr6 hb6)
        clear hr5 hr6 hb6 fr6 hw6 k7 hHeld
        go_wp2_with fail
        go_roundg (m.since.length - (j + 1))
        case measure => have := hq.out; omega
        case rel => exact ⟨j + 1, by have := HSL.out; rw [show wrap64 ((j : Int) + 1) = ((j + 1 : Nat) : Int) from by unfold wrap64; omega], ⟨by omega⟩, D6⟩
    · have hj1 : decide ((j : Int) < (m.since.length : Int)) = false := decide_eq_false (by omega)
      have hje : j = m.since.length := by have := hq.out; omega
      subst hje
      have hlen := crashTo_len m.sure m.since l m.since.length
      go_wp2_with (go_at_call 52; refine (made_calls w wr w.heap.size _ _ hat.out.1 (by rw [hlen, HLE.out]; exact HNN.out.1) (by rw [hlen, HLE.out]; exact HNN.out.2) hat.out.2.size).mono ?_; rintro e w9 ⟨g9, v9, rfl, hd9, hg9, hv9, hb9⟩; have HD9 := Aside0.mk hd9; have HB9 := Aside0.mk (below_step hat.out.2 hb9); clear hd9 hg9 hv9 hb9)
      go_ret
      exact ⟨g9, _, v9, rfl, HD9.out, HB9.out⟩
def rep (c : Int) : List Int := List.replicate 64 c
theorem wrap_1 (i : Nat) (h : i ≤ 2000000) : wrap64 ((i : Int) + 1) = ((i + 1 : Nat) : Int) := by unfold wrap64; omega
theorem rep_len (c : Int) : (rep c).length = 64 := by simp [rep]
theorem range_of_C {w : World} {g n : Nat} {xs : List Int} (hC : Kd.C (Kd.int .u8) w (some ⟨g, 0, none⟩) n xs) : w.rangeAt g 0 (encs (Value.int .u8) xs) := fun j v hv => by
  have hj : j < xs.length := by have := (List.getElem?_eq_some_iff.1 hv).1; rwa [encs_length] at this
  have hn : n = xs.length := hC.1.symm
  obtain ⟨ad, hA, hc⟩ := hC.2.2 (by omega)
  cases hA
  obtain ⟨c, h1, h2, h3⟩ := hc j _ (List.getElem?_eq_getElem hj)
  have h2 : c = [Value.int .u8 xs[j]] := h2
  subst h2
  have h4 := h3 0 _ rfl
  have hv2 : v = Value.int .u8 xs[j] := by
    unfold encs at hv
    rw [List.getElem?_map, List.getElem?_eq_getElem hj] at hv
    exact (Option.some.inj hv).symm
  subst hv2
  rw [Addr.add_mid] at h4
  have e1 : 0 + (j * (Kd.int .u8).sz + 0) = 0 + j := by show 0 + (j * 1 + 0) = 0 + j; omega
  rw [e1] at h4
  exact h4
theorem C_blk {w : World} {g : Nat} {t : TypeId} {xs : List Int} (hb : w.heap[g]? = some (.cells (encs (Value.int .u8) xs).toArray t (0, 0))) (hl : xs.length = 64) : Kd.C (Kd.int .u8) w (some ⟨g, 0, none⟩) 64 xs := by
  have h := (Kd.R_reads' (R_blk (enc := Value.int .u8) (h1 := fun _ => rfl) (base := 0) hb (Nat.zero_le _) (by omega))).2.2
  rw [hl] at h
  exact h
def m2 : DM := ⟨List.replicate 2 (rep 0), List.replicate 2 (rep 0), [], [], 0⟩
theorem info_u8 : (Try.prog.info? 5).map (fun i => (i.zero, i.size, i.bytes)) = some (some (.int .u8 0), 1, 1) := by kernel_rfl
theorem Q_none {α : Type} {d : Kd α} {e base : Nat} {ok : Nat → Prop} {w : World} {v : Value} {xs : List α} (h : d.Q e w base ok v xs) (hn : ∀ k, ¬ own v k) : v = .slice none 0 0 := by
  obtain ⟨_, inner, hq, hr⟩ := h
  rcases hq.2 with ⟨h1, A, rfl, _⟩ | ⟨g, off, cap, cur, rfl, _⟩
  · cases A with
    | none => rfl
    | some a => exact absurd rfl (hn a.block)
  · exact absurd rfl (hn g)
def waits (m : DM) (l : List Int) : DM := ⟨m.sure, m.now, m.since, l, m.ops⟩
set_option maxHeartbeats 1000000 in
set_option maxRecDepth 100000 in
theorem Outcomes_nil (w : World) (base g : Nat) (v0 v1 v2 : Value) (m : DM) (h : DV w base g v0 v1 v2 (.slice none 0 0) m) (hm : m.wait = []) (A : Option Addr) (c : Nat) (l : List Int) (hC : Kd.C (Kd.int .u8) w A l.length l) (hl : l.length ≤ 1000000) (hby : ∀ x ∈ l, 0 ≤ x ∧ x ≤ 255) (hb : base ≤ w.heap.size) :
    Calls Try.prog 24 #[.pointer (some ⟨g, 0, none⟩), .slice A l.length c] w fun e w' => e = .returned (.tuple #[]) ∧ ∃ v3, DV w' base g v0 v1 v2 v3 (waits m l) ∧ Fr w w' (fun k => k = g) ∧ ∀ k, own v3 k → w.heap.size ≤ k := by
  have H := Aside0.mk h
  have HC := Aside0.mk hC
  have HB := Aside0.mk hb
  have HBY := Aside0.mk hby
  have hn : ((m.now.length : Int) > 0) := by have := h.n1; omega
  have k3 : w.cell? ⟨g, 3, none⟩ = some (.slice none 0 0) := blk_cell h.blk 3
  have f3 : w.frozen? ⟨g, 3, none⟩ = false := blk_frozen h.blk 3
  clear h hC hb hby
  go_enter Try.func24, Try.ntmps24
  go_wp2_with (first
    | (go_at_call 37; refine (Size_calls _ _ _ _ _ _ _ m H.out).mono ?_; rintro e w1 ⟨rfl, rfl⟩)
    | ((with_reducible refine gate_builtin (b := .append) (xs := #[.tmp 11, .tmp 12]) rfl ?_); at_builtin; refine Kd.R_append_rows (Kd.int .u8) (Rr := (Kd.int .u8).K w) (w0 := w) w.heap.size rfl (.tmp 11) (.tmp 12) 23 5 (.int .u8 0) 1 rfl Try.underlying23 info_u8 rfl (by decide) (by decide) (.slice none 0 0) [] l A l.length c (fun _ => True) (fun _ => False) rfl rfl (Kd.R_nil _ _ _ _ _) HC.out (fun x cs hK => hK) (fun _ hk => hk.elim) (fun _ _ => trivial) (Below.refl _ _) (Nat.le_refl _) (by simp; omega) ?_; intro v5 w1 ho hb1 hg1 hat1; rw [List.nil_append] at ho; obtain ⟨A5, c5, rfl⟩ := Kd.R_slice ho; have HO := Aside0.mk ho; have HB1 := Aside0.mk hb1; have d1 := H.out.below hb1; have k3 : w1.cell? ⟨g, 3, none⟩ = some (.slice none 0 0) := blk_cell d1.blk 3; have f3 : w1.frozen? ⟨g, 3, none⟩ = false := blk_frozen d1.blk 3; have D1 := Aside0.mk d1; clear ho hb1 hg1 hat1 d1))
  first | go_end0 | ((try simp only [Exit.inBlock, Exit.then]); refine bodyPost_ret (results_none rfl _ _ _) rfl ?_)
  have d := D1.out
  have fs : Fr w1 (w1.setCell ⟨g, 3, none⟩ (.slice A5 l.length c5)) (fun k => k = g) := Fr.set (g := g) (o := 3) (F := fun k => k = g) (Fr.refl w1 _) (.inl rfl) _
  obtain ⟨r0, r1, r2, _⟩ := d.rows fs
  have hne : ∀ k, own (.slice A5 l.length c5) k → ¬ k = g := fun k hk he => by
    have h1 := R_ge HO.out hk
    have h2 := blk_lt H.out.blk
    omega
  have hq : Kd.Q (Kd.int .u8) 5 (w1.setCell ⟨g, 3, none⟩ (.slice A5 l.length c5)) base (fun _ => True) (.slice A5 l.length c5) l := Kd.Q_lower (Q_fr (Kd.Q_of_R HO.out) rfl fs hne) HB.out
  exact ⟨rfl, .slice A5 l.length c5, ⟨blk_set d.blk 3 _, r0, r1, r2, hq, d.ap, HBY.out, d.len, d.n1, d.n2, d.at_, d.ge⟩, (Fr.of_below HB1.out (fun k => k = g)).trans fs (fun k hk => .inl hk), fun k hk => R_ge HO.out hk⟩
theorem New_bad (w : World) : Calls Try.prog 40 #[.int .i64 0] w fun e w' => e = .returned (.tuple #[.pointer none, .int .i64 1]) ∧ w = w' := by
  go_enter Try.func40, Try.ntmps40
  go_wp2
  go_ret2
  exact ⟨rfl, rfl⟩
def wr1 (m : DM) (i : Int) (b : List Int) : DM := if 0 ≤ i ∧ i < (m.now.length : Int) ∧ b.length = 64 then wrote m i.toNat b else m
theorem Write_any (w : World) (base g : Nat) (v0 v1 v2 v3 : Value) (m : DM) (h : DV w base g v0 v1 v2 v3 m) (ho : 0 ≤ m.ops ∧ m.ops ≤ 1000000000) (hs : m.since.length ≤ 1000000) (hw : m.wait = []) (i : Int)
    (A : Option Addr) (c : Nat) (b : List Int) (hb : b.length = 64 → ∃ gb, A = some ⟨gb, 0, none⟩ ∧ w.rangeAt gb 0 (encs (Value.int .u8) b) ∧ gb ≠ g) (hg : base ≤ w.heap.size) :
    Calls Try.prog 45 #[.pointer (some ⟨g, 0, none⟩), .int .i64 i, .slice A b.length c] w fun e w' => (∃ x, e = .returned (.int .i64 x)) ∧ ∃ v2' v3', DV w' base g v0 v1 v2' v3' (wr1 m i b) ∧ Fr w w' (foot g v0 v1 v2 v3) ∧ ∀ k, foot g v0 v1 v2' v3' k → foot g v0 v1 v2 v3 k ∨ w.heap.size ≤ k := by
  have hx : outc m = 0 := by unfold outc; rw [hw]
  by_cases hc : 0 ≤ i ∧ i < (m.now.length : Int) ∧ b.length = 64
  · obtain ⟨n, rfl⟩ := Int.eq_ofNat_of_zero_le hc.1
    obtain ⟨gb, rfl, h1, h2⟩ := hb hc.2.2
    rw [hc.2.2]
    refine (Write_done w base g v0 v1 v2 v3 m h ho hs n (by omega) gb c b hc.2.2 h1 (by rw [hx]; decide) hg h2).mono ?_
    rintro e w' ⟨rfl, v2', v3', hd, hf, hft, _⟩
    refine ⟨⟨_, rfl⟩, v2', v3', ?_, hf, hft⟩
    unfold wr1
    rw [if_pos hc, Int.toNat_natCast]
    exact hd
  · refine (Write_bad w base g v0 v1 v2 v3 m h i A b.length c (by omega)).mono ?_
    rintro e w' ⟨rfl, rfl⟩
    refine ⟨⟨_, rfl⟩, v2, v3, ?_, Fr.refl _ _, fun k hk => .inl hk⟩
    unfold wr1
    rw [if_neg hc]
    exact h
/-- What a disk of n sectors is while nothing waits: what is written lies over what is certain. -/
structure Plain (m : DM) (n k : Nat) : Prop where
  wait : m.wait = []
  now : m.now = laid m.sure m.since
  len : m.now.length = n
  ops : 0 ≤ m.ops ∧ m.ops ≤ k
  since : m.since.length ≤ k
theorem Plain.write {m : DM} {n k : Nat} (h : Plain m n k) (i : Int) (b : List Int) : Plain (wr1 m i b) n (k + 1) := by
  unfold wr1
  split
  · rename_i hc
    obtain ⟨q, rfl⟩ := Int.eq_ofNat_of_zero_le hc.1
    refine ⟨?_, ?_, ?_, ?_, ?_⟩
    · show m.wait.tail = []; rw [h.wait]; rfl
    · show m.now.set (q : Int).toNat b = laid m.sure (m.since ++ [(((q : Int).toNat : Int), b)])
      rw [laid_snoc, ← h.now, Int.toNat_natCast, Int.toNat_natCast]
    · show (m.now.set _ b).length = n; rw [List.length_set]; exact h.len
    · show 0 ≤ m.ops + 1 ∧ m.ops + 1 ≤ ((k + 1 : Nat) : Int); have := h.ops; omega
    · show (m.since ++ [_]).length ≤ k + 1; have := h.since; simp; omega
  · exact ⟨h.wait, h.now, h.len, by have := h.ops; omega, by have := h.since; omega⟩
theorem load0 (P : Program) (W : World) (a : Addr) : (loadCells a 0).run P W = .ok #[] W := rfl
section
variable {P : Program} {ops : Array Oper} {rest : List Oper} {o : Oper} {a : Act} {Q' : Exit → Act → World → Prop} {α : Type}
/-- append(v, ys...) onto a queue's row. -/
theorem Q_append_rows (d : Kd α) {Rr : α → List Value → Prop} {w0 W : World} (base : Nat) (hgd : o.guard = none) (s x : Operand) (t e : TypeId) (z : Value) (bytes : Nat)
    (ho : o.op = .call { callee := .builtin .append, args := #[s, x], argTypes := #[t, t] })
    (ht : P.underlying t = some (.slice e)) (hinfo : (P.info? e).map (fun i => (i.zero, i.size, i.bytes)) = some (some z, d.sz, bytes)) (hz : z.cells.size = d.sz) (hs0 : 0 < d.sz) (hb0 : 0 < bytes)
    (v : Value) (xs ys : List α) (A : Option Addr) (m c : Nat) (ok okp : Nat → Prop) (hs : a.eval s = v) (hx : a.eval x = .slice A m c)
    (HO : d.Q e W base ok v xs) (HR : ReadsRow Rr d.sz W A m ys) (hKM : ∀ x cs, Rr x cs → d.M W base okp x cs) (hokp : ∀ k, okp k → ok k ∧ some k ≠ v.ownBlock) (hfresh : ∀ k, W.heap.size ≤ k → ok k)
    (HB : Below base w0 W) (hbase : base ≤ W.heap.size) (hl : (xs.length + m) * bytes ≤ 140737488355328)
    (h : ∀ v1 w1, d.Q e w1 base ok v1 (xs ++ ys) → Below base w0 w1 → W.grownBy w1 v.ownBlock → (v1.ownBlock = v.ownBlock ∨ ∃ b, v1.ownBlock = some b ∧ W.heap.size ≤ b) → wpList P ops Q' rest (a.put o.dst v1) w1) :
    wpList P ops Q' (o :: rest) a W := by
  obtain ⟨i0, hi, hzz⟩ := Option.map_eq_some_iff.1 hinfo
  simp only [Prod.mk.injEq] at hzz
  obtain ⟨hz0, hz1, hz2⟩ := hzz
  have hm : ys.length = m := HR.1
  have hlen : xs.length + m ≤ 140737488355328 := Nat.le_trans (Nat.le_mul_of_pos_right _ hb0) hl
  obtain ⟨hok, inner, hown, hr⟩ := HO
  have hrun : ∃ v1 w1, (Builtin.append_ #[t, t] o.type #[v, .slice A m c]).run P W = .ok v1 w1 ∧ d.Q e w1 base ok v1 (xs ++ ys) ∧ W.grownBy w1 v.ownBlock ∧ (v1.ownBlock = v.ownBlock ∨ ∃ b, v1.ownBlock = some b ∧ W.heap.size ≤ b) := by
    rcases Nat.eq_zero_or_pos m with h0 | h0
    · subst h0
      obtain rfl : ys = [] := List.eq_nil_of_length_eq_zero hm
      refine ⟨v, W, ?_, by rw [List.append_nil]; exact ⟨hok, inner, hown, hr⟩, World.grownBy.refl W _, .inl rfl⟩
      rcases hown.2 with ⟨hn, B, rfl, _⟩ | ⟨g, off, cap, cur, rfl, _, _, hnc, _⟩
      · cases A <;> cases B <;> simp [Builtin.append_, run_underlying ht, sizeOf, typeInfo, hi, Builtin.lenOf, Builtin.firstCells, hn, storeCells, load0, Result.andThen]
      · cases A <;> simp [Builtin.append_, run_underlying ht, sizeOf, typeInfo, hi, Builtin.lenOf, Builtin.firstCells, hnc, storeCells, load0, Result.andThen]
    · obtain ⟨ad, rfl, _⟩ := HR.2.2 h0
      obtain ⟨news, hnr, hnc⟩ := ReadsRow.inner_ HR
      have hnM : Reps (d.M W base okp) d.sz ys news := hnr.imp_ (fun p c hp => hKM p c hp)
      have hone : ∀ u ∈ news, u.oneCell' = true := by
        intro u hu
        obtain ⟨q, hq, rfl⟩ := List.mem_iff_getElem.1 hu
        have hql : q / d.sz < ys.length := by
          rw [Nat.div_lt_iff_lt_mul hs0]
          rw [← hnM.1]
          exact hq
        have hc := hnM.2 (q / d.sz) _ (List.getElem?_eq_getElem hql)
        refine d.K_one (d.K_of_M hc) _ ?_
        rw [List.mem_iff_getElem?]
        refine ⟨q % d.sz, ?_⟩
        rw [List.getElem?_take, if_pos (Nat.mod_lt _ hs0), List.getElem?_drop, Nat.mul_comm, Nat.div_add_mod, List.getElem?_eq_getElem hq]
      obtain ⟨v1, w1, hrun, h2, hg, hat'⟩ := q_append (P := P) W base t o.type e i0 z d.sz bytes ht hi hz0 hz1 hz2 hz hs0 v xs.length inner hown ad m c news (by rw [hnM.1, hm]) hnc hone h0 (by simp only [maxLen]; omega) hl hbase
      have hne : ∀ k, some k ≠ v.ownBlock → k < W.heap.size → some k ≠ v1.ownBlock := by
        intro k hk hlt
        rcases hat' with hat | ⟨b, hb, hle⟩
        · rw [hat]; exact hk
        · rw [hb]
          intro he
          injection he with he
          omega
      have step : ∀ {q : α} {c : List Value} {o : Nat → Prop}, d.M W base o q c → (∀ k, o k → ok k ∧ some k ≠ v.ownBlock) → d.M w1 base (fun k => ok k ∧ some k ≠ v1.ownBlock) q c := by
        intro q c o hq ho
        have h1 := d.M_move (w1 := w1) (fun k hk => hg.block k hk.2.2.1 (ho k hk.1).2) (d.M_bound hq)
        exact d.M_mono (fun k hk => ⟨(ho k hk.1).1, hne k (ho k hk.1).2 hk.2.2.1⟩) h1
      refine ⟨v1, w1, hrun, ⟨fun k hk => ?_, inner ++ news, by rw [List.length_append, hm]; exact h2, Kd.reps_append (hr.imp_ (fun _ _ hq => step hq (fun _ hk => hk))) (hnM.imp_ (fun _ _ hq => step hq hokp))⟩, hg, hat'⟩
      rcases hat' with hat | ⟨b, hb, hle⟩
      · exact hok k (hat ▸ hk)
      · rw [hb] at hk
        injection hk with hk
        exact hfresh k (by omega)
  obtain ⟨v1, w1, hr1, h1, hg, hat⟩ := hrun
  refine wpList_plain hgd fun K hK => ?_
  unfold Oper.wp execOp
  simp only [ho, resolve, invoke, builtin, Sem.run_bind, Sem.run_pure, Result.andThen_ok, List.map_toArray, List.map_cons, List.map_nil, hs, hx, hr1]
  exact hK _ _ (h v1 w1 h1 (HB.grown hg hbase (fun k hk => (q_typed hown k hk).1)) hg hat)
end
/-- Only the row of outcomes was written. -/
theorem DV.grown {w w1 : World} {base g : Nat} {v0 v1 v2 v3 : Value} {m : DM} (h : DV w base g v0 v1 v2 v3 m) (hg : w.grownBy w1 v3.ownBlock) :
    w1.heap[g]? = some (.cells #[v0, v1, v2, v3, .int .i64 m.ops, .func (.func 65) #[.pointer (some ⟨g, 0, none⟩)] #[]] 93 (0, 0)) ∧
    Kd.R kB 94 w1 base (fun _ => True) v0 m.sure ∧ Kd.R kB 94 w1 base (fun _ => True) v1 m.now ∧ Kd.R kW 96 w1 base (fun _ => True) v2 m.since ∧ Fr w w1 (own v3) := by
  have fr : Fr w w1 (own v3) := Fr.grown (Fr.refl w _) hg (fun k hk => .inl hk)
  have ty : ∀ k, own v3 k → ∃ cells, w.heap[k]? = some (.cells cells 5 (0, 0)) := fun k hk => Kd.Q_typed h.wait k hk
  refine ⟨fr.blk h.blk (fun hk => h.ne.2.2.2 hk), R_fr h.sure rfl fr ?_, R_fr h.now rfl fr ?_, R_fr h.since rfl fr ?_, fr⟩
  · intro k hk hk3
    obtain ⟨cells, hc⟩ := ty k hk3
    exact Kd.R_ne h.sure hc (by decide) hk.symm
  · intro k hk hk3
    obtain ⟨cells, hc⟩ := ty k hk3
    exact Kd.R_ne h.now hc (by decide) hk.symm
  · intro k hk hk3
    obtain ⟨cells, hc⟩ := ty k hk3
    exact Kd.R_ne h.since hc (by decide) hk.symm
set_option maxHeartbeats 1000000 in
set_option maxRecDepth 100000 in
theorem Outcomes_calls (w : World) (base g : Nat) (v0 v1 v2 v3 : Value) (m : DM) (h : DV w base g v0 v1 v2 v3 m) (A : Option Addr) (c : Nat) (l : List Int) (hC : Kd.C (Kd.int .u8) w A l.length l) (hl : m.wait.length + l.length ≤ 100000000) (hby : ∀ x ∈ l, 0 ≤ x ∧ x ≤ 255) (hb : base ≤ w.heap.size) :
    Calls Try.prog 24 #[.pointer (some ⟨g, 0, none⟩), .slice A l.length c] w fun e w' => e = .returned (.tuple #[]) ∧ ∃ v3', DV w' base g v0 v1 v2 v3' (waits m (m.wait ++ l)) ∧ Fr w w' (foot g v0 v1 v2 v3) ∧ ∀ k, foot g v0 v1 v2 v3' k → foot g v0 v1 v2 v3 k ∨ w.heap.size ≤ k := by
  have H := Aside0.mk h
  have HC := Aside0.mk hC
  have HB := Aside0.mk hb
  have HBY := Aside0.mk hby
  have HL := Aside0.mk hl
  have hn : ((m.now.length : Int) > 0) := by have := h.n1; omega
  obtain ⟨A3, c3, rfl, hcl⟩ := Kd.Q_slice h.wait
  have k3 : w.cell? ⟨g, 3, none⟩ = some (.slice A3 m.wait.length c3) := blk_cell h.blk 3
  have f3 : w.frozen? ⟨g, 3, none⟩ = false := blk_frozen h.blk 3
  clear h hC hb hby hl
  go_enter Try.func24, Try.ntmps24
  go_wp2_with (first
    | (go_at_call 37; refine (Size_calls _ _ _ _ _ _ _ m H.out).mono ?_; rintro e w1 ⟨rfl, rfl⟩)
    | ((with_reducible refine gate_builtin (b := .append) (xs := #[.tmp 11, .tmp 12]) rfl ?_); at_builtin; refine Q_append_rows (Kd.int .u8) (Rr := (Kd.int .u8).K w) (w0 := w) base rfl (.tmp 11) (.tmp 12) 23 5 (.int .u8 0) 1 rfl Try.underlying23 info_u8 rfl (by decide) (by decide) (.slice A3 m.wait.length c3) m.wait l A l.length c (fun _ => True) (fun _ => False) rfl rfl H.out.wait HC.out (fun x cs hK => hK) (fun _ hk => hk.elim) (fun _ _ => trivial) (Below.refl _ _) HB.out (by have := HL.out; omega) ?_; intro v5 w1 ho hb1 hg1 hat1; obtain ⟨A5, c5, rfl, _⟩ := Kd.Q_slice ho; rw [List.length_append] at ho hat1; have HO := Aside0.mk ho; have HG1 := Aside0.mk hg1; have HAT := Aside0.mk hat1; have d1 := H.out.grown hg1; have k3 : w1.cell? ⟨g, 3, none⟩ = some (.slice A3 m.wait.length c3) := blk_cell d1.1 3; have f3 : w1.frozen? ⟨g, 3, none⟩ = false := blk_frozen d1.1 3; have D1 := Aside0.mk d1; clear ho hb1 hg1 hat1 d1))
  first | go_end0 | ((try simp only [Exit.inBlock, Exit.then]); refine bodyPost_ret (results_none rfl _ _ _) rfl ?_)
  have d := D1.out
  have h := H.out
  have hlt := blk_lt h.blk
  obtain ⟨n0, n1, n2, n3⟩ := h.ne
  generalize hv5 : Value.slice A5 (m.wait.length + l.length) c5 = v5 at *
  have fs : Fr w1 (w1.setCell ⟨g, 3, none⟩ v5) (fun k => k = g) := Fr.set (g := g) (o := 3) (F := fun k => k = g) (Fr.refl w1 _) (.inl rfl) _
  have hne : ∀ k, own v5 k → ¬ k = g := fun k hk he => by
    subst he
    rcases HAT.out with hat | ⟨b, hb, hle⟩
    · exact n3 (by unfold own at hk ⊢; rw [← hat]; exact hk)
    · unfold own at hk
      rw [hb] at hk
      injection hk with hk
      omega
  refine ⟨rfl, v5, ⟨blk_set d.1 3 _, R_fr d.2.1 rfl fs (fun k hk he => n0 (he ▸ hk)), R_fr d.2.2.1 rfl fs (fun k hk he => n1 (he ▸ hk)), R_fr d.2.2.2.1 rfl fs (fun k hk he => n2 (he ▸ hk)), Q_fr HO.out rfl fs hne, h.ap, ?_, h.len, h.n1, h.n2, h.at_, h.ge⟩, ?_, ?_⟩
  · intro x hx
    rcases List.mem_append.1 hx with hx | hx
    · exact h.byt x hx
    · exact HBY.out x hx
  · exact (d.2.2.2.2.mono (F2 := foot g v0 v1 v2 (.slice A3 m.wait.length c3)) (fun k hk => .inr (.inr (.inr (.inr hk))))).trans fs (fun k hk => .inl (.inl hk))
  · rintro k (hk | hk | hk | hk | hk)
    · exact .inl (.inl hk)
    · exact .inl (.inr (.inl hk))
    · exact .inl (.inr (.inr (.inl hk)))
    · exact .inl (.inr (.inr (.inr (.inl hk))))
    · rcases HAT.out with hat | ⟨b, hb, hle⟩
      · exact .inl (.inr (.inr (.inr (.inr (by unfold own at hk ⊢; rw [← hat]; exact hk)))))
      · unfold own at hk
        rw [hb] at hk
        injection hk with hk
        exact .inr (by omega)
set_option maxHeartbeats 1000000 in
set_option maxRecDepth 100000 in
theorem Sync_lost (w : World) (base g : Nat) (v0 v1 v2 v3 : Value) (m : DM) (h : DV w base g v0 v1 v2 v3 m) (ho : 0 ≤ m.ops ∧ m.ops ≤ 1000000000) (hx : outc m = 1) :
    Calls Try.prog 50 #[.pointer (some ⟨g, 0, none⟩)] w fun e w' => e = .returned (.int .i64 8) ∧
      ∃ v3', DV w' base g v0 v1 v2 v3' (took m) ∧ Fr w w' (foot g v0 v1 v2 v3) ∧ ∀ k, own v3' k → own v3 k := by
  have H := Aside0.mk h
  have HO := Aside0.mk ho
  have hn0 : ((m.now.length : Int) == 0) = false := beq_eq_false_iff_ne.mpr (by have := h.n1; omega)
  have k5 : w.cell? ⟨g, 5, none⟩ = some (.func (.func 65) #[.pointer (some ⟨g, 0, none⟩)] #[]) := blk_cell h.blk 5
  have HX := Aside0.mk hx
  clear h ho hx
  go_enter Try.func50, Try.ntmps50
  go_wp2_with (first
    | (go_at_call 37; refine (Size_calls _ _ _ _ _ _ _ m H.out).mono ?_; rintro e w1 ⟨rfl, rfl⟩)
    | (go_at_call 65; refine (next_calls _ _ _ _ _ _ _ m H.out HO.out).mono ?_; rintro e w1 ⟨rfl, v3a, hd, hsub, hfr⟩; rw [HX.out]; have H1 := Aside0.mk hd; have HF1 := Aside0.mk hfr; have HV1 := Aside0.mk hsub; clear hd hfr hsub k5)
    | (go_at_call 61; refine (told_calls 1 _).mono ?_; rintro e w6 ⟨rfl, rfl⟩))
  go_ret
  exact ⟨rfl, v3a, H1.out, HF1.out.mono (fun k hk => .inl hk), HV1.out⟩
/-- What a Write leaves and tells, whatever is handed in and whatever outcome waits. -/
def fits (m : DM) (i : Int) (b : List Int) : Prop := 0 ≤ i ∧ i < (m.now.length : Int) ∧ b.length = 64
instance (m : DM) (i : Int) (b : List Int) : Decidable (fits m i b) := by unfold fits; infer_instance
def wrM (m : DM) (i : Int) (b : List Int) : DM := if fits m i b then (if outc m = 1 then took m else wrote m i.toNat b) else m
def wrE (m : DM) (i : Int) (b : List Int) : Int := if fits m i b then tell (outc m) else 1
def syM (m : DM) : DM := if outc m = 1 then took m else synced m
def syV (m : DM) (v2 : Value) : Value := if outc m = 1 then v2 else .slice none 0 0
theorem Write_all (w : World) (base g : Nat) (v0 v1 v2 v3 : Value) (m : DM) (h : DV w base g v0 v1 v2 v3 m) (ho : 0 ≤ m.ops ∧ m.ops ≤ 1000000000) (hs : m.since.length ≤ 1000000) (i : Int)
    (A : Option Addr) (c : Nat) (b : List Int) (hb : b.length = 64 → ∃ gb, A = some ⟨gb, 0, none⟩ ∧ w.rangeAt gb 0 (encs (Value.int .u8) b) ∧ gb ≠ g) (hg : base ≤ w.heap.size) :
    Calls Try.prog 45 #[.pointer (some ⟨g, 0, none⟩), .int .i64 i, .slice A b.length c] w fun e w' => e = .returned (.int .i64 (wrE m i b)) ∧ ∃ v2' v3', DV w' base g v0 v1 v2' v3' (wrM m i b) ∧ Fr w w' (foot g v0 v1 v2 v3) ∧ ∀ k, foot g v0 v1 v2' v3' k → foot g v0 v1 v2 v3 k ∨ w.heap.size ≤ k := by
  unfold wrM wrE
  by_cases hc : fits m i b
  · rw [if_pos hc, if_pos hc]
    have hc : 0 ≤ i ∧ i < (m.now.length : Int) ∧ b.length = 64 := hc
    obtain ⟨n, rfl⟩ := Int.eq_ofNat_of_zero_le hc.1
    obtain ⟨gb, rfl, h1, h2⟩ := hb hc.2.2
    rw [hc.2.2, Int.toNat_natCast]
    by_cases hx : outc m = 1
    · rw [if_pos hx, hx]
      refine (Write_lost w base g v0 v1 v2 v3 m h ho n (by omega) (some ⟨gb, 0, none⟩) c hx).mono ?_
      rintro e w' ⟨rfl, v3', hd, hf, hv⟩
      refine ⟨rfl, v2, v3', hd, hf, ?_⟩
      rintro k (hk | hk | hk | hk | hk)
      · exact .inl (.inl hk)
      · exact .inl (.inr (.inl hk))
      · exact .inl (.inr (.inr (.inl hk)))
      · exact .inl (.inr (.inr (.inr (.inl hk))))
      · exact .inl (.inr (.inr (.inr (.inr (hv k hk)))))
    · rw [if_neg hx]
      refine (Write_done w base g v0 v1 v2 v3 m h ho hs n (by omega) gb c b hc.2.2 h1 hx hg h2).mono ?_
      rintro e w' ⟨rfl, v2', v3', hd, hf, hft, _⟩
      exact ⟨rfl, v2', v3', hd, hf, hft⟩
  · rw [if_neg hc, if_neg hc]
    unfold fits at hc
    refine (Write_bad w base g v0 v1 v2 v3 m h i A b.length c (by omega)).mono ?_
    rintro e w' ⟨rfl, rfl⟩
    exact ⟨rfl, v2, v3, h, Fr.refl _ _, fun k hk => .inl hk⟩
theorem Sync_all (w : World) (base g : Nat) (v0 v1 v2 v3 : Value) (m : DM) (h : DV w base g v0 v1 v2 v3 m) (ho : 0 ≤ m.ops ∧ m.ops ≤ 1000000000) (hs : m.since.length ≤ 1000000) (hg : base ≤ w.heap.size) :
    Calls Try.prog 50 #[.pointer (some ⟨g, 0, none⟩)] w fun e w' => e = .returned (.int .i64 (tell (outc m))) ∧
      ∃ v2' v3', DV w' base g v0 v1 v2' v3' (syM m) ∧ Fr w w' (foot g v0 v1 v2 v3) ∧ ∀ k, foot g v0 v1 v2' v3' k → foot g v0 v1 v2 v3 k ∨ w.heap.size ≤ k := by
  unfold syM
  by_cases hx : outc m = 1
  · rw [if_pos hx, hx]
    refine (Sync_lost w base g v0 v1 v2 v3 m h ho hx).mono ?_
    rintro e w' ⟨rfl, v3', hd, hf, hv⟩
    refine ⟨rfl, v2, v3', hd, hf, ?_⟩
    rintro k (hk | hk | hk | hk | hk)
    · exact .inl (.inl hk)
    · exact .inl (.inr (.inl hk))
    · exact .inl (.inr (.inr (.inl hk)))
    · exact .inl (.inr (.inr (.inr (.inl hk))))
    · exact .inl (.inr (.inr (.inr (.inr (hv k hk)))))
  · rw [if_neg hx]
    refine (Sync_done w base g v0 v1 v2 v3 m h ho hs hx hg).mono ?_
    rintro e w' ⟨rfl, v3', hd, hf, hv⟩
    refine ⟨rfl, _, v3', hd, hf, ?_⟩
    rintro k (hk | hk | hk | hk | hk)
    · exact .inl (.inl hk)
    · exact .inl (.inr (.inl hk))
    · exact .inl (.inr (.inr (.inl hk)))
    · simp [own, Value.ownBlock] at hk
    · exact .inl (.inr (.inr (.inr (.inr (hv k hk)))))
end Go.Proofs.Ytldddinebhopcaa.Sec
