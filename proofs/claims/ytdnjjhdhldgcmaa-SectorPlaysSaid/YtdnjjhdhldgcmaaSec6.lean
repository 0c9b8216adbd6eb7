/- sector: left. -/
import Derived.Test.YtdnjjhdhldgcmaaSec5
namespace Go.Proofs.Ytdnjjhdhldgcmaa.Sec
open Go.RowKit Go.Proofs.YtdnjjhdhldgcmaaW.PrintWords Go.Proofs.YtdnjjhdhldgcmaaW.PrintLast Go.Proofs.YtdnjjhdhldgcmaaW.PrintMore Go.Proofs.Ytdnjjhdhldgcmaa.Bs Go.Proofs.Ytdnjjhdhldgcmaa.Fr
set_option linter.unusedVariables false
set_option linter.unusedSimpArgs false

/-- What a crash leaves of a sector. -/
def leftM (old wr : List Int) (c : Int) : List Int := if c % 3 = 0 then wr else if c % 3 = 1 then old else wr.take (min (c / 3) 64).toNat ++ old.drop (min (c / 3) 64).toNat
theorem leftM_len {old wr : List Int} (h1 : old.length = 64) (h2 : wr.length = 64) (c : Int) : (leftM old wr c).length = 64 := by
  unfold leftM
  split
  · exact h2
  · split
    · exact h1
    · simp [h1, h2]; omega

set_option maxHeartbeats 1000000 in
set_option maxRecDepth 100000 in
theorem left_0 (w : World) (old wr : List Int) (c : Int) (h1 : old.length = 64) (h2 : wr.length = 64) (hc : 0 ≤ c ∧ c ≤ 255) (h0 : c % 3 = 0) :
    Calls Try.prog 57 #[.agg (encs (Value.int .u8) old).toArray, .agg (encs (Value.int .u8) wr).toArray, .int .u8 c] w fun e w' => e = .returned (.agg (encs (Value.int .u8) wr).toArray) ∧ Below w.heap.size w w' := by
  have H1 := Aside0.mk h1
  have H2 := Aside0.mk h2
  have e0 : (c % 3 == 0) = true := beq_iff_eq.mpr h0
  clear h1 h2 h0
  go_enter Try.func57, Try.ntmps57
  go_wp2_with (first
    | ((with_reducible refine gate_dst (N := 3) rfl ?_); refine box_event ?hg (N := 3) ?hd (cs := (encs (Value.int .u8) old).toArray) (t := 89) ?hr ?_; (case hd => rfl); (case hg => rfl); (case hr => first | (go_simp; done) | (go_simp; rfl)); intro g3 hg3 w1 hbox1 hb1; have HG3 := Aside0.mk hg3; have HX3 := Aside0.mk hbox1; have HB1 := Aside0.mk hb1; clear hg3 hbox1 hb1)
    | ((with_reducible refine gate_dst (N := 4) rfl ?_); refine box_event ?hg (N := 4) ?hd (cs := (encs (Value.int .u8) wr).toArray) (t := 89) ?hr ?_; (case hd => rfl); (case hg => rfl); (case hr => first | (go_simp; done) | (go_simp; rfl)); intro g4 hg4 w2 hbox2 hb2; have HG4 := Aside0.mk hg4; have HX4 := Aside0.mk hbox2; have HB2 := Aside0.mk hb2; clear hg4 hbox2 hb2)
    | ((with_reducible refine gate_dst (N := 6) rfl ?_); refine box_event ?hg (N := 6) ?hd (cs := z64) (t := 89) ?hr ?_; (case hd => rfl); (case hg => rfl); (case hr => first | (go_simp; done) | (go_simp; rfl)); intro g6 hg6 w3 hbox3 hb3; have HG6 := Aside0.mk hg6; have HX6 := Aside0.mk hbox3; have HB3 := Aside0.mk hb3; clear hg6 hbox3 hb3; have HX4b := Aside0.mk (blk_below HX4.out HB3.out); have HX3b := Aside0.mk (blk_below (blk_below HX3.out HB2.out) HB3.out))
    | (refine wpList_load_mid rfl 89 (.tmp 4) rfl g4 0 rfl (encs (Value.int .u8) wr) _ (range_blk HX4b.out) Try.underlying89 rfl (by rw [encs_length, H2.out]; exact info89) ?_)
    | (refine wp_fill rfl 89 (.tmp 6) (.tmp 12) rfl g6 z64 89 (encs (Value.int .u8) wr) HX6.out rfl rfl (by rw [encs_length, H2.out]; rfl) info89 (one_u8 wr) ?_; intro w4 hx4 hf4; have HX7 := Aside0.mk hx4; have HF4 := Aside0.mk hf4; clear hx4 hf4))
  (try simp only [Exit.inBlock, Exit.then])
  have hb : Below w.heap.size w w3 := below_step (below_step HB1.out HB2.out) HB3.out
  refine bodyPost_ret (results_cell_row rfl _ _ g6 89 _ (0, 0) _ rfl HX7.out Try.underlying89 rfl (by rw [List.size_toArray, encs_length, H2.out]; exact info89)) rfl ⟨rfl, ?_⟩
  exact below_fr hb hb.size HF4.out (fun k hk => by have h1 := HG6.out; have h2 := HB1.out.size; have h3 := HB2.out.size; rw [hk]; omega)
set_option maxHeartbeats 1000000 in
set_option maxRecDepth 100000 in
theorem left_1 (w : World) (old wr : List Int) (c : Int) (h1 : old.length = 64) (h2 : wr.length = 64) (hc : 0 ≤ c ∧ c ≤ 255) (h0 : c % 3 = 1) :
    Calls Try.prog 57 #[.agg (encs (Value.int .u8) old).toArray, .agg (encs (Value.int .u8) wr).toArray, .int .u8 c] w fun e w' => e = .returned (.agg (encs (Value.int .u8) old).toArray) ∧ Below w.heap.size w w' := by
  have H1 := Aside0.mk h1
  have H2 := Aside0.mk h2
  have e0 : (c % 3 == 0) = false := beq_eq_false_iff_ne.mpr (by omega)
  have e1 : (c % 3 == 1) = true := beq_iff_eq.mpr h0
  clear h1 h2 h0
  go_enter Try.func57, Try.ntmps57
  go_wp2_with (first
    | ((with_reducible refine gate_dst (N := 3) rfl ?_); refine box_event ?hg (N := 3) ?hd (cs := (encs (Value.int .u8) old).toArray) (t := 89) ?hr ?_; (case hd => rfl); (case hg => rfl); (case hr => first | (go_simp; done) | (go_simp; rfl)); intro g3 hg3 w1 hbox1 hb1; have HG3 := Aside0.mk hg3; have HX3 := Aside0.mk hbox1; have HB1 := Aside0.mk hb1; clear hg3 hbox1 hb1)
    | ((with_reducible refine gate_dst (N := 4) rfl ?_); refine box_event ?hg (N := 4) ?hd (cs := (encs (Value.int .u8) wr).toArray) (t := 89) ?hr ?_; (case hd => rfl); (case hg => rfl); (case hr => first | (go_simp; done) | (go_simp; rfl)); intro g4 hg4 w2 hbox2 hb2; have HG4 := Aside0.mk hg4; have HX4 := Aside0.mk hbox2; have HB2 := Aside0.mk hb2; clear hg4 hbox2 hb2)
    | ((with_reducible refine gate_dst (N := 6) rfl ?_); refine box_event ?hg (N := 6) ?hd (cs := z64) (t := 89) ?hr ?_; (case hd => rfl); (case hg => rfl); (case hr => first | (go_simp; done) | (go_simp; rfl)); intro g6 hg6 w3 hbox3 hb3; have HG6 := Aside0.mk hg6; have HX6 := Aside0.mk hbox3; have HB3 := Aside0.mk hb3; clear hg6 hbox3 hb3; have HX4b := Aside0.mk (blk_below HX4.out HB3.out); have HX3b := Aside0.mk (blk_below (blk_below HX3.out HB2.out) HB3.out))
    | (refine wpList_load_mid rfl 89 (.tmp 3) rfl g3 0 rfl (encs (Value.int .u8) old) _ (range_blk HX3b.out) Try.underlying89 rfl (by rw [encs_length, H1.out]; exact info89) ?_)
    | (refine wp_fill rfl 89 (.tmp 6) (.tmp 15) rfl g6 z64 89 (encs (Value.int .u8) old) HX6.out rfl rfl (by rw [encs_length, H1.out]; rfl) info89 (one_u8 old) ?_; intro w4 hx4 hf4; have HX7 := Aside0.mk hx4; have HF4 := Aside0.mk hf4; clear hx4 hf4))
  (try simp only [Exit.inBlock, Exit.then])
  have hb : Below w.heap.size w w3 := below_step (below_step HB1.out HB2.out) HB3.out
  refine bodyPost_ret (results_cell_row rfl _ _ g6 89 _ (0, 0) _ rfl HX7.out Try.underlying89 rfl (by rw [List.size_toArray, encs_length, H1.out]; exact info89)) rfl ⟨rfl, ?_⟩
  exact below_fr hb hb.size HF4.out (fun k hk => by have h1 := HG6.out; have h2 := HB1.out.size; have h3 := HB2.out.size; rw [hk]; omega)
set_option maxHeartbeats 1000000 in
set_option maxRecDepth 100000 in
theorem left_2 (w : World) (old wr : List Int) (c : Int) (h1 : old.length = 64) (h2 : wr.length = 64) (hc : 0 ≤ c ∧ c ≤ 255) (h0 : c % 3 = 2) (n : Nat) (hn : (n : Int) = if 64 < c / 3 then 64 else c / 3) :
    Calls Try.prog 57 #[.agg (encs (Value.int .u8) old).toArray, .agg (encs (Value.int .u8) wr).toArray, .int .u8 c] w fun e w' => e = .returned (.agg (encs (Value.int .u8) (wr.take n ++ old.drop n)).toArray) ∧ Below w.heap.size w w' := by
  have H1 := Aside0.mk h1
  have H2 := Aside0.mk h2
  have HN := Aside0.mk hn
  have e0 : (c % 3 == 0) = false := beq_eq_false_iff_ne.mpr (by omega)
  have e1 : (c % 3 == 1) = false := beq_eq_false_iff_ne.mpr (by omega)
  clear h1 h2 h0 hn
  go_enter Try.func57, Try.ntmps57
  go_upto_region 7 with (first
    | ((with_reducible refine gate_dst (N := 3) rfl ?_); refine box_event ?hg (N := 3) ?hd (cs := (encs (Value.int .u8) old).toArray) (t := 89) ?hr ?_; (case hd => rfl); (case hg => rfl); (case hr => first | (go_simp; done) | (go_simp; rfl)); intro g3 hg3 w1 hbox1 hb1; have HG3 := Aside0.mk hg3; have HX3 := Aside0.mk hbox1; have HB1 := Aside0.mk hb1; clear hg3 hbox1 hb1)
    | ((with_reducible refine gate_dst (N := 4) rfl ?_); refine box_event ?hg (N := 4) ?hd (cs := (encs (Value.int .u8) wr).toArray) (t := 89) ?hr ?_; (case hd => rfl); (case hg => rfl); (case hr => first | (go_simp; done) | (go_simp; rfl)); intro g4 hg4 w2 hbox2 hb2; have HG4 := Aside0.mk hg4; have HX4 := Aside0.mk hbox2; have HB2 := Aside0.mk hb2; clear hg4 hbox2 hb2)
    | ((with_reducible refine gate_dst (N := 6) rfl ?_); refine box_event ?hg (N := 6) ?hd (cs := z64) (t := 89) ?hr ?_; (case hd => rfl); (case hg => rfl); (case hr => first | (go_simp; done) | (go_simp; rfl)); intro g6 hg6 w3 hbox3 hb3; have HG6 := Aside0.mk hg6; have HX6 := Aside0.mk hbox3; have HB3 := Aside0.mk hb3; clear hg6 hbox3 hb3; have HX4b := Aside0.mk (blk_below HX4.out HB3.out); have HX3b := Aside0.mk (blk_below (blk_below HX3.out HB2.out) HB3.out)))
  rw [← HN.out]
  have hn64 : (n : Int) ≤ 64 := by rw [HN.out]; split <;> omega
  have hn64' : n ≤ 64 := by omega
  have HCS : Aside0 ((encs (Value.int .u8) (wr.take n)).length = n) := ⟨by rw [encs_length, List.length_take, H2.out]; omega⟩
  have HSRC : Aside0 (∀ j v, (encs (Value.int .u8) (wr.take n))[j]? = some v → w3.drew.cell? ((⟨g4, 0, none⟩ : Addr).add j) = some v) := ⟨fun j v hv => by
    rw [Addr.add_mid, Nat.zero_add]
    have h_ := range_blk HX4b.out j v (by
      unfold encs at hv ⊢
      rw [List.map_take, List.getElem?_take] at hv
      split at hv
      · exact hv
      · cases hv)
    rw [Nat.zero_add] at h_
    exact h_⟩
  have HTH : Aside0 (w3.drew.there g3 0 (encs (Value.int .u8) (wr.take n)).length) := ⟨by rw [HCS.out]; exact there_blk (W := w3.drew) HX3b.out 0 n (by rw [List.size_toArray, encs_length, H1.out]; omega)⟩
  refine start_ (n := 5) (S := fun w' => True) (ds := [4]) #[false, false, false, false, false] (by kernel_rfl) rfl rfl trivial (fun hHeld => ?_)
  refine pure_ (i := 0) (N := some 20) (v := ?_) (a' := ?_) #[true, false, false, false, false] rfl rfl (by kernel_rfl) (fun _ _ _ h => h) (Or.inl ⟨by rfl, ?_⟩) ?_ ?_
  rotate_left
  · intro w'
    go_simp
    with_reducible rfl
  rotate_left
  · simp only [Act.put, List.setIfInBounds_toArray, List.set_cons_zero, List.set_cons_succ, i64_w, i32_w]
    rfl
  refine pure_ (i := 1) (N := some 21) (v := ?_) (a' := ?_) #[true, true, false, false, false] rfl rfl (by kernel_rfl) (fun _ _ _ h => h) (Or.inl ⟨by rfl, ?_⟩) ?_ ?_
  rotate_left
  · intro w'
    go_simp
    with_reducible rfl
  rotate_left
  · simp only [Act.put, List.setIfInBounds_toArray, List.set_cons_zero, List.set_cons_succ, i64_w, i32_w]
    rfl
  refine pure_ (i := 2) (N := some 22) (v := ?_) (a' := ?_) #[true, true, true, false, false] rfl rfl (by kernel_rfl) (fun _ _ _ h => h) (Or.inl ⟨by rfl, ?_⟩) ?_ ?_
  rotate_left
  · intro w'
    go_simp
    with_reducible rfl
  rotate_left
  · simp only [Act.put, List.setIfInBounds_toArray, List.set_cons_zero, List.set_cons_succ, i64_w, i32_w]
    rfl
  refine pure_ (i := 3) (N := some 23) (v := ?_) (a' := ?_) #[true, true, true, true, false] rfl rfl (by kernel_rfl) (fun _ _ _ h => h) (Or.inl ⟨by rfl, ?_⟩) ?_ ?_
  rotate_left
  · intro w'
    go_simp
    with_reducible rfl
  rotate_left
  · simp only [Act.put, List.setIfInBounds_toArray, List.set_cons_zero, List.set_cons_succ, i64_w, i32_w]
    rfl
  refine last_ (i := 4) (N := some 24) #[true, true, true, true, true] rfl rfl (by kernel_rfl) (by decide) (fun K hK => ?_)
  refine value_ (w1 := w3.drew.setCells g3 0 (encs (Value.int .u8) (wr.take n))) (v := goInt (encs (Value.int .u8) (wr.take n)).length) (by rfl) rfl ?_ ?_
  · exact copy_w 23 23 5 (.tmp 21) (.tmp 23) rfl g3 0 n 64 ⟨g4, 0, none⟩ n 64 (encs (Value.int .u8) (wr.take n)) rfl rfl Try.underlying23 (by kernel_rfl) (by rw [HCS.out]; exact (Nat.min_self n).symm) HSRC.out HTH.out (one_u8 _)
  refine hK.out _ _ ?_
  clear hK K
  refine norm_ (a' := ?_) ?_ ?_
  rotate_left
  · show Act.put _ (some 24) _ = _
    simp only [Act.put, List.setIfInBounds_toArray, List.set_cons_zero, List.set_cons_succ, i64_w, i32_w]
    rfl
  refine done_ (by kernel_rfl) ?_
  obtain ⟨w4, hw4⟩ : ∃ w4, w4 = w3.drew.setCells g3 0 (encs (Value.int .u8) (wr.take n)) := ⟨_, rfl⟩
  rw [← hw4]
  have fr4 : Fr w3 w4 (fun k => k = g3) := by
    rw [hw4]; exact Fr.setCells (F := fun k => k = g3) ((Fr.refl w3 _).drew) (.inl rfl) _ _
  have hg : g3 < g4 ∧ g4 < g6 ∧ w.heap.size ≤ g3 := by
    have h1 := HG3.out; have h2 := HG4.out; have h3 := HG6.out; have h4 := blk_lt HX3.out; have h5 := blk_lt HX4.out
    omega
  have hx3 : w4.heap[g3]? = some (.cells (encs (Value.int .u8) (wr.take n ++ old.drop n)).toArray 89 (0, 0)) := by
    obtain ⟨cur, h1, h2, h3⟩ := setCells_row (encs (Value.int .u8) (wr.take n)) 0 w3.drew (encs (Value.int .u8) old).toArray HX3b.out (by rw [HCS.out, List.size_toArray, encs_length, H1.out]; omega)
    rw [hw4, h1]
    have : cur = (encs (Value.int .u8) (wr.take n ++ old.drop n)).toArray := by
      apply Array.ext'
      rw [h3, HCS.out]
      unfold encs
      simp
    rw [this]
  have hx6 := fr4.blk HX6.out (by omega)
  have HX3c := Aside0.mk hx3
  have HX6c := Aside0.mk hx6
  have FR4 := Aside0.mk fr4
  have HGG := Aside0.mk hg
  have HL : Aside0 ((wr.take n ++ old.drop n).length = 64) := ⟨by rw [List.length_append, List.length_take, List.length_drop, H1.out, H2.out]; omega⟩
  clear hx3 hx6 fr4 hw4 hg
  obtain ⟨res, hres⟩ : ∃ r, r = wr.take n ++ old.drop n := ⟨_, rfl⟩
  rw [← hres] at HX3c HL
  have HRES := Aside0.mk hres
  clear hres
  go_wp2_with (first
    | (refine wpList_load_mid rfl 89 (.tmp 3) rfl g3 0 rfl (encs (Value.int .u8) res) _ (range_blk HX3c.out) Try.underlying89 rfl (by rw [encs_length, HL.out]; exact info89) ?_)
    | (refine wp_fill rfl 89 (.tmp 6) (.tmp 25) rfl g6 z64 89 (encs (Value.int .u8) res) HX6c.out rfl rfl (by rw [encs_length, HL.out]; rfl) info89 (one_u8 res) ?_; intro w5 hx5 hf5; have HX7 := Aside0.mk hx5; have HF5 := Aside0.mk hf5; clear hx5 hf5))
  (try simp only [Exit.inBlock, Exit.then])
  have hb : Below w.heap.size w w3 := below_step (below_step HB1.out HB2.out) HB3.out
  refine bodyPost_ret (results_cell_row rfl _ _ g6 89 _ (0, 0) _ rfl HX7.out Try.underlying89 rfl (by rw [List.size_toArray, encs_length, HL.out]; exact info89)) rfl ⟨by rw [← HRES.out], ?_⟩
  have hg := HGG.out
  have b4 := below_fr hb hb.size FR4.out (fun k hk => by rw [hk]; omega)
  exact below_fr b4 b4.size HF5.out (fun k hk => by rw [hk]; omega)
theorem left_calls (w : World) (old wr : List Int) (c : Int) (h1 : old.length = 64) (h2 : wr.length = 64) (hc : 0 ≤ c ∧ c ≤ 255) :
    Calls Try.prog 57 #[.agg (encs (Value.int .u8) old).toArray, .agg (encs (Value.int .u8) wr).toArray, .int .u8 c] w fun e w' => e = .returned (.agg (encs (Value.int .u8) (leftM old wr c)).toArray) ∧ Below w.heap.size w w' := by
  by_cases e0 : c % 3 = 0
  · rw [show leftM old wr c = wr from by unfold leftM; rw [if_pos e0]]
    exact left_0 w old wr c h1 h2 hc e0
  · by_cases e1 : c % 3 = 1
    · rw [show leftM old wr c = old from by unfold leftM; rw [if_neg e0, if_pos e1]]
      exact left_1 w old wr c h1 h2 hc e1
    · rw [show leftM old wr c = wr.take (min (c / 3) 64).toNat ++ old.drop (min (c / 3) 64).toNat from by unfold leftM; rw [if_neg e0, if_neg e1]]
      exact left_2 w old wr c h1 h2 hc (by omega) (min (c / 3) 64).toNat (by split <;> omega)
end Go.Proofs.Ytdnjjhdhldgcmaa.Sec
