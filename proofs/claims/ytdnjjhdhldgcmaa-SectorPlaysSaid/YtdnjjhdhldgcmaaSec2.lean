/- sector.Disk: Write. -/
import Derived.Test.YtdnjjhdhldgcmaaSecB
namespace Go.Proofs.Ytdnjjhdhldgcmaa.Sec
open Go.RowKit Go.Proofs.YtdnjjhdhldgcmaaW.PrintWords Go.Proofs.YtdnjjhdhldgcmaaW.PrintLast Go.Proofs.YtdnjjhdhldgcmaaW.PrintMore Go.Proofs.Ytdnjjhdhldgcmaa.Bs Go.Proofs.Ytdnjjhdhldgcmaa.Fr
set_option linter.unusedVariables false
set_option linter.unusedSimpArgs false

def tell (x : Int) : Int := if x = 0 then 0 else 8
theorem told_calls (x : Int) (w : World) : Calls Try.prog 55 #[.int .i64 x] w fun e w' => e = .returned (.int .i64 (tell x)) ∧ w = w' := by
  go_enter Try.func55, Try.ntmps55
  by_cases h : x = 0
  · subst h
    go_wp2
    go_ret
    exact ⟨rfl, rfl⟩
  · have h1 : (x == 0) = false := beq_eq_false_iff_ne.mpr h
    go_wp2
    go_ret
    refine ⟨?_, rfl⟩
    unfold tell
    simp only [h]
    rfl
theorem run_arr (gb cb : Nat) (w : World) : (Instr.arrayAt 89 (.slice (some ⟨gb, 0, none⟩) 64 cb)).run Try.prog w = .ok (.pointer (some ⟨gb, 0, none⟩)) w := by
  simp [Instr.arrayAt, run_underlying Try.underlying89, Result.andThen]
/-- What a Write that is not lost leaves. -/
def setNow (m : DM) (i : Nat) (b : List Int) : DM := ⟨m.sure, m.now.set i b, m.since, m.wait, m.ops⟩
def wrote (m : DM) (i : Nat) (b : List Int) : DM := ⟨m.sure, m.now.set i b, m.since ++ [((i : Int), b)], m.wait.tail, m.ops + 1⟩

set_option maxHeartbeats 1000000 in
set_option maxRecDepth 100000 in
theorem Write_done (w : World) (base g : Nat) (v0 v1 v2 v3 : Value) (m : DM) (h : DV w base g v0 v1 v2 v3 m) (ho : 0 ≤ m.ops ∧ m.ops ≤ 1000000000) (hs : m.since.length ≤ 1000000) (i : Nat) (hi : i < m.now.length)
    (gb cb : Nat) (b : List Int) (hb : b.length = 64) (hB : w.rangeAt gb 0 (encs (Value.int .u8) b)) (hx : outc m ≠ 1) (hg : base ≤ w.heap.size) (hgb : gb ≠ g) :
    Calls Try.prog 20 #[.pointer (some ⟨g, 0, none⟩), .int .i64 i, .slice (some ⟨gb, 0, none⟩) 64 cb] w fun e w' => e = .returned (.int .i64 (tell (outc m))) ∧
      ∃ v2' v3', DV w' base g v0 v1 v2' v3' (wrote m i b) ∧ Fr w w' (foot g v0 v1 v2 v3) ∧ (∀ k, foot g v0 v1 v2' v3' k → foot g v0 v1 v2 v3 k ∨ w.heap.size ≤ k) ∧ ∀ k, own v3' k → own v3 k := by
  have H := Aside0.mk h
  have HO := Aside0.mk ho
  have hi0 : ¬ ((i : Int) < 0) := by omega
  have hi1 : (i : Int) < (m.now.length : Int) := by omega
  have hn0 : ((m.now.length : Int) == 0) = false := beq_eq_false_iff_ne.mpr (by omega)
  have k5 : w.cell? ⟨g, 5, none⟩ = some (.func (.func 73) #[.pointer (some ⟨g, 0, none⟩)] #[]) := blk_cell h.blk 5
  have HBB := Aside0.mk hB
  obtain ⟨x, hxx⟩ : ∃ x, x = outc m := ⟨_, rfl⟩
  have HXX := Aside0.mk hxx
  have hx1 : (x != 1) = true := bne_iff_ne.mpr (by rw [hxx]; exact hx)
  have HLN := Aside0.mk hb
  have harr := run_arr gb cb
  clear h ho hi hB hx hxx hb
  have hcl : (Value.int .i64 (i : Int) :: encs (Value.int .u8) b).length = 65 := by rw [List.length_cons, encs_length, HLN.out]
  have HCL := Aside0.mk hcl
  clear hcl
  go_enter Try.func20, Try.ntmps20
  go_upto_region 8 with (first
    | (go_at_call 54; refine (Size_calls _ _ _ _ _ _ _ m H.out).mono ?_; rintro e w1 ⟨rfl, rfl⟩)
    | (go_at_call 73; refine (next_calls _ _ _ _ _ _ _ m H.out HO.out).mono ?_; rintro e w1 ⟨rfl, v3a, hd, hsub, hfr⟩; rw [← HXX.out]; have H1 := Aside0.mk hd; have HF1 := Aside0.mk hfr; have HV1 := Aside0.mk hsub; clear hd hfr hsub k5; have HB1 : Aside0 (w1.rangeAt gb 0 (encs (Value.int .u8) b)) := ⟨range_fr HBB.out HF1.out hgb⟩)
    | (refine wpList_load_mid rfl 89 (.tmp 34) rfl gb 0 rfl (encs (Value.int .u8) b) _ HB1.out Try.underlying89 rfl (by rw [encs_length, HLN.out]; exact info89) ?_)
    | (refine Kd.event_run rfl (build_w _ _ _ (.tmp 32) (.tmp 35) (i : Int) b HLN.out rfl rfl rfl) ?_)
    | ((with_reducible refine gate_dst (N := 8) rfl ?_); refine box_event ?hg (N := 8) ?hd (cs := Try.zeroCells91) (t := 91) ?hr ?_; (case hd => rfl); (case hg => rfl); (case hr => first | (go_simp; done) | (go_simp; rfl)); intro g8 hg8 w2 hbox hb; have HG8 := Aside0.mk hg8; have HX2 := Aside0.mk hbox; have HB2 := Aside0.mk hb; clear hg8 hbox hb)
    | (refine wp_fill rfl 91 (.tmp 8) (.tmp 36) rfl g8 Try.zeroCells91 91 (Value.int .i64 (i : Int) :: encs (Value.int .u8) b) HX2.out rfl rfl HCL.out info91 (one_w _ b) ?_; intro w3 hx3 hf3; have HX3 := Aside0.mk hx3; have HF3 := Aside0.mk hf3; clear hx3 hf3))
  have fr3 : Fr w1 w3 (fun k => k = g8) := by
    have := HB2.out
    exact (Fr.of_below this (fun k => k = g8)).trans HF3.out (fun k hk => .inl hk)
  have hn8 : w1.heap.size ≤ g8 := by rw [HG8.out]; exact Nat.le_refl _
  have d3 : DV w3 base g v0 v1 v2 v3a (took m) := H1.out.keep fr3 (fun q hq he => by have := H1.out.foot_lt q hq; omega)
  obtain ⟨go, co, hv1, gb', gl, cl, HG⟩ := Kd.R_form d3.now (by show 0 < m.now.length; omega)
  have hv1 : v1 = .slice (some ⟨go, 0, none⟩) m.now.length co := hv1
  subst hv1
  clear hv1
  have k1 : w3.cell? ⟨g, 1, none⟩ = some (.slice (some ⟨go, 0, none⟩) m.now.length co) := blk_cell d3.blk 1
  have HR8 : Aside0 (w3.rangeAt g8 1 (encs (Value.int .u8) b)) := ⟨range_part HX3.out⟩
  have hthere := (sector_at d3.now i (by show i < m.now.length; omega)).2.2
  have HT : Aside0 (w3.there go (i * 64) (encs (Value.int .u8) b).toArray.size) := ⟨by rw [List.size_toArray, encs_length, HLN.out]; exact hthere⟩
  have D3 := Aside0.mk d3
  have FR3 := Aside0.mk (And.intro fr3 hn8)
  clear fr3 hn8 d3 hthere gb' gl HG
  refine start_ (n := 9) (S := fun w' => w'.cell? ⟨g, 1, none⟩ = some (.slice (some ⟨go, 0, none⟩) m.now.length co) ∧ w'.rangeAt g8 1 (encs (Value.int .u8) b)) (ds := [8]) #[false, false, false, false, false, false, false, false, false] (by kernel_rfl) rfl rfl ⟨k1, HR8.out⟩ (fun hHeld => ?_)
  refine pure_ (i := 0) (N := some 37) (v := ?_) (a' := ?_) #[true, false, false, false, false, false, false, false, false] rfl rfl (by kernel_rfl) (fun _ _ _ h => h) (Or.inl ⟨by rfl, ?_⟩) ?_ ?_
  rotate_left
  · intro w'
    go_simp
    with_reducible rfl
  rotate_left
  · simp only [Act.put, List.setIfInBounds_toArray, List.set_cons_zero, List.set_cons_succ, i64_w, i32_w]
    rfl
  refine pure_ (i := 1) (N := some 38) (v := ?_) (a' := ?_) #[true, true, false, false, false, false, false, false, false] rfl rfl (by kernel_rfl) (fun _ _ _ h => h) (Or.inl ⟨by rfl, ?_⟩) ?_ ?_
  rotate_left
  · intro w'
    go_simp
    with_reducible rfl
  rotate_left
  · simp only [Act.put, List.setIfInBounds_toArray, List.set_cons_zero, List.set_cons_succ, i64_w, i32_w]
    rfl
  refine pure_ (i := 2) (N := some 39) (v := ?_) (a' := ?_) #[true, true, true, false, false, false, false, false, false] rfl rfl (by kernel_rfl) (fun _ _ _ h => h) (Or.inl ⟨by rfl, ?_⟩) ?_ ?_
  rotate_left
  · intro w'
    go_simp
    with_reducible rfl
  rotate_left
  · simp only [Act.put, List.setIfInBounds_toArray, List.set_cons_zero, List.set_cons_succ, i64_w, i32_w]
    rfl
  refine pure_ (i := 4) (N := some 41) (v := ?_) (a' := ?_) #[true, true, true, false, true, false, false, false, false] rfl rfl (by kernel_rfl) (fun _ _ _ h => h) (Or.inl ⟨by rfl, ?_⟩) ?_ ?_
  rotate_left
  · intro w'
    go_simp
    with_reducible rfl
  rotate_left
  · simp only [Act.put, List.setIfInBounds_toArray, List.set_cons_zero, List.set_cons_succ, i64_w, i32_w]
    rfl
  refine pure_ (i := 5) (N := some 42) (v := ?_) (a' := ?_) #[true, true, true, false, true, true, false, false, false] rfl rfl (by kernel_rfl) (fun _ _ _ h => h) (Or.inl ⟨by rfl, ?_⟩) ?_ ?_
  rotate_left
  · intro w'
    go_simp
    with_reducible rfl
  rotate_left
  · simp only [Act.put, List.setIfInBounds_toArray, List.set_cons_zero, List.set_cons_succ, i64_w, i32_w]
    rfl
  refine take_ (i := 3) (N := some 40) (v := ?_) (a' := ?_) #[true, true, true, true, true, true, false, false, false] rfl rfl (by kernel_rfl) (fun _ _ _ h => h) (Or.inl ⟨by rfl, ?_⟩) hHeld ?_ ?_
  rotate_left
  · rintro w' ⟨s0, s1⟩
    go_simp
    with_reducible rfl
  rotate_left
  · simp only [Act.put, List.setIfInBounds_toArray, List.set_cons_zero, List.set_cons_succ, i64_w, i32_w]
    rfl
  refine take_ (i := 6) (N := some 43) (v := (.agg (encs (Value.int .u8) b).toArray)) (a' := ?aa_1) #[true, true, true, true, true, true, true, false, false] rfl rfl (by kernel_rfl) (fun _ _ _ h => h) ?hy_1 hHeld ?ha_1 ?h_1
  case hy_1 => refine yieldsIf_load_mid (S := fun w' => w'.cell? ⟨g, 1, none⟩ = some (.slice (some ⟨go, 0, none⟩) m.now.length co) ∧ w'.rangeAt g8 1 (encs (Value.int .u8) b)) ?_ 89 (.tmp 42) rfl g8 1 rfl (encs (Value.int .u8) b) _ (fun w' s => s.2) Try.underlying89 rfl (by rw [encs_length, HLN.out]; exact info89); rfl
  case ha_1 => simp only [Act.put, List.setIfInBounds_toArray, List.set_cons_zero, List.set_cons_succ, i64_w, i32_w]; rfl
  refine pure_ (i := 7) (N := some 44) (v := ?_) (a' := ?_) #[true, true, true, true, true, true, true, true, false] rfl rfl (by kernel_rfl) (fun _ _ _ h => h) (Or.inl ⟨by rfl, ?_⟩) ?_ ?_
  rotate_left
  · intro w'
    go_simp
    with_reducible rfl
  rotate_left
  · simp only [Act.put, List.setIfInBounds_toArray, List.set_cons_zero, List.set_cons_succ, i64_w, i32_w]
    rfl
  refine last_ (i := 8) (N := none) #[true, true, true, true, true, true, true, true, true] rfl rfl (by kernel_rfl) (by decide) (fun K hK => ?_)
  refine skip_ (w1 := w3.drew.setCells go (i * 64) (encs (Value.int .u8) b)) (by rfl) rfl ?_ ?_
  · exact run_store_mid 89 (.tmp 44) (.tmp 43) rfl go (i * 64) (encs (Value.int .u8) b).toArray (by go_simp) rfl HT.out (by rw [List.size_toArray, encs_length, HLN.out]; exact info89) (all_oneCell_toArray (one_u8 b))
  refine hK.out _ _ ?_
  clear hK K
  refine done_ (by kernel_rfl) ?_
  obtain ⟨w4, hw4⟩ : ∃ w4, w4 = w3.drew.setCells go (i * 64) (encs (Value.int .u8) b) := ⟨_, rfl⟩
  rw [← hw4]
  have d4 : DV w4 base g v0 (.slice (some ⟨go, 0, none⟩) m.now.length co) v2 v3a (setNow (took m) i b) ∧ Fr w3 w4 (fun k => k = go) ∧ go ≠ g ∧ go < w1.heap.size := by
    have d3 : DV w3.drew base g v0 (.slice (some ⟨go, 0, none⟩) m.now.length co) v2 v3a (took m) := D3.out.keep ((Fr.refl w3 (fun _ => False)).drew) (fun _ _ h => h)
    have fr4 : Fr w3.drew w4 (fun k => k = go) := by
      rw [hw4]
      exact Fr.setCells (F := fun k => k = go) (Fr.refl w3.drew _) (.inl rfl) _ _
    have hgo : own (.slice (some ⟨go, 0, none⟩) m.now.length co) go := rfl
    have hne := d3.ne
    have hil : (i : Int) < ((m.now.length : Nat) : Int) := by omega
    have hseg : Kd.R kB 89 w4 base (fun _ => True) (.slice (some ⟨go, 0, none⟩) m.now.length co) (m.now.set i b) := by
      obtain ⟨cs, hcl, hM, hcc, _⟩ := Kd.R_elem d3.now zB i (by omega) hil
      have h_ := (Kd.R_seg (okp := fun k => True ∧ k ≠ go) d3.now (i : Int) (by omega) hil hcl hcc (j := 0) (seg := encs (Value.int .u8) b) (by rw [encs_length, HLN.out]; exact Nat.le_refl 64) (x' := b) (by
        rw [List.take_zero, List.nil_append, List.drop_of_length_le (by rw [hcl, encs_length, HLN.out]; exact Nat.le_refl 64), List.append_nil]
        exact Kd.arr_of_cells HLN.out) (fun _ hk => hk)).1
      rw [hw4]
      have e1 : (i : Int).toNat * kB.sz + 0 = i * 64 := by rw [Int.toNat_natCast]; rfl
      rw [e1, Int.toNat_natCast] at h_
      exact h_
    have hty : ∃ cells, w3.drew.heap[go]? = some (.cells cells 89 (0, 0)) := by
      obtain ⟨inner, ho⟩ := Kd.R_own d3.now
      exact own_typed ho go rfl
    obtain ⟨cells, hc⟩ := hty
    have hsince := R_fr d3.since rfl fr4 (fun k hk he => by subst he; exact Kd.R_ne d3.since hc (by decide) hk.symm)
    have hwait := Q_fr d3.wait rfl fr4 (fun k hk he => by subst he; exact Kd.Q_ne d3.wait hc (by decide) hk.symm)
    have hsure := R_fr d3.sure rfl fr4 (fun k hk he => d3.ap k hk (he ▸ hgo))
    have hblk := fr4.blk d3.blk (fun he => hne.2.1 (he ▸ hgo))
    have hl : (m.now.set i b).length = m.now.length := List.length_set
    have hlen : m.sure.length = (m.now.set i b).length := by rw [hl]; exact d3.len
    have hn1 : 1 ≤ (m.now.set i b).length := by rw [hl]; exact d3.n1
    have hn2 : (m.now.set i b).length ≤ 4096 := by rw [hl]; exact d3.n2
    have hat : ∀ p ∈ m.since, 0 ≤ p.1 ∧ p.1 < ((m.now.set i b).length : Int) := by rw [hl]; exact d3.at_
    exact ⟨⟨hblk, hsure, hseg, hsince, hwait, d3.ap, d3.byt, hlen, hn1, hn2, hat, d3.ge⟩, ((Fr.refl w3 (fun k => k = go)).drew).trans fr4 (fun k hk => .inl hk), fun he => hne.2.1 (he ▸ hgo), R_lt' H1.out.now hgo⟩
  have D4 := Aside0.mk d4
  have hx4 : w4.heap[g8]? = some (.cells (Value.int .i64 (i : Int) :: encs (Value.int .u8) b).toArray 91 (0, 0)) := d4.2.1.blk HX3.out (by have := d4.2.2.2; have := FR3.out.2; omega)
  obtain ⟨A2, c2, hv2⟩ := Kd.R_slice d4.1.since
  have k2 : w4.cell? ⟨g, 2, none⟩ = some v2 := blk_cell d4.1.blk 2
  have hv2 : v2 = .slice A2 m.since.length c2 := hv2
  subst hv2
  clear hv2
  have HR9 : Aside0 (w4.rangeAt g8 0 (Value.int .i64 (i : Int) :: encs (Value.int .u8) b)) := ⟨range_blk hx4⟩
  have f2 : w4.frozen? ⟨g, 2, none⟩ = false := blk_frozen d4.1.blk 2
  clear d4 hx4 k1 hHeld
  go_upto_region 9 with fail
  have HSI : Aside0 (Kd.R kW 91 w4.drew base (fun _ => True) (.slice A2 m.since.length c2) m.since) := ⟨Kd.R_drew D4.out.1.since⟩
  have HBS : Aside0 (base ≤ w4.drew.heap.size) := ⟨by
    have h1 := D4.out.2.1.size
    have h2 := FR3.out.1.size
    have h3 := HF1.out.size
    show base ≤ w4.heap.size
    omega⟩
  refine start_ (n := 11) (S := fun w' => w'.cell? ⟨g, 2, none⟩ = some (.slice A2 m.since.length c2) ∧ w'.rangeAt g8 0 (Value.int .i64 (i : Int) :: encs (Value.int .u8) b)) (ds := [7, 10]) #[false, false, false, false, false, false, false, false, false, false, false] (by kernel_rfl) rfl rfl ⟨k2, HR9.out⟩ (fun hHeld => ?_)
  refine pure_ (i := 0) (N := some 45) (v := ?_) (a' := ?_) #[true, false, false, false, false, false, false, false, false, false, false] rfl rfl (by kernel_rfl) (fun _ _ _ h => h) (Or.inl ⟨by rfl, ?_⟩) ?_ ?_
  rotate_left
  · intro w'
    go_simp
    with_reducible rfl
  rotate_left
  · simp only [Act.put, List.setIfInBounds_toArray, List.set_cons_zero, List.set_cons_succ, i64_w, i32_w]
    rfl
  refine pure_ (i := 1) (N := some 46) (v := ?_) (a' := ?_) #[true, true, false, false, false, false, false, false, false, false, false] rfl rfl (by kernel_rfl) (fun _ _ _ h => h) (Or.inl ⟨by rfl, ?_⟩) ?_ ?_
  rotate_left
  · intro w'
    go_simp
    with_reducible rfl
  rotate_left
  · simp only [Act.put, List.setIfInBounds_toArray, List.set_cons_zero, List.set_cons_succ, i64_w, i32_w]
    rfl
  refine pure_ (i := 2) (N := some 47) (v := ?_) (a' := ?_) #[true, true, true, false, false, false, false, false, false, false, false] rfl rfl (by kernel_rfl) (fun _ _ _ h => h) (Or.inl ⟨by rfl, ?_⟩) ?_ ?_
  rotate_left
  · intro w'
    go_simp
    with_reducible rfl
  rotate_left
  · simp only [Act.put, List.setIfInBounds_toArray, List.set_cons_zero, List.set_cons_succ, i64_w, i32_w]
    rfl
  refine pure_ (i := 3) (N := some 48) (v := ?_) (a' := ?_) #[true, true, true, true, false, false, false, false, false, false, false] rfl rfl (by kernel_rfl) (fun _ _ _ h => h) (Or.inl ⟨by rfl, ?_⟩) ?_ ?_
  rotate_left
  · intro w'
    go_simp
    with_reducible rfl
  rotate_left
  · simp only [Act.put, List.setIfInBounds_toArray, List.set_cons_zero, List.set_cons_succ, i64_w, i32_w]
    rfl
  refine take_ (i := 4) (N := some 49) (v := ?_) (a' := ?_) #[true, true, true, true, true, false, false, false, false, false, false] rfl rfl (by kernel_rfl) (fun _ _ _ h => h) (Or.inl ⟨by rfl, ?_⟩) hHeld ?_ ?_
  rotate_left
  · rintro w' ⟨s0, s1⟩
    go_simp
    with_reducible rfl
  rotate_left
  · simp only [Act.put, List.setIfInBounds_toArray, List.set_cons_zero, List.set_cons_succ, i64_w, i32_w]
    rfl
  refine take_ (i := 5) (N := some 50) (v := (.agg (Value.int .i64 (i : Int) :: encs (Value.int .u8) b).toArray)) (a' := ?aa_2) #[true, true, true, true, true, true, false, false, false, false, false] rfl rfl (by kernel_rfl) (fun _ _ _ h => h) ?hy_2 hHeld ?ha_2 ?h_2
  case hy_2 => exact yieldsIf_load_mid (by rfl) 91 (.tmp 8) rfl g8 0 rfl (Value.int .i64 (i : Int) :: encs (Value.int .u8) b) _ (fun w' s => s.2) Try.underlying91 rfl (by rw [HCL.out]; exact info91)
  case ha_2 => simp only [Act.put, List.setIfInBounds_toArray, List.set_cons_zero, List.set_cons_succ, i64_w, i32_w]; rfl
  refine one_ (i := 6) (N := some 51) #[true, true, true, true, true, true, true, false, false, false, false] rfl rfl (by kernel_rfl) (by decide) (fun K hK => ?_)
  refine value_ (w1 := w4.drew.alloc (.cells (Value.int .i64 (i : Int) :: encs (Value.int .u8) b).toArray 91)) (v := .slice (some ⟨w4.drew.heap.size, 0, none⟩) 1 1) (by rfl) rfl ?_ ?_
  · exact bs_w _ _ _ (.tmp 50) (Value.int .i64 (i : Int) :: encs (Value.int .u8) b) HCL.out rfl rfl
  refine hK.out _ _ ⟨(cell_alloc_old (w := w4.drew) k2 _), (World.rangeAt_alloc (w := w4.drew) HR9.out _)⟩ (fun hHeld => ?_)
  clear hK K
  refine norm_ (a' := ?_) ?_ ?_
  rotate_left
  · show Act.put _ (some 51) _ = _
    simp only [Act.put, List.setIfInBounds_toArray, List.set_cons_zero, List.set_cons_succ, i64_w, i32_w]
    rfl
  refine last_ (i := 7) (N := some 52) #[true, true, true, true, true, true, true, true, false, false, false] rfl rfl (by kernel_rfl) (by decide) (fun K hK => ?_)
  refine Kd.R_append_step kW (w0 := w4.drew) base (by rfl) (.tmp 49) (.tmp 51) 86 91 zW 72 rfl Try.underlying86 info91z rfl (by decide) (by decide) (.slice A2 m.since.length c2) m.since ((i : Int), b) (Value.int .i64 (i : Int) :: encs (Value.int .u8) b) (fun _ => True) (fun _ => False) rfl rfl (mW _ b HLN.out) (fun _ hk => hk.elim) (fun _ _ => trivial) HSI.out (Below.refl _ _) HBS.out (by omega) ?_
  intro v5 w5 ho hb5 hg5 hat5
  obtain ⟨A5, c5, rfl⟩ := Kd.R_slice ho
  have hl5 : (m.since ++ [((i : Int), b)]).length = m.since.length + 1 := by simp
  rw [hl5] at *
  have HR5 := Aside0.mk ho
  have HG5 := Aside0.mk hg5
  have HA5 := Aside0.mk hat5
  have HB5 := Aside0.mk hb5
  have n5 : some g ≠ (Value.slice A2 m.since.length c2).ownBlock := fun he => D4.out.1.ne.2.2.1 he.symm
  have b5 := blk_grown (w := w4.drew) D4.out.1.blk hg5 n5
  have k5 : w5.cell? ⟨g, 2, none⟩ = some (.slice A2 m.since.length c2) := blk_cell b5 2
  have f5 : w5.frozen? ⟨g, 2, none⟩ = false := blk_frozen b5 2
  have HX5 := Aside0.mk b5
  clear ho hb5 hg5 hat5 b5 hl5 n5
  refine hK.out _ _ ?_
  clear hK K
  refine norm_ (a' := ?_) ?_ ?_
  rotate_left
  · show Act.put _ (some 52) _ = _
    simp only [Act.put, List.setIfInBounds_toArray, List.set_cons_zero, List.set_cons_succ, i64_w, i32_w]
    rfl
  refine pure_ (i := 8) (N := some 53) (v := ?_) (a' := ?_) #[true, true, true, true, true, true, true, true, true, false, false] rfl rfl (by kernel_rfl) (fun _ _ _ h => h) (Or.inl ⟨by rfl, ?_⟩) ?_ ?_
  rotate_left
  · intro w'
    go_simp
    with_reducible rfl
  rotate_left
  · simp only [Act.put, List.setIfInBounds_toArray, List.set_cons_zero, List.set_cons_succ, i64_w, i32_w]
    rfl
  refine pure_ (i := 9) (N := some 54) (v := ?_) (a' := ?_) #[true, true, true, true, true, true, true, true, true, true, false] rfl rfl (by kernel_rfl) (fun _ _ _ h => h) (Or.inl ⟨by rfl, ?_⟩) ?_ ?_
  rotate_left
  · intro w'
    go_simp
    with_reducible rfl
  rotate_left
  · simp only [Act.put, List.setIfInBounds_toArray, List.set_cons_zero, List.set_cons_succ, i64_w, i32_w]
    rfl
  refine last_ (i := 10) (N := none) #[true, true, true, true, true, true, true, true, true, true, true] rfl rfl (by kernel_rfl) (by decide) (fun K hK => ?_)
  refine skip_ (w1 := w5.setCell ⟨g, 2, none⟩ (.slice A5 (m.since.length + 1) c5)) (by rfl) rfl ?_ ?_
  · first | (go_simp; done) | (go_simp; rfl)
  refine hK.out _ _ ?_
  clear hK K
  refine done_ (by kernel_rfl) ?_
  clear hHeld k2 f2 hw4 HSI HBS HR9 HR8 HT
  go_wp2_with (go_at_call 55; refine (told_calls x _).mono ?_; rintro e w6 ⟨rfl, rfl⟩)
  go_ret
  refine ⟨by rw [HXX.out]; rfl, .slice A5 (m.since.length + 1) c5, v3a, ?_⟩
  have hl5 : (m.since ++ [((i : Int), b)]).length = m.since.length + 1 := by simp
  have hr5 := HR5.out
  have ha5 := HA5.out
  rw [hl5] at hr5 ha5
  have d4 := D4.out.1
  obtain ⟨n0, n1, n2, n3⟩ := d4.ne
  have hgrow : Fr w4 w5 (own (.slice A2 m.since.length c2)) := ((Fr.refl w4 (own (.slice A2 m.since.length c2))).drew).grown HG5.out (fun k hk => .inl hk)
  have fs : Fr w5 (w5.setCell ⟨g, 2, none⟩ (.slice A5 (m.since.length + 1) c5)) (fun k => k = g) := Fr.set (g := g) (o := 2) (F := fun k => k = g) (Fr.refl w5 _) (.inl rfl) _
  have fr5 : Fr w4 (w5.setCell ⟨g, 2, none⟩ (.slice A5 (m.since.length + 1) c5)) (fun k => k = g ∨ own (.slice A2 m.since.length c2) k) := (hgrow.mono (fun k hk => .inr hk)).trans fs (fun k hk => .inl (.inl hk))
  have hty2 : ∀ k, own (.slice A2 m.since.length c2) k → ∃ cells, w4.heap[k]? = some (.cells cells 91 (0, 0)) := fun k hk => by
    obtain ⟨inner, ho⟩ := Kd.R_own d4.since
    exact own_typed ho k hk
  have a0 : ∀ k, own v0 k → ¬ (k = g ∨ own (.slice A2 m.since.length c2) k) := fun k hk he => he.elim (fun he => n0 (he ▸ hk)) (fun he => by
    obtain ⟨cells, hc⟩ := hty2 k he
    exact Kd.R_ne d4.sure hc (by decide) hk.symm)
  have a1 : ∀ k, own (.slice (some ⟨go, 0, none⟩) m.now.length co) k → ¬ (k = g ∨ own (.slice A2 m.since.length c2) k) := fun k hk he => he.elim (fun he => n1 (he ▸ hk)) (fun he => by
    obtain ⟨cells, hc⟩ := hty2 k he
    exact Kd.R_ne d4.now hc (by decide) hk.symm)
  have a3 : ∀ k, own v3a k → ¬ (k = g ∨ own (.slice A2 m.since.length c2) k) := fun k hk he => he.elim (fun he => n3 (he ▸ hk)) (fun he => by
    obtain ⟨cells, hc⟩ := hty2 k he
    exact Kd.Q_ne d4.wait hc (by decide) hk.symm)
  have hsz4 : w1.heap.size ≤ w4.heap.size := by have := D4.out.2.1.size; have := FR3.out.1.size; omega
  have hsz1 : w.heap.size ≤ w1.heap.size := HF1.out.size
  have a5 : ∀ k, own (.slice A5 (m.since.length + 1) c5) k → own (.slice A2 m.since.length c2) k ∨ w4.heap.size ≤ k := fun k hk => by
    rcases ha5 with ha | ⟨q, hq, hle⟩
    · left; show _ = some k; rw [← ha]; exact hk
    · right
      have : some q = some k := hq.symm.trans hk
      injection this with this
      subst this; exact hle
  have a5g : ∀ k, own (.slice A5 (m.since.length + 1) c5) k → ¬ k = g := fun k hk he => by
    rcases a5 k hk with h5 | h5
    · exact n2 (he ▸ h5)
    · have := blk_lt d4.blk; omega
  refine ⟨⟨blk_set HX5.out 2 _, R_fr d4.sure rfl fr5 a0, R_fr d4.now rfl fr5 a1, R_fr hr5 rfl fs a5g, Q_fr d4.wait rfl fr5 a3, d4.ap, d4.byt, d4.len, d4.n1, d4.n2, ?_, d4.ge⟩, ?_, ?_, HV1.out⟩
  · intro p hp
    rcases List.mem_append.1 hp with hp | hp
    · exact d4.at_ p hp
    · rw [List.mem_singleton.1 hp]
      show 0 ≤ (i : Int) ∧ (i : Int) < ((m.now.set i b).length : Int)
      rw [List.length_set]
      omega
  · have e1 : Fr w w1 (foot g v0 (.slice (some ⟨go, 0, none⟩) m.now.length co) (.slice A2 m.since.length c2) v3) := HF1.out.mono (fun k hk => .inl hk)
    have e2 := e1.trans FR3.out.1 (fun k hk => .inr (by rw [hk]; have := FR3.out.2; omega))
    have e3 := e2.trans D4.out.2.1 (fun k hk => .inl (.inr (.inr (.inl (by rw [hk]; rfl)))))
    exact e3.trans fr5 (fun k hk => .inl (hk.elim (fun h => .inl h) (fun h => .inr (.inr (.inr (.inl h))))))
  · rintro k (hk | hk | hk | hk | hk)
    · exact .inl (.inl hk)
    · exact .inl (.inr (.inl hk))
    · exact .inl (.inr (.inr (.inl hk)))
    · rcases a5 k hk with h5 | h5
      · exact .inl (.inr (.inr (.inr (.inl h5))))
      · exact .inr (by omega)
    · exact .inl (.inr (.inr (.inr (.inr (HV1.out k hk)))))
end Go.Proofs.Ytdnjjhdhldgcmaa.Sec
