/- sector.Disk: Crash. -/
import Derived.Test.YtdnjjhdhldgcmaaSec6
namespace Go.Proofs.Ytdnjjhdhldgcmaa.Sec
open Go.RowKit Go.Proofs.YtdnjjhdhldgcmaaW.PrintWords Go.Proofs.YtdnjjhdhldgcmaaW.PrintLast Go.Proofs.YtdnjjhdhldgcmaaW.PrintMore Go.Proofs.Ytdnjjhdhldgcmaa.Bs Go.Proofs.Ytdnjjhdhldgcmaa.Fr
set_option linter.unusedVariables false
set_option linter.unusedSimpArgs false

theorem range_below {w w' : World} {g o : Nat} {cs : List Value} (h : w.rangeAt g o cs) (hb : Below w.heap.size w w') : w'.rangeAt g o cs := fun j v hv => pw_cell_below hb (h j v hv)
/-- What is certain, with the first j writes laid over it as the choice says. -/
def crashTo (s : List (List Int)) (l : List (Int × List Int)) (ch : List Int) : Nat → List (List Int)
  | 0 => s
  | j + 1 => (crashTo s l ch j).set (l.getD j zP).1.toNat (leftM ((crashTo s l ch j).getD (l.getD j zP).1.toNat zB) (l.getD j zP).2 (ch.getD j 0))
theorem crashTo_len (s : List (List Int)) (l : List (Int × List Int)) (ch : List Int) (j : Nat) : (crashTo s l ch j).length = s.length := by
  induction j with
  | zero => rfl
  | succ j ih => show (List.set _ _ _).length = _; rw [List.length_set, ih]
theorem row_set {w : World} {base gs n cs : Nat} {xs : List (List Int)} (h : Kd.R kB 89 w base (fun _ => True) (.slice (some ⟨gs, 0, none⟩) n cs) xs) (q : Nat) (hq : q < n) (b : List Int) (hb : b.length = 64) :
    Kd.R kB 89 (w.setCells gs (q * 64) (encs (Value.int .u8) b)) base (fun _ => True) (.slice (some ⟨gs, 0, none⟩) n cs) (xs.set q b) := by
  obtain ⟨ce, hcl, hM, hcc, _⟩ := Kd.R_elem h zB q (by omega) (by omega)
  have h_ := (Kd.R_seg (okp := fun k => True ∧ k ≠ gs) h (q : Int) (by omega) (by omega) hcl hcc (j := 0) (seg := encs (Value.int .u8) b) (by rw [encs_length, hb]; exact Nat.le_refl 64) (x' := b) (by
    rw [List.take_zero, List.nil_append, List.drop_of_length_le (by rw [hcl, encs_length, hb]; exact Nat.le_refl 64), List.append_nil]
    exact Kd.arr_of_cells hb) (fun _ hk => hk)).1
  have e1 : (q : Int).toNat * kB.sz + 0 = q * 64 := by rw [Int.toNat_natCast]; rfl
  rw [e1, Int.toNat_natCast] at h_
  exact h_
/-- A disk of its own. -/
def crashed (m : DM) (ch : List Int) : DM := ⟨crashTo m.sure m.since ch m.since.length, crashTo m.sure m.since ch m.since.length, [], [], 0⟩

set_option maxHeartbeats 2000000 in
set_option maxRecDepth 100000 in
theorem Crash_calls (w : World) (base g : Nat) (v0 v1 v2 v3 : Value) (m : DM) (h : DV w base g v0 v1 v2 v3 m) (hs : m.since.length ≤ 1000000) (A : Option Addr) (c : Nat) (l : List Int) (hC : Kd.C (Kd.int .u8) w A l.length l) (hc : l.length ≤ c) (hby : ∀ x ∈ l, 0 ≤ x ∧ x ≤ 255) :
    Calls Try.prog 22 #[.pointer (some ⟨g, 0, none⟩), .slice A l.length c] w fun e w' => ∃ g' v0' v1', e = .returned (.pointer (some ⟨g', 0, none⟩)) ∧ DV w' w.heap.size g' v0' v1' (.slice none 0 0) (.slice none 0 0) (crashed m l) ∧ Below w.heap.size w w' := by
  have H := Aside0.mk h
  have hn0 : ((m.now.length : Int) == 0) = false := beq_eq_false_iff_ne.mpr (by have := h.n1; omega)
  obtain ⟨A0, c0, hv0⟩ := Kd.R_slice h.sure
  have hl := h.len
  rw [hl] at hv0
  subst hv0
  obtain ⟨A2, c2, hv2⟩ := Kd.R_slice h.since
  subst hv2
  have k0 : w.cell? ⟨g, 0, none⟩ = some (.slice A0 m.now.length c0) := blk_cell h.blk 0
  have HSL := Aside0.mk hs
  have HC := Aside0.mk hC
  have HBY := Aside0.mk hby
  have HNN := Aside0.mk (And.intro h.n1 h.n2)
  have HLE := Aside0.mk hl
  have HSR : Aside0 (Kd.R kB 89 w base (fun _ => True) (.slice A0 m.now.length c0) m.sure) := ⟨h.sure⟩
  clear h hs hC hby hl
  go_enter Try.func22, Try.ntmps22
  go_upto_region 4 with (first
    | (go_at_call 54; refine (Size_calls _ _ _ _ _ _ _ m H.out).mono ?_; rintro e w1 ⟨rfl, rfl⟩)
    | ((with_reducible refine gate_builtin (b := .append) (xs := #[.const (.slice none 0 0), .tmp 15]) rfl ?_); at_builtin; refine Kd.R_append_rows kB (Rr := kB.K w) (w0 := w) w.heap.size rfl (.const (.slice none 0 0)) (.tmp 15) 85 89 zBv 64 rfl Try.underlying85 info89z rfl (by decide) (by decide) (.slice none 0 0) [] m.sure A0 m.now.length c0 (fun _ => True) (fun _ => False) rfl rfl (Kd.R_nil _ _ _ _ _) (by have h_ := (Kd.R_reads' HSR.out).2.2; rw [HLE.out] at h_; exact h_) (fun x cs hK => kB_M hK) (fun _ hk => hk.elim) (fun _ _ => trivial) (Below.refl _ _) (Nat.le_refl _) (by have := HNN.out.2; simp; omega) ?_; intro v5 w1 ho hb1 hg1 hat1; rw [List.nil_append] at ho; have HO := Aside0.mk ho; have HB1 := Aside0.mk hb1; clear ho hb1 hg1 hat1 k0))
  obtain ⟨go5, co5, hv5, gb', gl, cl, HG⟩ := Kd.R_form HO.out (by have := HNN.out.1; have := HLE.out; omega)
  rw [HLE.out] at hv5
  subst hv5
  clear gb' gl HG
  have H1 : Aside0 (DV w1 base g (.slice A0 m.now.length c0) v1 (.slice A2 m.since.length c2) v3 m) := ⟨H.out.below HB1.out⟩
  have k2 : w1.cell? ⟨g, 2, none⟩ = some (.slice A2 m.since.length c2) := blk_cell H1.out.blk 2
  go_wp2_with fail
  clear k2
  go_loopg [22] m.since.length (fun r v22 wr => ∃ (j : Nat), v22 = .int .i64 j ∧ Aside0 (r + j = m.since.length) ∧ Aside0 (Kd.R kB 89 wr w.heap.size (fun _ => True) (.slice (some ⟨go5, 0, none⟩) m.now.length co5) (crashTo m.sure m.since l j) ∧ Below w.heap.size w wr))
  case atStart => exact ⟨0, rfl, ⟨by omega⟩, ⟨HO.out, HB1.out⟩⟩
  case round =>
    obtain ⟨j, rfl, hq, hat⟩ := hrel
    by_cases hj : j < m.since.length
    · have hj1 : decide ((j : Int) < (m.since.length : Int)) = true := decide_eq_true (by omega)
      have dd := H.out.below hat.out.2
      obtain ⟨go2, co2, hv2, gb', gl, cl2, HG⟩ := Kd.R_form dd.since (by omega)
      injection hv2 with hA2 hA3 hA4
      subst hA2
      subst hA4
      clear hA3
      obtain ⟨p1, p2⟩ := write_at dd.since j hj
      have hmem : m.since.getD j zP ∈ m.since := by rw [List.getD_eq_getElem?_getD, List.getElem?_eq_getElem hj]; exact List.getElem_mem hj
      have hpq := dd.at_ _ hmem
      have hsn : crashTo m.sure m.since l (j + 1) = (crashTo m.sure m.since l j).set (m.since.getD j zP).1.toNat (leftM ((crashTo m.sure m.since l j).getD (m.since.getD j zP).1.toNat zB) (m.since.getD j zP).2 (l.getD j 0)) := rfl
      generalize (m.since.getD j zP) = pb at *
      obtain ⟨p, b⟩ := pb
      simp only at p1 p2 hpq hsn
      obtain ⟨q, rfl⟩ := Int.eq_ofNat_of_zero_le hpq.1
      have hqn : q < m.now.length := by omega
      have hq1 : (q : Int) < (m.now.length : Int) := hpq.2
      rw [Int.toNat_natCast] at hsn
      obtain ⟨s1, s2, s3⟩ := sector_at hat.out.1 q hqn
      obtain ⟨old, hold⟩ : ∃ old, old = (crashTo m.sure m.since l j).getD q zB := ⟨_, rfl⟩
      obtain ⟨cc, hcc⟩ : ∃ cc, cc = l.getD j 0 := ⟨_, rfl⟩
      rw [← hold] at s1 s2 hsn
      rw [← hcc] at hsn
      have HLO := Aside0.mk s1
      have HS2 := Aside0.mk s2
      have HLN := Aside0.mk p1
      have HP2 := Aside0.mk p2
      have HSN := Aside0.mk hsn
      have HCC := Aside0.mk hcc
      have HCR : Aside0 (0 ≤ cc ∧ cc ≤ 255) := ⟨by
        rw [hcc, List.getD_eq_getElem?_getD]
        cases hx : l[j]? with
        | none => simp
        | some x => exact HBY.out x (List.mem_of_getElem? hx)⟩
      have hcl : (Value.int .i64 (q : Int) :: encs (Value.int .u8) b).length = 65 := by rw [List.length_cons, encs_length, p1]
      have HCL := Aside0.mk hcl
      clear p1 p2 hsn hcl hmem gb' gl HG dd s1 s2 s3 hold hcc
      by_cases hjl : j < l.length
      · have hjl1 : (j : Int) < (l.length : Int) := by omega
        obtain ⟨ad, hA, hx⟩ := (Kd.reads_of_C (d := (0 : Int)) HC.out).at_ j (by omega) (by omega)
        subst hA
        have hrd : rdOf 0 l (j : Int) = cc := by rw [HCC.out]; unfold rdOf; rw [Int.toNat_natCast]
        rw [hrd, Int.toNat_natCast] at hx
        have HXC := Aside0.mk hx
        clear hrd hx
        go_upto_region 10 with (first
          | (refine wpList_load_mid rfl 91 (.tmp 25) rfl go2 (j * 65) ?_ (Value.int .i64 (q : Int) :: encs (Value.int .u8) b) _ HP2.out Try.underlying91 rfl (by rw [HCL.out]; exact info91) ?_; (focus (go_simp; done)))
          | ((with_reducible refine gate_dst (N := 7) rfl ?_); refine box_event ?hg (N := 7) ?hd (cs := Try.zeroCells91) (t := 91) ?hr ?_; (case hd => rfl); (case hg => rfl); (case hr => first | (go_simp; done) | (go_simp; rfl)); intro g7 hg7 w2 hbox hb; have HG7 := Aside0.mk hg7; have HX2 := Aside0.mk hbox; have HB2 := Aside0.mk hb; clear hg7 hbox hb)
          | (refine wp_fill rfl 91 (.tmp 7) (.tmp 26) rfl g7 Try.zeroCells91 91 (Value.int .i64 (q : Int) :: encs (Value.int .u8) b) HX2.out rfl rfl HCL.out info91 (one_w _ b) ?_; intro w3 hx3 hf3; have HX3 := Aside0.mk hx3; have HF3 := Aside0.mk hf3; clear hx3 hf3; have HB3 : Aside0 (Below w.heap.size w w3) := ⟨below_fr (below_step hat.out.2 HB2.out) (below_step hat.out.2 HB2.out).size HF3.out (fun k hk => by rw [hk, HG7.out]; exact hat.out.2.size)⟩; have hxc := pw_cell_below HB3.out HXC.out))
        clear hxc
        have fr3 : Fr wr w3 (fun k => k = g7) := (Fr.of_below HB2.out (fun k => k = g7)).trans HF3.out (fun k hk => .inl hk)
        have hn7 : wr.heap.size ≤ g7 := by rw [HG7.out]; exact Nat.le_refl _
        have HR3 : Aside0 (Kd.R kB 89 w3 w.heap.size (fun _ => True) (.slice (some ⟨go5, 0, none⟩) m.now.length co5) (crashTo m.sure m.since l j)) := ⟨R_fr hat.out.1 rfl fr3 (fun k hk he => by have := R_lt' hat.out.1 hk; omega)⟩
        have HRO : Aside0 (w3.rangeAt go5 (q * 64) (encs (Value.int .u8) old)) := ⟨range_fr HS2.out fr3 (fun he => by have := R_lt' hat.out.1 (k := go5) rfl; omega)⟩
        have k7 : w3.cell? ⟨g7, 0, none⟩ = some (.int .i64 (q : Int)) := by rw [blk_cell HX3.out 0]; simp
        have HR7 : Aside0 (w3.rangeAt g7 1 (encs (Value.int .u8) b)) := ⟨range_part HX3.out⟩
        clear fr3 hn7
        refine start_ (n := 14) (S := fun w' => w'.cell? ⟨g7, 0, none⟩ = some (.int .i64 (q : Int)) ∧ w'.rangeAt g7 1 (encs (Value.int .u8) b) ∧ w'.rangeAt go5 (q * 64) (encs (Value.int .u8) old)) (ds := [13]) #[false, false, false, false, false, false, false, false, false, false, false, false, false, false] (by kernel_rfl) rfl rfl ⟨k7, HR7.out, HRO.out⟩ (fun hHeld => ?_)
        refine pure_ (i := 0) (N := some 35) (v := ?_) (a' := ?_) #[true, false, false, false, false, false, false, false, false, false, false, false, false, false] rfl rfl (by kernel_rfl) (fun _ _ _ h => h) (Or.inl ⟨by rfl, ?_⟩) ?_ ?_
        rotate_left
        · intro w'
          go_simp
          with_reducible rfl
        rotate_left
        · simp only [Act.put, List.setIfInBounds_toArray, List.set_cons_zero, List.set_cons_succ, i64_w, i32_w]
          rfl
        refine pure_ (i := 1) (N := some 36) (v := ?_) (a' := ?_) #[true, true, false, false, false, false, false, false, false, false, false, false, false, false] rfl rfl (by kernel_rfl) (fun _ _ _ h => h) (Or.inl ⟨by rfl, ?_⟩) ?_ ?_
        rotate_left
        · intro w'
          go_simp
          with_reducible rfl
        rotate_left
        · simp only [Act.put, List.setIfInBounds_toArray, List.set_cons_zero, List.set_cons_succ, i64_w, i32_w]
          rfl
        refine pure_ (i := 3) (N := some 38) (v := ?_) (a' := ?_) #[true, true, false, true, false, false, false, false, false, false, false, false, false, false] rfl rfl (by kernel_rfl) (fun _ _ _ h => h) (Or.inl ⟨by rfl, ?_⟩) ?_ ?_
        rotate_left
        · intro w'
          go_simp
          with_reducible rfl
        rotate_left
        · simp only [Act.put, List.setIfInBounds_toArray, List.set_cons_zero, List.set_cons_succ, i64_w, i32_w]
          rfl
        refine pure_ (i := 4) (N := some 39) (v := ?_) (a' := ?_) #[true, true, false, true, true, false, false, false, false, false, false, false, false, false] rfl rfl (by kernel_rfl) (fun _ _ _ h => h) (Or.inl ⟨by rfl, ?_⟩) ?_ ?_
        rotate_left
        · intro w'
          go_simp
          with_reducible rfl
        rotate_left
        · simp only [Act.put, List.setIfInBounds_toArray, List.set_cons_zero, List.set_cons_succ, i64_w, i32_w]
          rfl
        refine pure_ (i := 8) (N := some 43) (v := ?_) (a' := ?_) #[true, true, false, true, true, false, false, false, true, false, false, false, false, false] rfl rfl (by kernel_rfl) (fun _ _ _ h => h) (Or.inl ⟨by rfl, ?_⟩) ?_ ?_
        rotate_left
        · intro w'
          go_simp
          with_reducible rfl
        rotate_left
        · simp only [Act.put, List.setIfInBounds_toArray, List.set_cons_zero, List.set_cons_succ, i64_w, i32_w]
          rfl
        refine pure_ (i := 10) (N := some 45) (v := ?_) (a' := ?_) #[true, true, false, true, true, false, false, false, true, false, true, false, false, false] rfl rfl (by kernel_rfl) (fun _ _ _ h => h) (Or.inl ⟨by rfl, ?_⟩) ?_ ?_
        rotate_left
        · intro w'
          go_simp
          with_reducible rfl
        rotate_left
        · simp only [Act.put, List.setIfInBounds_toArray, List.set_cons_zero, List.set_cons_succ, i64_w, i32_w]
          rfl
        refine take_ (i := 2) (N := some 37) (v := ?_) (a' := ?_) #[true, true, true, true, true, false, false, false, true, false, true, false, false, false] rfl rfl (by kernel_rfl) (fun _ _ _ h => h) (Or.inl ⟨by rfl, ?_⟩) hHeld ?_ ?_
        rotate_left
        · rintro w' ⟨s0, s1, s2⟩
          go_simp
          with_reducible rfl
        rotate_left
        · simp only [Act.put, List.setIfInBounds_toArray, List.set_cons_zero, List.set_cons_succ, i64_w, i32_w]
          rfl
        refine take_ (i := 5) (N := some 40) (v := ?_) (a' := ?_) #[true, true, true, true, true, true, false, false, true, false, true, false, false, false] rfl rfl (by kernel_rfl) (fun _ _ _ h => h) (Or.inl ⟨by rfl, ?_⟩) hHeld ?_ ?_
        rotate_left
        · rintro w' ⟨s0, s1, s2⟩
          go_simp
          with_reducible rfl
        rotate_left
        · simp only [Act.put, List.setIfInBounds_toArray, List.set_cons_zero, List.set_cons_succ, i64_w, i32_w]
          rfl
        refine pure_ (i := 6) (N := some 41) (v := ?_) (a' := ?_) #[true, true, true, true, true, true, true, false, true, false, true, false, false, false] rfl rfl (by kernel_rfl) (fun _ _ _ h => h) (Or.inl ⟨by rfl, ?_⟩) ?_ ?_
        rotate_left
        · intro w'
          go_simp
          with_reducible rfl
        rotate_left
        · simp only [Act.put, List.setIfInBounds_toArray, List.set_cons_zero, List.set_cons_succ, i64_w, i32_w]
          rfl
        refine take_ (i := 7) (N := some 42) (v := (.agg (encs (Value.int .u8) old).toArray)) (a' := ?aa_2) #[true, true, true, true, true, true, true, true, true, false, true, false, false, false] rfl rfl (by kernel_rfl) (fun _ _ _ h => h) ?hy_2 hHeld ?ha_2 ?h_2
        case hy_2 => exact yieldsIf_load_mid (by rfl) 89 (.tmp 41) rfl go5 (q * 64) rfl (encs (Value.int .u8) old) _ (fun w' s => s.2.2) Try.underlying89 rfl (by rw [encs_length, HLO.out]; exact info89)
        case ha_2 => simp only [Act.put, List.setIfInBounds_toArray, List.set_cons_zero, List.set_cons_succ, i64_w, i32_w]; rfl
        refine take_ (i := 9) (N := some 44) (v := (.agg (encs (Value.int .u8) b).toArray)) (a' := ?aa_1) #[true, true, true, true, true, true, true, true, true, true, true, false, false, false] rfl rfl (by kernel_rfl) (fun _ _ _ h => h) ?hy_1 hHeld ?ha_1 ?h_1
        case hy_1 => exact yieldsIf_load_mid (by rfl) 89 (.tmp 43) rfl g7 1 rfl (encs (Value.int .u8) b) _ (fun w' s => s.2.1) Try.underlying89 rfl (by rw [encs_length, HLN.out]; exact info89)
        case ha_1 => simp only [Act.put, List.setIfInBounds_toArray, List.set_cons_zero, List.set_cons_succ, i64_w, i32_w]; rfl
        refine one_ (i := 11) (N := some 46) #[true, true, true, true, true, true, true, true, true, true, true, true, false, false] rfl rfl (by kernel_rfl) (by decide) (fun K hK => ?_)
        refine goes_ Try.func57 (by kernel_rfl) rfl #[.agg (encs (Value.int .u8) old).toArray, .agg (encs (Value.int .u8) b).toArray, .int .u8 cc] (by rfl) rfl rfl (by simp only [List.map_toArray, List.map_cons, List.map_nil]; rfl) ?_
        with_reducible refine (left_calls _ old b cc HLO.out HLN.out HCR.out).mono ?_
        rintro e w5 ⟨rfl, hb5⟩
        refine ⟨_, rfl, ?_⟩
        have HB5 := Aside0.mk hb5
        clear hb5
        refine hK.out _ _ ⟨(pw_cell_below HB5.out k7), (range_below (w := w3.drew) HR7.out HB5.out), (range_below (w := w3.drew) HRO.out HB5.out)⟩ (fun hHeld => ?_)
        clear hK K
        refine norm_ (a' := ?_) ?_ ?_
        rotate_left
        · show Act.put _ (some 46) _ = _
          simp only [Act.put, List.setIfInBounds_toArray, List.set_cons_zero, List.set_cons_succ, i64_w, i32_w]
          rfl
        refine pure_ (i := 12) (N := some 47) (v := ?_) (a' := ?_) #[true, true, true, true, true, true, true, true, true, true, true, true, true, false] rfl rfl (by kernel_rfl) (fun _ _ _ h => h) (Or.inl ⟨by rfl, ?_⟩) ?_ ?_
        rotate_left
        · intro w'
          go_simp
          with_reducible rfl
        rotate_left
        · simp only [Act.put, List.setIfInBounds_toArray, List.set_cons_zero, List.set_cons_succ, i64_w, i32_w]
          rfl
        refine last_ (i := 13) (N := none) #[true, true, true, true, true, true, true, true, true, true, true, true, true, true] rfl rfl (by kernel_rfl) (by decide) (fun K hK => ?_)
        have HT5 : Aside0 (w5.there go5 (q * 64) (encs (Value.int .u8) (leftM old b cc)).toArray.size) := ⟨by rw [List.size_toArray, encs_length, leftM_len HLO.out HLN.out]; exact (sector_at (Kd.R_below (w := w3.drew) HR3.out HB5.out) q hqn).2.2⟩
        refine skip_ (w1 := w5.setCells go5 (q * 64) (encs (Value.int .u8) (leftM old b cc))) (by rfl) rfl ?_ ?_
        · exact run_store_mid 89 (.tmp 47) (.tmp 46) rfl go5 (q * 64) (encs (Value.int .u8) (leftM old b cc)).toArray (by go_simp) rfl HT5.out (by rw [List.size_toArray, encs_length, leftM_len HLO.out HLN.out]; exact info89) (all_oneCell_toArray (one_u8 _))
        refine hK.out _ _ ?_
        clear hK K
        refine done_ (by kernel_rfl) ?_
        obtain ⟨w6, hw6⟩ : ∃ w6, w6 = w5.setCells go5 (q * 64) (encs (Value.int .u8) (leftM old b cc)) := ⟨_, rfl⟩
        rw [← hw6]
        have fr6 : Fr w5 w6 (fun k => k = go5) := by rw [hw6]; exact Fr.setCells (F := fun k => k = go5) (Fr.refl w5 _) (.inl rfl) _ _
        have hr5 : Kd.R kB 89 w5 w.heap.size (fun _ => True) (.slice (some ⟨go5, 0, none⟩) m.now.length co5) (crashTo m.sure m.since l j) := Kd.R_below (w := w3.drew) HR3.out HB5.out
        have hr6 : Kd.R kB 89 w6 w.heap.size (fun _ => True) (.slice (some ⟨go5, 0, none⟩) m.now.length co5) (crashTo m.sure m.since l (j + 1)) := by
          rw [HSN.out, hw6]
          exact row_set hr5 q hqn (leftM old b cc) (leftM_len HLO.out HLN.out _)
        have hb6 : Below w.heap.size w w6 := by
          have h1 : Below w.heap.size w w3.drew := HB3.out.drew
          have h2 := below_step h1 HB5.out
          exact below_fr h2 h2.size fr6 (fun k hk => by rw [hk]; exact R_ge hr5 rfl)
        have D6 := Aside0.mk (And.intro hr6 hb6)
        clear hr5 hr6 hb6 fr6 hw6 k7 hHeld
        go_wp2_with fail
        go_roundg (m.since.length - (j + 1))
        case measure => have := hq.out; omega
        case rel => exact ⟨j + 1, by have := HSL.out; rw [show wrap64 ((j : Int) + 1) = ((j + 1 : Nat) : Int) from by unfold wrap64; omega], ⟨by omega⟩, D6⟩
      · have hjl1 : ¬ ((j : Int) < (l.length : Int)) := by omega
        have hc0 : cc = 0 := by rw [HCC.out, List.getD_eq_getElem?_getD, List.getElem?_eq_none (by omega)]; rfl
        subst hc0
        go_upto_region 10 with (first
          | (refine wpList_load_mid rfl 91 (.tmp 25) rfl go2 (j * 65) ?_ (Value.int .i64 (q : Int) :: encs (Value.int .u8) b) _ HP2.out Try.underlying91 rfl (by rw [HCL.out]; exact info91) ?_; (focus (go_simp; done)))
          | ((with_reducible refine gate_dst (N := 7) rfl ?_); refine box_event ?hg (N := 7) ?hd (cs := Try.zeroCells91) (t := 91) ?hr ?_; (case hd => rfl); (case hg => rfl); (case hr => first | (go_simp; done) | (go_simp; rfl)); intro g7 hg7 w2 hbox hb; have HG7 := Aside0.mk hg7; have HX2 := Aside0.mk hbox; have HB2 := Aside0.mk hb; clear hg7 hbox hb)
          | (refine wp_fill rfl 91 (.tmp 7) (.tmp 26) rfl g7 Try.zeroCells91 91 (Value.int .i64 (q : Int) :: encs (Value.int .u8) b) HX2.out rfl rfl HCL.out info91 (one_w _ b) ?_; intro w3 hx3 hf3; have HX3 := Aside0.mk hx3; have HF3 := Aside0.mk hf3; clear hx3 hf3; have HB3 : Aside0 (Below w.heap.size w w3) := ⟨below_fr (below_step hat.out.2 HB2.out) (below_step hat.out.2 HB2.out).size HF3.out (fun k hk => by rw [hk, HG7.out]; exact hat.out.2.size)⟩))
        have fr3 : Fr wr w3 (fun k => k = g7) := (Fr.of_below HB2.out (fun k => k = g7)).trans HF3.out (fun k hk => .inl hk)
        have hn7 : wr.heap.size ≤ g7 := by rw [HG7.out]; exact Nat.le_refl _
        have HR3 : Aside0 (Kd.R kB 89 w3 w.heap.size (fun _ => True) (.slice (some ⟨go5, 0, none⟩) m.now.length co5) (crashTo m.sure m.since l j)) := ⟨R_fr hat.out.1 rfl fr3 (fun k hk he => by have := R_lt' hat.out.1 hk; omega)⟩
        have HRO : Aside0 (w3.rangeAt go5 (q * 64) (encs (Value.int .u8) old)) := ⟨range_fr HS2.out fr3 (fun he => by have := R_lt' hat.out.1 (k := go5) rfl; omega)⟩
        have k7 : w3.cell? ⟨g7, 0, none⟩ = some (.int .i64 (q : Int)) := by rw [blk_cell HX3.out 0]; simp
        have HR7 : Aside0 (w3.rangeAt g7 1 (encs (Value.int .u8) b)) := ⟨range_part HX3.out⟩
        clear fr3 hn7
        refine start_ (n := 14) (S := fun w' => w'.cell? ⟨g7, 0, none⟩ = some (.int .i64 (q : Int)) ∧ w'.rangeAt g7 1 (encs (Value.int .u8) b) ∧ w'.rangeAt go5 (q * 64) (encs (Value.int .u8) old)) (ds := [13]) #[false, false, false, false, false, false, false, false, false, false, false, false, false, false] (by kernel_rfl) rfl rfl ⟨k7, HR7.out, HRO.out⟩ (fun hHeld => ?_)
        refine pure_ (i := 0) (N := some 35) (v := ?_) (a' := ?_) #[true, false, false, false, false, false, false, false, false, false, false, false, false, false] rfl rfl (by kernel_rfl) (fun _ _ _ h => h) (Or.inl ⟨by rfl, ?_⟩) ?_ ?_
        rotate_left
        · intro w'
          go_simp
          with_reducible rfl
        rotate_left
        · simp only [Act.put, List.setIfInBounds_toArray, List.set_cons_zero, List.set_cons_succ, i64_w, i32_w]
          rfl
        refine pure_ (i := 1) (N := some 36) (v := ?_) (a' := ?_) #[true, true, false, false, false, false, false, false, false, false, false, false, false, false] rfl rfl (by kernel_rfl) (fun _ _ _ h => h) (Or.inl ⟨by rfl, ?_⟩) ?_ ?_
        rotate_left
        · intro w'
          go_simp
          with_reducible rfl
        rotate_left
        · simp only [Act.put, List.setIfInBounds_toArray, List.set_cons_zero, List.set_cons_succ, i64_w, i32_w]
          rfl
        refine pure_ (i := 3) (N := some 38) (v := ?_) (a' := ?_) #[true, true, false, true, false, false, false, false, false, false, false, false, false, false] rfl rfl (by kernel_rfl) (fun _ _ _ h => h) (Or.inl ⟨by rfl, ?_⟩) ?_ ?_
        rotate_left
        · intro w'
          go_simp
          with_reducible rfl
        rotate_left
        · simp only [Act.put, List.setIfInBounds_toArray, List.set_cons_zero, List.set_cons_succ, i64_w, i32_w]
          rfl
        refine pure_ (i := 4) (N := some 39) (v := ?_) (a' := ?_) #[true, true, false, true, true, false, false, false, false, false, false, false, false, false] rfl rfl (by kernel_rfl) (fun _ _ _ h => h) (Or.inl ⟨by rfl, ?_⟩) ?_ ?_
        rotate_left
        · intro w'
          go_simp
          with_reducible rfl
        rotate_left
        · simp only [Act.put, List.setIfInBounds_toArray, List.set_cons_zero, List.set_cons_succ, i64_w, i32_w]
          rfl
        refine pure_ (i := 8) (N := some 43) (v := ?_) (a' := ?_) #[true, true, false, true, true, false, false, false, true, false, false, false, false, false] rfl rfl (by kernel_rfl) (fun _ _ _ h => h) (Or.inl ⟨by rfl, ?_⟩) ?_ ?_
        rotate_left
        · intro w'
          go_simp
          with_reducible rfl
        rotate_left
        · simp only [Act.put, List.setIfInBounds_toArray, List.set_cons_zero, List.set_cons_succ, i64_w, i32_w]
          rfl
        refine pure_ (i := 10) (N := some 45) (v := ?_) (a' := ?_) #[true, true, false, true, true, false, false, false, true, false, true, false, false, false] rfl rfl (by kernel_rfl) (fun _ _ _ h => h) (Or.inl ⟨by rfl, ?_⟩) ?_ ?_
        rotate_left
        · intro w'
          go_simp
          with_reducible rfl
        rotate_left
        · simp only [Act.put, List.setIfInBounds_toArray, List.set_cons_zero, List.set_cons_succ, i64_w, i32_w]
          rfl
        refine take_ (i := 2) (N := some 37) (v := ?_) (a' := ?_) #[true, true, true, true, true, false, false, false, true, false, true, false, false, false] rfl rfl (by kernel_rfl) (fun _ _ _ h => h) (Or.inl ⟨by rfl, ?_⟩) hHeld ?_ ?_
        rotate_left
        · rintro w' ⟨s0, s1, s2⟩
          go_simp
          with_reducible rfl
        rotate_left
        · simp only [Act.put, List.setIfInBounds_toArray, List.set_cons_zero, List.set_cons_succ, i64_w, i32_w]
          rfl
        refine take_ (i := 5) (N := some 40) (v := ?_) (a' := ?_) #[true, true, true, true, true, true, false, false, true, false, true, false, false, false] rfl rfl (by kernel_rfl) (fun _ _ _ h => h) (Or.inl ⟨by rfl, ?_⟩) hHeld ?_ ?_
        rotate_left
        · rintro w' ⟨s0, s1, s2⟩
          go_simp
          with_reducible rfl
        rotate_left
        · simp only [Act.put, List.setIfInBounds_toArray, List.set_cons_zero, List.set_cons_succ, i64_w, i32_w]
          rfl
        refine pure_ (i := 6) (N := some 41) (v := ?_) (a' := ?_) #[true, true, true, true, true, true, true, false, true, false, true, false, false, false] rfl rfl (by kernel_rfl) (fun _ _ _ h => h) (Or.inl ⟨by rfl, ?_⟩) ?_ ?_
        rotate_left
        · intro w'
          go_simp
          with_reducible rfl
        rotate_left
        · simp only [Act.put, List.setIfInBounds_toArray, List.set_cons_zero, List.set_cons_succ, i64_w, i32_w]
          rfl
        refine take_ (i := 7) (N := some 42) (v := (.agg (encs (Value.int .u8) old).toArray)) (a' := ?aa_4) #[true, true, true, true, true, true, true, true, true, false, true, false, false, false] rfl rfl (by kernel_rfl) (fun _ _ _ h => h) ?hy_4 hHeld ?ha_4 ?h_4
        case hy_4 => exact yieldsIf_load_mid (by rfl) 89 (.tmp 41) rfl go5 (q * 64) rfl (encs (Value.int .u8) old) _ (fun w' s => s.2.2) Try.underlying89 rfl (by rw [encs_length, HLO.out]; exact info89)
        case ha_4 => simp only [Act.put, List.setIfInBounds_toArray, List.set_cons_zero, List.set_cons_succ, i64_w, i32_w]; rfl
        refine take_ (i := 9) (N := some 44) (v := (.agg (encs (Value.int .u8) b).toArray)) (a' := ?aa_3) #[true, true, true, true, true, true, true, true, true, true, true, false, false, false] rfl rfl (by kernel_rfl) (fun _ _ _ h => h) ?hy_3 hHeld ?ha_3 ?h_3
        case hy_3 => exact yieldsIf_load_mid (by rfl) 89 (.tmp 43) rfl g7 1 rfl (encs (Value.int .u8) b) _ (fun w' s => s.2.1) Try.underlying89 rfl (by rw [encs_length, HLN.out]; exact info89)
        case ha_3 => simp only [Act.put, List.setIfInBounds_toArray, List.set_cons_zero, List.set_cons_succ, i64_w, i32_w]; rfl
        refine one_ (i := 11) (N := some 46) #[true, true, true, true, true, true, true, true, true, true, true, true, false, false] rfl rfl (by kernel_rfl) (by decide) (fun K hK => ?_)
        refine goes_ Try.func57 (by kernel_rfl) rfl #[.agg (encs (Value.int .u8) old).toArray, .agg (encs (Value.int .u8) b).toArray, .int .u8 (0 : Int)] (by rfl) rfl rfl (by simp only [List.map_toArray, List.map_cons, List.map_nil]; rfl) ?_
        with_reducible refine (left_calls _ old b (0 : Int) HLO.out HLN.out HCR.out).mono ?_
        rintro e w5 ⟨rfl, hb5⟩
        refine ⟨_, rfl, ?_⟩
        have HB5 := Aside0.mk hb5
        clear hb5
        refine hK.out _ _ ⟨(pw_cell_below HB5.out k7), (range_below (w := w3.drew) HR7.out HB5.out), (range_below (w := w3.drew) HRO.out HB5.out)⟩ (fun hHeld => ?_)
        clear hK K
        refine norm_ (a' := ?_) ?_ ?_
        rotate_left
        · show Act.put _ (some 46) _ = _
          simp only [Act.put, List.setIfInBounds_toArray, List.set_cons_zero, List.set_cons_succ, i64_w, i32_w]
          rfl
        refine pure_ (i := 12) (N := some 47) (v := ?_) (a' := ?_) #[true, true, true, true, true, true, true, true, true, true, true, true, true, false] rfl rfl (by kernel_rfl) (fun _ _ _ h => h) (Or.inl ⟨by rfl, ?_⟩) ?_ ?_
        rotate_left
        · intro w'
          go_simp
          with_reducible rfl
        rotate_left
        · simp only [Act.put, List.setIfInBounds_toArray, List.set_cons_zero, List.set_cons_succ, i64_w, i32_w]
          rfl
        refine last_ (i := 13) (N := none) #[true, true, true, true, true, true, true, true, true, true, true, true, true, true] rfl rfl (by kernel_rfl) (by decide) (fun K hK => ?_)
        have HT5 : Aside0 (w5.there go5 (q * 64) (encs (Value.int .u8) (leftM old b (0 : Int))).toArray.size) := ⟨by rw [List.size_toArray, encs_length, leftM_len HLO.out HLN.out]; exact (sector_at (Kd.R_below (w := w3.drew) HR3.out HB5.out) q hqn).2.2⟩
        refine skip_ (w1 := w5.setCells go5 (q * 64) (encs (Value.int .u8) (leftM old b (0 : Int)))) (by rfl) rfl ?_ ?_
        · exact run_store_mid 89 (.tmp 47) (.tmp 46) rfl go5 (q * 64) (encs (Value.int .u8) (leftM old b (0 : Int))).toArray (by go_simp) rfl HT5.out (by rw [List.size_toArray, encs_length, leftM_len HLO.out HLN.out]; exact info89) (all_oneCell_toArray (one_u8 _))
        refine hK.out _ _ ?_
        clear hK K
        refine done_ (by kernel_rfl) ?_
        obtain ⟨w6, hw6⟩ : ∃ w6, w6 = w5.setCells go5 (q * 64) (encs (Value.int .u8) (leftM old b (0 : Int))) := ⟨_, rfl⟩
        rw [← hw6]
        have fr6 : Fr w5 w6 (fun k => k = go5) := by rw [hw6]; exact Fr.setCells (F := fun k => k = go5) (Fr.refl w5 _) (.inl rfl) _ _
        have hr5 : Kd.R kB 89 w5 w.heap.size (fun _ => True) (.slice (some ⟨go5, 0, none⟩) m.now.length co5) (crashTo m.sure m.since l j) := Kd.R_below (w := w3.drew) HR3.out HB5.out
        have hr6 : Kd.R kB 89 w6 w.heap.size (fun _ => True) (.slice (some ⟨go5, 0, none⟩) m.now.length co5) (crashTo m.sure m.since l (j + 1)) := by
          rw [HSN.out, hw6]
          exact row_set hr5 q hqn (leftM old b (0 : Int)) (leftM_len HLO.out HLN.out _)
        have hb6 : Below w.heap.size w w6 := by
          have h1 : Below w.heap.size w w3.drew := HB3.out.drew
          have h2 := below_step h1 HB5.out
          exact below_fr h2 h2.size fr6 (fun k hk => by rw [hk]; exact R_ge hr5 rfl)
        have D6 := Aside0.mk (And.intro hr6 hb6)
        clear hr5 hr6 hb6 fr6 hw6 k7 hHeld
        go_wp2_with fail
        go_roundg (m.since.length - (j + 1))
        case measure => have := hq.out; omega
        case rel => exact ⟨j + 1, by have := HSL.out; rw [show wrap64 ((j : Int) + 1) = ((j + 1 : Nat) : Int) from by unfold wrap64; omega], ⟨by omega⟩, D6⟩
    · have hj1 : decide ((j : Int) < (m.since.length : Int)) = false := decide_eq_false (by omega)
      have hje : j = m.since.length := by have := hq.out; omega
      subst hje
      have hlen := crashTo_len m.sure m.since l m.since.length
      go_wp2_with (go_at_call 58; refine (made_calls w wr w.heap.size _ _ hat.out.1 (by rw [hlen, HLE.out]; exact HNN.out.1) (by rw [hlen, HLE.out]; exact HNN.out.2) hat.out.2.size).mono ?_; rintro e w9 ⟨g9, v9, rfl, hd9, hg9, hv9, hb9⟩; have HD9 := Aside0.mk hd9; have HB9 := Aside0.mk (below_step hat.out.2 hb9); clear hd9 hg9 hv9 hb9)
      go_ret
      exact ⟨g9, _, v9, rfl, HD9.out, HB9.out⟩
end Go.Proofs.Ytdnjjhdhldgcmaa.Sec
