/- The document's disk: Write; both disks side by side. -/
import Derived.Test.YtldddinebhopcaaDkC
namespace Go.Proofs.Ytldddinebhopcaa.Sec
open Go.RowKit Go.Proofs.YtldddinebhopcaaW.PrintWords Go.Proofs.YtldddinebhopcaaW.PrintLast Go.Proofs.YtldddinebhopcaaW.PrintMore Go.Proofs.Ytldddinebhopcaa.Bs Go.Proofs.Ytldddinebhopcaa.Fr
set_option linter.unusedVariables false
set_option linter.unusedSimpArgs false

theorem infoO : (Try.prog.info? 107).map (fun i => (i.zero, i.size, i.bytes)) = some (some (.agg #[.int .i64 0, .slice none 0 0]), 2, 32) := by kernel_rfl
theorem kO_M {w : World} {base : Nat} {ok : Nat → Prop} (n : Int) (x : Option Addr × Nat × Nat) : kO.M w base ok (n, x) [.int .i64 n, encO x] := ⟨[.int .i64 n], [encO x], rfl, rfl, rfl⟩
set_option maxHeartbeats 1000000 in
set_option maxRecDepth 100000 in
theorem RWrite_bad (w : World) (base g : Nat) (X : RX) (m : DM) (h : RV w base g X m) (i : Int) (A : Option Addr) (n c : Nat) (hx : i < 0 ∨ (m.now.length : Int) ≤ i ∨ n ≠ 64) :
    Calls Try.prog 56 #[.pointer (some ⟨g, 0, none⟩), .int .i64 i, .slice A n c] w fun e w' => e = .returned (.int .i64 1) ∧ w = w' := by
  have k0 : w.cell? ⟨g, 0, none⟩ = some (.int .i64 m.now.length) := blk_cell h.blk 0
  clear h
  by_cases h0 : i < 0
  · go_enter Try.func56, Try.ntmps56
    go_wp2_with fail
    go_ret
    exact ⟨rfl, rfl⟩
  · by_cases h1 : (m.now.length : Int) ≤ i
    · go_enter Try.func56, Try.ntmps56
      go_wp2_with fail
      go_ret
      exact ⟨rfl, rfl⟩
    · have h2 : ((n : Int) == 64) = false := beq_eq_false_iff_ne.mpr (by omega)
      have h3 : ((n : Int) != 64) = true := by rw [bne, h2]; rfl
      clear hx
      go_enter Try.func56, Try.ntmps56
      go_wp2_with fail
      go_ret
      exact ⟨rfl, rfl⟩
def wrX (m : DM) (n : Nat) (b : List Int) : DM := if outc m = 1 then took m else wrote m n b
set_option maxHeartbeats 4000000 in
set_option maxRecDepth 100000 in
theorem RWrite_fits (w : World) (base g : Nat) (X : RX) (m : DM) (h : RV w base g X m) (ho : 0 ≤ m.ops ∧ m.ops ≤ 1000000000) (hs : m.since.length ≤ 1000000) (n : Nat) (hn : n < m.now.length) (gb c : Nat) (b : List Int) (hb : b.length = 64)
    (hr : w.rangeAt gb 0 (encs (Value.int .u8) b)) (hgb : ¬ footR g X gb) (hbase : base ≤ w.heap.size) :
    Calls Try.prog 56 #[.pointer (some ⟨g, 0, none⟩), .int .i64 n, .slice (some ⟨gb, 0, none⟩) 64 c] w fun e w' => e = .returned (.int .i64 (tell (outc m))) ∧ ∃ X', RV w' base g X' (wrX m n b) ∧ Fr w w' (footR g X) ∧ ∀ k, allR g X' k → allR g X k ∨ w.heap.size ≤ k := by
  have H := Aside0.mk h
  have HT := Aside0.mk (RTake_calls w base g X m h ho)
  have k0 : w.cell? ⟨g, 0, none⟩ = some (.int .i64 m.now.length) := blk_cell h.blk 0
  have hn0 : ¬ ((n : Int) < 0) := by omega
  have hn1 : ¬ (m.now.length ≤ n) := by omega
  have HN := Aside0.mk hn
  have HB := Aside0.mk hb
  have HR := Aside0.mk hr
  have HGB := Aside0.mk hgb
  have HBS := Aside0.mk hbase
  have HS := Aside0.mk hs
  clear h ho hn hb hr hgb hbase hs
  go_enter Try.func56, Try.ntmps56
  go_wp2_with fail
  refine HT.out.mono ?_
  rintro e w1 ⟨rfl, v3', hd, hv, hf⟩
  have R1 := Aside0.mk hd
  have OW := Aside0.mk hv
  have FR1 := Aside0.mk hf
  clear hd hv hf HT k0 hn0 hn1
  have FT3 : Aside0 (∀ k, footR g (setR3 X v3') k → footR g X k ∨ w.heap.size ≤ k) := ⟨H.out.foot3 (fun k hk => .inl (OW.out k hk))⟩
  by_cases hx : outc m = 1
  · have HX := Aside0.mk hx
    rw [hx]
    clear hx
    go_wp2_with fail
    go_ret
    refine ⟨by rw [HX.out]; rfl, setR3 X v3', ?_, FR1.out.mono (fun k hk => .inl hk), ?_⟩
    · unfold wrX; rw [if_pos HX.out]; exact R1.out
    · rintro k (hk | hk)
      · rcases FT3.out k hk with hk | hk
        · exact .inl (.inl hk)
        · exact .inr hk
      · exact .inl (.inr hk)
  · have HX := Aside0.mk hx
    have hx1 : (outc m != 1) = true := by simpa using hx
    rw [hx1]
    clear hx hx1
    obtain ⟨hfn, hfs⟩ := R1.out.flat
    have hn1 := R1.out.n1
    obtain ⟨gn, cn, hv1, _, hgnl, _, _⟩ := Kd.R_form R1.out.now (by omega)
    have hv1 : X.v1 = _ := hv1
    have hFM : (took m).now.flatten.length ≤ 262144 := by have := R1.out.n2; omega
    have hFN : n * 64 + 64 ≤ (took m).now.flatten.length := by have := HN.out; have e : (took m).now.length = m.now.length := rfl; omega
    have RN := Aside0.mk (show Kd.R (Kd.int .u8) 5 w1 base (fun _ => True) (.slice (some ⟨gn, 0, none⟩) (took m).now.flatten.length cn) (took m).now.flatten by have := R1.out.now; rw [← hv1]; exact this)
    have HV1 := Aside0.mk hv1
    have NE := Aside0.mk (show g ≠ gn ∧ gb ≠ gn ∧ gb ≠ g from ⟨fun he => H.out.ne.2.1 (by rw [hv1, he]; rfl), fun he => HGB.out (.inr (.inr (.inl (by rw [hv1, he]; rfl)))), fun he => HGB.out (.inl he)⟩)
    have FSp : Aside0 (spl (took m).now.flatten b (n * 64) 64 = ((took m).now.set n b).flatten) := ⟨flat_spl n R1.out.n64 HN.out HB.out⟩
    have GL := Aside0.mk (show g < w1.heap.size ∧ gn < w1.heap.size from ⟨blk_lt R1.out.blk, hgnl⟩)
    have BW1 := Aside0.mk (show base ≤ w1.heap.size from Nat.le_trans HBS.out FR1.out.size)
    clear hfn hfs hn1 hv1 hgnl
    have K2 := Aside0.mk (show w1.cell? ⟨g, 2, none⟩ = some (.slice (some ⟨gn, 0, none⟩) (took m).now.flatten.length cn) by rw [← HV1.out]; exact blk_cell R1.out.blk 2)
    have HR1 : Aside0 (w1.rangeAt gb 0 (encs (Value.int .u8) b)) := ⟨range_fr HR.out FR1.out NE.out.2.2⟩
    generalize hF : (took m).now.flatten = F at *
    have HF := Aside0.mk hF
    have HFM := Aside0.mk hFM
    have HFN := Aside0.mk hFN
    have hn4 : n ≤ 4096 := by have := HFM.out; have := HFN.out; omega
    obtain ⟨Qn, hQn⟩ : ∃ Q : Nat, (n : Int) * 64 = (Q : Int) := ⟨n * 64, by omega⟩
    have HQn := Aside0.mk (show Qn = n * 64 by omega)
    have hwQ : wrap64 (Qn : Int) = (Qn : Int) := by unfold wrap64; omega
    clear hF hFM hFN
    have X2 := Aside0.mk (blk_new w1 (.cells #[.int .i64 n, .slice none 0 0] 107))
    have F2 := Aside0.mk ((Fr.refl w1 (fun k => k = gn)).alloc (.cells #[.int .i64 n, .slice none 0 0] 107))
    go_wp2_with fail
    go_loopg [10] 64 (fun r v10 wr => ∃ (k : Nat) (vB : Value), v10 = .int .i64 k ∧ Aside0 (r + k = 64) ∧ Aside0 (wr.heap[w1.heap.size]? = some (.cells #[.int .i64 n, vB] 107 (0, 0))) ∧ Aside0 (Kd.R (Kd.int .u8) 5 wr w1.heap.size (fun _ => True) vB (b.take k)) ∧ Aside0 (Kd.R (Kd.int .u8) 5 wr base (fun _ => True) (.slice (some ⟨gn, 0, none⟩) F.length cn) (spl F b (n * 64) k)) ∧ Aside0 (Fr w1 wr (fun k => k = gn)))
    case atStart => exact ⟨0, _, rfl, ⟨by omega⟩, X2, ⟨by rw [List.take_zero]; exact Kd.R_nil _ _ _ _ _⟩, ⟨by rw [spl_zero]; exact Kd.R_alloc RN.out _⟩, F2⟩
    case round =>
      obtain ⟨k, vB, rfl, hr, XB, RB, RW, FR⟩ := hrel
      by_cases hi : k < 64
      · have hi2 : (k : Int) < 64 := by omega
        have hi4 : (0 : Int) ≤ (k : Int) := by omega
        obtain ⟨x, hx⟩ : ∃ x, b[k]? = some x := ⟨_, List.getElem?_eq_getElem (by rw [HB.out]; exact hi)⟩
        have HRW : Aside0 (wr.rangeAt gb 0 (encs (Value.int .u8) b)) := ⟨range_fr HR1.out FR.out NE.out.2.1⟩
        have hcell0 := HRW.out k (.int .u8 x) (by unfold encs; rw [List.getElem?_map, hx]; rfl)
        have hcell : wr.cell? ⟨gb, k, none⟩ = some (.int .u8 x) := by rw [Nat.zero_add] at hcell0; exact hcell0
        have kB : wr.cell? ⟨w1.heap.size, 1, none⟩ = some vB := blk_cell XB.out 1
        have HTK : Aside0 (b.take (k + 1) = b.take k ++ [x]) := ⟨by rw [List.take_add_one, hx]; rfl⟩
        have NX : Aside0 ((spl F b (n * 64) k).set (n * 64 + k) x = spl F b (n * 64) (k + 1)) := ⟨spl_next (by have := HFN.out; omega) hx⟩
        have HLT := Aside0.mk (List.length_take_le k b)
        have S1 := Aside0.mk FR.out.size
        have GBL : Aside0 (gb < w1.heap.size) := ⟨World.block_lt_of_cell? w1 _ (HR1.out k (.int .u8 x) (by unfold encs; rw [List.getElem?_map, hx]; rfl))⟩
        have HEL : Aside0 (∀ W', wr.drew.grownBy W' vB.ownBlock → W'.cell? ⟨gb, k, none⟩ = some (.int .u8 x)) := ⟨fun W' hg => cell_fr hcell (((Fr.refl wr (fun k => own vB k)).drew).grown hg (fun k hk => .inl hk)) (fun he => by have he2 : w1.heap.size ≤ gb := R_ge RB.out he; have := GBL.out; omega)⟩
        clear hx hcell0
        go_upto_region 9 with fail
        refine start_ (n := 10) (S := fun w' => w'.cell? ⟨w1.heap.size, 1, none⟩ = some vB ∧ w'.cell? ⟨gb, k, none⟩ = some (.int .u8 x)) (ds := [9]) #[false, false, false, false, false, false, false, false, false, false] (by kernel_rfl) rfl rfl ⟨kB, hcell⟩ (fun hHeld => ?_)
        refine pure_ (i := 0) (N := some 40) (v := ?_) (a' := ?_) #[true, false, false, false, false, false, false, false, false, false] rfl rfl (by kernel_rfl) (fun _ _ _ h => h) (Or.inl ⟨by rfl, ?_⟩) ?_ ?_
        rotate_left
        · intro w'
          go_simp
          with_reducible rfl
        rotate_left
        · simp only [Act.put, List.setIfInBounds_toArray, List.set_cons_zero, List.set_cons_succ, i64_w, i32_w]
          rfl
        refine pure_ (i := 2) (N := some 42) (v := ?_) (a' := ?_) #[true, false, true, false, false, false, false, false, false, false] rfl rfl (by kernel_rfl) (fun _ _ _ h => h) (Or.inl ⟨by rfl, ?_⟩) ?_ ?_
        rotate_left
        · intro w'
          go_simp
          with_reducible rfl
        rotate_left
        · simp only [Act.put, List.setIfInBounds_toArray, List.set_cons_zero, List.set_cons_succ, i64_w, i32_w]
          rfl
        refine pure_ (i := 3) (N := some 43) (v := ?_) (a' := ?_) #[true, false, true, true, false, false, false, false, false, false] rfl rfl (by kernel_rfl) (fun _ _ _ h => h) (Or.inl ⟨by rfl, ?_⟩) ?_ ?_
        rotate_left
        · intro w'
          go_simp
          with_reducible rfl
        rotate_left
        · simp only [Act.put, List.setIfInBounds_toArray, List.set_cons_zero, List.set_cons_succ, i64_w, i32_w]
          rfl
        refine pure_ (i := 4) (N := some 44) (v := ?_) (a' := ?_) #[true, false, true, true, true, false, false, false, false, false] rfl rfl (by kernel_rfl) (fun _ _ _ h => h) (Or.inl ⟨by rfl, ?_⟩) ?_ ?_
        rotate_left
        · intro w'
          go_simp
          with_reducible rfl
        rotate_left
        · simp only [Act.put, List.setIfInBounds_toArray, List.set_cons_zero, List.set_cons_succ, i64_w, i32_w]
          rfl
        refine take_ (i := 1) (N := some 41) (v := ?_) (a' := ?_) #[true, true, true, true, true, false, false, false, false, false] rfl rfl (by kernel_rfl) (fun _ _ _ h => h) (Or.inl ⟨by rfl, ?_⟩) hHeld ?_ ?_
        rotate_left
        · rintro w' ⟨s0, s1⟩
          go_simp
          with_reducible rfl
        rotate_left
        · simp only [Act.put, List.setIfInBounds_toArray, List.set_cons_zero, List.set_cons_succ, i64_w, i32_w]
          rfl
        refine take_ (i := 5) (N := some 45) (v := ?_) (a' := ?_) #[true, true, true, true, true, true, false, false, false, false] rfl rfl (by kernel_rfl) (fun _ _ _ h => h) (Or.inl ⟨by rfl, ?_⟩) hHeld ?_ ?_
        rotate_left
        · rintro w' ⟨s0, s1⟩
          go_simp
          with_reducible rfl
        rotate_left
        · simp only [Act.put, List.setIfInBounds_toArray, List.set_cons_zero, List.set_cons_succ, i64_w, i32_w]
          rfl
        refine one_ (i := 6) (N := some 46) #[true, true, true, true, true, true, true, false, false, false] rfl rfl (by kernel_rfl) (by decide) (fun K hK => ?_)
        refine value_ (w1 := ?_) (v := ?_) (by rfl) rfl ?_ ?_
        rotate_left 2
        · go_simp
          constructor
          · rfl
          · rfl
        refine hK.out _ _ ⟨(cell_alloc_old hHeld.1 _), (cell_alloc_old hHeld.2 _)⟩ (fun hHeld => ?_)
        clear hK K
        refine norm_ (a' := ?_) ?_ ?_
        rotate_left
        · show Act.put _ (some 46) _ = _
          simp only [Act.put, List.setIfInBounds_toArray, List.set_cons_zero, List.set_cons_succ, i64_w, i32_w]
          rfl
        refine one_ (i := 7) (N := some 47) #[true, true, true, true, true, true, true, true, false, false] rfl rfl (by kernel_rfl) (by decide) (fun K hK => ?_)
        refine Kd.R_append_step (Kd.int .u8) (w0 := wr.drew) w1.heap.size (by rfl) (.tmp 41) (.tmp 46) 23 5 (.int .u8 0) 1 rfl Try.underlying23 info_u8 rfl (by decide) (by decide) vB (b.take k) x [.int .u8 x] (fun _ => True) (fun _ => False) rfl rfl rfl (fun _ hk => hk.elim) (fun _ _ => trivial) (Kd.R_drew RB.out) (Below.refl _ _) S1.out (by have := HLT.out; omega) ?_
        intro v1 w5 hr1 hb1 hg1 hat1
        rw [← HTK.out] at hr1
        have hblk1 : w5.heap[w1.heap.size]? = _ := (hg1.block w1.heap.size (blk_lt XB.out) (fun he => Kd.R_ne RB.out XB.out (by decide) he)).trans XB.out
        have hfz : w5.frozen? ⟨w1.heap.size, 1, none⟩ = false := blk_frozen hblk1 1
        have c4' : w5.cell? ⟨w1.heap.size, 1, none⟩ = some vB := blk_cell hblk1 1
        have hel5 := HEL.out w5 hg1
        obtain ⟨A5, c5, hv5⟩ := Kd.R_slice hr1
        obtain ⟨n5, hn5⟩ : ∃ n5, n5 = (b.take (k + 1)).length := ⟨_, rfl⟩
        rw [← hn5] at hv5
        subst hv5
        have HR5 := Aside0.mk hr1
        have HG5 := Aside0.mk hg1
        have HB5 := Aside0.mk hblk1
        clear hr1 hb1 hg1 hat1 hblk1 hn5
        refine hK.out _ _ ⟨c4', hel5⟩ (fun hHeld => ?_)
        clear hK K
        refine norm_ (a' := ?_) ?_ ?_
        rotate_left
        · show Act.put _ (some 47) _ = _
          simp only [Act.put, List.setIfInBounds_toArray, List.set_cons_zero, List.set_cons_succ, i64_w, i32_w]
          rfl
        refine pure_ (i := 8) (N := some 48) (v := ?_) (a' := ?_) #[true, true, true, true, true, true, true, true, true, false] rfl rfl (by kernel_rfl) (fun _ _ _ h => h) (Or.inl ⟨by rfl, ?_⟩) ?_ ?_
        rotate_left
        · intro w'
          go_simp
          with_reducible rfl
        rotate_left
        · simp only [Act.put, List.setIfInBounds_toArray, List.set_cons_zero, List.set_cons_succ, i64_w, i32_w]
          rfl
        refine last_ (i := 9) (N := none) #[true, true, true, true, true, true, true, true, true, true] rfl rfl (by kernel_rfl) (by decide) (fun K hK => ?_)
        refine skip_ (w1 := ?_) (by rfl) rfl ?_ ?_
        rotate_left
        · go_simp
          rfl
        refine hK.out _ _ ?_
        clear hK K
        refine done_ (by kernel_rfl) ?_
        have FW5 := Aside0.mk (show Fr wr (w5.setCell ⟨w1.heap.size, 1, none⟩ (.slice A5 n5 c5)) (fun j => j = w1.heap.size ∨ own vB j) from (((Fr.refl wr _).drew).grown HG5.out (fun j hj => .inl (.inr hj))).set (.inl (.inl rfl)) _)
        have X6 := Aside0.mk (blk_set HB5.out 1 (.slice A5 n5 c5))
        have RB6 := Aside0.mk (show Kd.R (Kd.int .u8) 5 (w5.setCell ⟨w1.heap.size, 1, none⟩ (.slice A5 n5 c5)) w1.heap.size (fun _ => True) (.slice A5 n5 c5) (b.take (k + 1)) from R_fr HR5.out rfl (Fr.set (g := w1.heap.size) (o := 1) (F := fun k => k = w1.heap.size) (Fr.refl w5 _) (.inl rfl) _) (fun j hj he => Kd.R_ne HR5.out HB5.out (by decide) (by rw [← he]; exact hj.symm)))
        have RW6 := Aside0.mk (R_fr RW.out rfl FW5.out (fun j hj he => by
          have hj : some gn = some j := hj
          have hj := Option.some.inj hj
          rcases he with he | he
          · have := GL.out.2; omega
          · have := R_ge RB.out he; have := GL.out.2; omega))
        have FR6 := Aside0.mk (FR.out.trans FW5.out (fun j hj => by
          rcases hj with hj | hj
          · exact .inr (by omega)
          · exact .inr (R_ge RB.out hj)))
        have C6 := Aside0.mk (show (w5.setCell ⟨w1.heap.size, 1, none⟩ (.slice A5 n5 c5)).cell? ⟨gb, k, none⟩ = some (.int .u8 x) from cell_fr hcell FW5.out (by
          rintro (he | he)
          · have := GBL.out; have he : gb = w1.heap.size := he; omega
          · have he2 : w1.heap.size ≤ gb := R_ge RB.out he; have := GBL.out; omega))
        clear kB hcell hHeld HG5 HB5 HR5 HEL FW5
        go_upto_region 10 with fail
        generalize w5.setCell ⟨w1.heap.size, 1, none⟩ (.slice A5 n5 c5) = w6 at *
        obtain ⟨q, hq⟩ : ∃ q : Nat, (Qn : Int) + (k : Int) = (q : Int) := ⟨Qn + k, by omega⟩
        have HQ := Aside0.mk (show q = n * 64 + k by have := HQn.out; omega)
        have hwq : wrap64 (q : Int) = (q : Int) := by unfold wrap64; omega
        have hq2 : (q : Int) < (F.length : Int) := by have := HFN.out; have := HQ.out; omega
        have hq3 : (0 : Int) ≤ (q : Int) := by omega
        have kn : w6.cell? ⟨g, 2, none⟩ = some (.slice (some ⟨gn, 0, none⟩) F.length cn) := cell_fr K2.out FR6.out NE.out.1
        have kx : w6.cell? ⟨gb, k, none⟩ = some (.int .u8 x) := C6.out
        have hcs := Kd.R_celln (0 : Int) RW6.out (q : Int) hq3 hq2
        rw [Int.toNat_natCast] at hcs
        have fz : w6.drew.frozen? ⟨gn, q, none⟩ = false := hcs.2
        have kq := hcs.1
        have PUT := Aside0.mk (Kd.R_putn (Kd.R_drew RW6.out) (q : Int) x)
        clear hcs
        refine start_ (n := 14) (S := fun w' => w'.cell? ⟨g, 2, none⟩ = some (.slice (some ⟨gn, 0, none⟩) F.length cn) ∧ w'.cell? ⟨gb, k, none⟩ = some (.int .u8 x)) (ds := [13]) #[false, false, false, false, false, false, false, false, false, false, false, false, false, false] (by kernel_rfl) rfl rfl ⟨kn, kx⟩ (fun hHeld => ?_)
        refine pure_ (i := 0) (N := some 49) (v := ?_) (a' := ?_) #[true, false, false, false, false, false, false, false, false, false, false, false, false, false] rfl rfl (by kernel_rfl) (fun _ _ _ h => h) (Or.inl ⟨by rfl, ?_⟩) ?_ ?_
        rotate_left
        · intro w'
          go_simp
          with_reducible rfl
        rotate_left
        · simp only [Act.put, List.setIfInBounds_toArray, List.set_cons_zero, List.set_cons_succ, i64_w, i32_w]
          rfl
        refine pure_ (i := 1) (N := some 50) (v := ?_) (a' := ?_) #[true, true, false, false, false, false, false, false, false, false, false, false, false, false] rfl rfl (by kernel_rfl) (fun _ _ _ h => h) (Or.inl ⟨by rfl, ?_⟩) ?_ ?_
        rotate_left
        · intro w'
          go_simp
          with_reducible rfl
        rotate_left
        · simp only [Act.put, List.setIfInBounds_toArray, List.set_cons_zero, List.set_cons_succ, i64_w, i32_w]
          rfl
        refine pure_ (i := 2) (N := some 51) (v := ?_) (a' := ?_) #[true, true, true, false, false, false, false, false, false, false, false, false, false, false] rfl rfl (by kernel_rfl) (fun _ _ _ h => h) (Or.inl ⟨by rfl, ?_⟩) ?_ ?_
        rotate_left
        · intro w'
          go_simp
          with_reducible rfl
        rotate_left
        · simp only [Act.put, List.setIfInBounds_toArray, List.set_cons_zero, List.set_cons_succ, i64_w, i32_w]
          rfl
        refine pure_ (i := 4) (N := some 53) (v := ?_) (a' := ?_) #[true, true, true, false, true, false, false, false, false, false, false, false, false, false] rfl rfl (by kernel_rfl) (fun _ _ _ h => h) (Or.inl ⟨by rfl, ?_⟩) ?_ ?_
        rotate_left
        · intro w'
          go_simp
          with_reducible rfl
        rotate_left
        · simp only [Act.put, List.setIfInBounds_toArray, List.set_cons_zero, List.set_cons_succ, i64_w, i32_w]
          rfl
        refine pure_ (i := 5) (N := some 54) (v := ?_) (a' := ?_) #[true, true, true, false, true, true, false, false, false, false, false, false, false, false] rfl rfl (by kernel_rfl) (fun _ _ _ h => h) (Or.inl ⟨by rfl, ?_⟩) ?_ ?_
        rotate_left
        · intro w'
          go_simp
          with_reducible rfl
        rotate_left
        · simp only [Act.put, List.setIfInBounds_toArray, List.set_cons_zero, List.set_cons_succ, i64_w, i32_w]
          rfl
        refine pure_ (i := 6) (N := some 55) (v := ?_) (a' := ?_) #[true, true, true, false, true, true, true, false, false, false, false, false, false, false] rfl rfl (by kernel_rfl) (fun _ _ _ h => h) (Or.inl ⟨by rfl, ?_⟩) ?_ ?_
        rotate_left
        · intro w'
          go_simp
          with_reducible rfl
        rotate_left
        · simp only [Act.put, List.setIfInBounds_toArray, List.set_cons_zero, List.set_cons_succ, i64_w, i32_w]
          rfl
        refine pure_ (i := 7) (N := some 56) (v := ?_) (a' := ?_) #[true, true, true, false, true, true, true, true, false, false, false, false, false, false] rfl rfl (by kernel_rfl) (fun _ _ _ h => h) (Or.inl ⟨by rfl, ?_⟩) ?_ ?_
        rotate_left
        · intro w'
          go_simp
          with_reducible rfl
        rotate_left
        · simp only [Act.put, List.setIfInBounds_toArray, List.set_cons_zero, List.set_cons_succ, i64_w, i32_w]
          rfl
        refine pure_ (i := 8) (N := some 57) (v := ?_) (a' := ?_) #[true, true, true, false, true, true, true, true, true, false, false, false, false, false] rfl rfl (by kernel_rfl) (fun _ _ _ h => h) (Or.inl ⟨by rfl, ?_⟩) ?_ ?_
        rotate_left
        · intro w'
          go_simp
          with_reducible rfl
        rotate_left
        · simp only [Act.put, List.setIfInBounds_toArray, List.set_cons_zero, List.set_cons_succ, i64_w, i32_w]
          rfl
        refine pure_ (i := 9) (N := some 58) (v := ?_) (a' := ?_) #[true, true, true, false, true, true, true, true, true, true, false, false, false, false] rfl rfl (by kernel_rfl) (fun _ _ _ h => h) (Or.inl ⟨by rfl, ?_⟩) ?_ ?_
        rotate_left
        · intro w'
          go_simp
          with_reducible rfl
        rotate_left
        · simp only [Act.put, List.setIfInBounds_toArray, List.set_cons_zero, List.set_cons_succ, i64_w, i32_w]
          rfl
        refine pure_ (i := 10) (N := some 59) (v := ?_) (a' := ?_) #[true, true, true, false, true, true, true, true, true, true, true, false, false, false] rfl rfl (by kernel_rfl) (fun _ _ _ h => h) (Or.inl ⟨by rfl, ?_⟩) ?_ ?_
        rotate_left
        · intro w'
          go_simp
          with_reducible rfl
        rotate_left
        · simp only [Act.put, List.setIfInBounds_toArray, List.set_cons_zero, List.set_cons_succ, i64_w, i32_w]
          rfl
        refine take_ (i := 3) (N := some 52) (v := ?_) (a' := ?_) #[true, true, true, true, true, true, true, true, true, true, true, false, false, false] rfl rfl (by kernel_rfl) (fun _ _ _ h => h) (Or.inl ⟨by rfl, ?_⟩) hHeld ?_ ?_
        rotate_left
        · rintro w' ⟨s0, s1⟩
          go_simp
          with_reducible rfl
        rotate_left
        · simp only [Act.put, List.setIfInBounds_toArray, List.set_cons_zero, List.set_cons_succ, i64_w, i32_w]
          rfl
        refine take_ (i := 11) (N := some 60) (v := ?_) (a' := ?_) #[true, true, true, true, true, true, true, true, true, true, true, true, false, false] rfl rfl (by kernel_rfl) (fun _ _ _ h => h) (Or.inl ⟨by rfl, ?_⟩) hHeld ?_ ?_
        rotate_left
        · rintro w' ⟨s0, s1⟩
          go_simp
          with_reducible rfl
        rotate_left
        · simp only [Act.put, List.setIfInBounds_toArray, List.set_cons_zero, List.set_cons_succ, i64_w, i32_w]
          rfl
        refine pure_ (i := 12) (N := some 61) (v := ?_) (a' := ?_) #[true, true, true, true, true, true, true, true, true, true, true, true, true, false] rfl rfl (by kernel_rfl) (fun _ _ _ h => h) (Or.inl ⟨by rfl, ?_⟩) ?_ ?_
        rotate_left
        · intro w'
          go_simp
          with_reducible rfl
        rotate_left
        · simp only [Act.put, List.setIfInBounds_toArray, List.set_cons_zero, List.set_cons_succ, i64_w, i32_w]
          rfl
        refine last_ (i := 13) (N := none) #[true, true, true, true, true, true, true, true, true, true, true, true, true, true] rfl rfl (by kernel_rfl) (by decide) (fun K hK => ?_)
        refine skip_ (w1 := ?_) (by rfl) rfl ?_ ?_
        rotate_left
        · go_simp
          rfl
        refine hK.out _ _ ?_
        clear hK K
        refine done_ (by kernel_rfl) ?_
        go_wp2_with fail
        have FF := Aside0.mk (show Fr w6 (w6.drew.setCell ⟨gn, q, none⟩ (.int .u8 x)) (fun k => k = gn) from Fr.set (g := gn) (o := q) (F := fun k => k = gn) ((Fr.refl w6 _).drew) (.inl rfl) _)
        go_roundg (64 - (k + 1))
        case measure => have := hr.out; omega
        case rel => exact ⟨k + 1, _, by first | rfl | (rw [show wrap64 ((k : Int) + 1) = ((k + 1 : Nat) : Int) from by unfold wrap64; omega]), ⟨by omega⟩, ⟨FF.out.blk X6.out (fun he => by have := GL.out.2; omega)⟩, ⟨R_fr RB6.out rfl FF.out (fun j hj he => by have := R_ge RB6.out hj; have := GL.out.2; omega)⟩, ⟨by have h_ := PUT.out; rw [Int.toNat_natCast, HQ.out, NX.out, ← HQ.out] at h_; exact h_⟩, ⟨FR6.out.trans FF.out (fun j hj => .inl hj)⟩⟩
      · have hil : k = 64 := by have := hr.out; omega
        subst hil
        have hrow := RB.out
        rw [List.take_of_length_le (by rw [HB.out]; exact Nat.le_refl _)] at hrow
        obtain ⟨gB, cB, hvB, _, _, _, _⟩ := Kd.R_form hrow (by rw [HB.out]; decide)
        rw [HB.out] at hvB
        subst hvB
        have RBF := Aside0.mk hrow
        have hnr := RW.out
        rw [FSp.out] at hnr
        have RNF := Aside0.mk (show Kd.R (Kd.int .u8) 5 wr base (fun _ => True) (setR3 X v3').v1 ((took m).now.set n b).flatten by rw [show (setR3 X v3').v1 = X.v1 from rfl, HV1.out]; exact hnr)
        have FRV : Aside0 (Fr w1 wr (own X.v1)) := ⟨FR.out.mono (fun j hj => by rw [HV1.out, hj]; rfl)⟩
        have k3 : wr.cell? ⟨g, 3, none⟩ = some X.v2 := blk_cell (FR.out.blk R1.out.blk NE.out.1) 3
        have kB0 : wr.cell? ⟨w1.heap.size, 0, none⟩ = some (.int .i64 n) := blk_cell XB.out 0
        have kB1 : wr.cell? ⟨w1.heap.size, 1, none⟩ = some (.slice (some ⟨gB, 0, none⟩) 64 cB) := blk_cell XB.out 1
        have RSI := Aside0.mk (R_fr R1.out.since rfl FR.out (fun j hj he => (R1.out.ap23 hj).2.1 (by rw [show (setR3 X v3').v1 = X.v1 from rfl, HV1.out, he]; rfl)))
        have HWL : Aside0 (X.ws.length ≤ 1000000) := ⟨by have h_ := R1.out.wlen; have := HS.out; have e : (setR3 X v3').ws = X.ws := rfl; have e2 : (took m).since = m.since := rfl; rw [e, e2] at h_; omega⟩
        clear hrow hnr RB RW
        go_upto_region 11 with fail
        refine start_ (n := 11) (S := fun w' => w'.cell? ⟨g, 3, none⟩ = some X.v2 ∧ w'.cell? ⟨w1.heap.size, 0, none⟩ = some (.int .i64 n) ∧ w'.cell? ⟨w1.heap.size, 1, none⟩ = some (.slice (some ⟨gB, 0, none⟩) 64 cB)) (ds := [10]) #[false, false, false, false, false, false, false, false, false, false, false] (by kernel_rfl) rfl rfl ⟨k3, kB0, kB1⟩ (fun hHeld => ?_)
        refine pure_ (i := 0) (N := some 62) (v := ?_) (a' := ?_) #[true, false, false, false, false, false, false, false, false, false, false] rfl rfl (by kernel_rfl) (fun _ _ _ h => h) (Or.inl ⟨by rfl, ?_⟩) ?_ ?_
        rotate_left
        · intro w'
          go_simp
          with_reducible rfl
        rotate_left
        · simp only [Act.put, List.setIfInBounds_toArray, List.set_cons_zero, List.set_cons_succ, i64_w, i32_w]
          rfl
        refine pure_ (i := 1) (N := some 63) (v := ?_) (a' := ?_) #[true, true, false, false, false, false, false, false, false, false, false] rfl rfl (by kernel_rfl) (fun _ _ _ h => h) (Or.inl ⟨by rfl, ?_⟩) ?_ ?_
        rotate_left
        · intro w'
          go_simp
          with_reducible rfl
        rotate_left
        · simp only [Act.put, List.setIfInBounds_toArray, List.set_cons_zero, List.set_cons_succ, i64_w, i32_w]
          rfl
        refine pure_ (i := 2) (N := some 64) (v := ?_) (a' := ?_) #[true, true, true, false, false, false, false, false, false, false, false] rfl rfl (by kernel_rfl) (fun _ _ _ h => h) (Or.inl ⟨by rfl, ?_⟩) ?_ ?_
        rotate_left
        · intro w'
          go_simp
          with_reducible rfl
        rotate_left
        · simp only [Act.put, List.setIfInBounds_toArray, List.set_cons_zero, List.set_cons_succ, i64_w, i32_w]
          rfl
        refine pure_ (i := 3) (N := some 65) (v := ?_) (a' := ?_) #[true, true, true, true, false, false, false, false, false, false, false] rfl rfl (by kernel_rfl) (fun _ _ _ h => h) (Or.inl ⟨by rfl, ?_⟩) ?_ ?_
        rotate_left
        · intro w'
          go_simp
          with_reducible rfl
        rotate_left
        · simp only [Act.put, List.setIfInBounds_toArray, List.set_cons_zero, List.set_cons_succ, i64_w, i32_w]
          rfl
        refine take_ (i := 4) (N := some 66) (v := ?_) (a' := ?_) #[true, true, true, true, true, false, false, false, false, false, false] rfl rfl (by kernel_rfl) (fun _ _ _ h => h) (Or.inl ⟨by rfl, ?_⟩) hHeld ?_ ?_
        rotate_left
        · rintro w' ⟨s0, s1, s2⟩
          go_simp
          with_reducible rfl
        rotate_left
        · simp only [Act.put, List.setIfInBounds_toArray, List.set_cons_zero, List.set_cons_succ, i64_w, i32_w]
          rfl
        refine take_ (i := 5) (N := some 67) (v := ?_) (a' := ?_) #[true, true, true, true, true, true, false, false, false, false, false] rfl rfl (by kernel_rfl) (fun _ _ _ h => h) (Or.inl ⟨by rfl, ?_⟩) hHeld ?_ ?_
        rotate_left
        · rintro w' ⟨s0, s1, s2⟩
          go_simp
          with_reducible rfl
        rotate_left
        · simp only [Act.put, List.setIfInBounds_toArray, List.set_cons_zero, List.set_cons_succ, i64_w, i32_w]
          rfl
        refine one_ (i := 6) (N := some 68) #[true, true, true, true, true, true, true, false, false, false, false] rfl rfl (by kernel_rfl) (by decide) (fun K hK => ?_)
        refine value_ (w1 := ?_) (v := ?_) (by rfl) rfl ?_ ?_
        rotate_left 2
        · go_simp
          constructor
          · rfl
          · rfl
        refine hK.out _ _ ⟨(cell_alloc_old hHeld.1 _), (cell_alloc_old hHeld.2.1 _), (cell_alloc_old hHeld.2.2 _)⟩ (fun hHeld => ?_)
        clear hK K
        refine norm_ (a' := ?_) ?_ ?_
        rotate_left
        · show Act.put _ (some 68) _ = _
          simp only [Act.put, List.setIfInBounds_toArray, List.set_cons_zero, List.set_cons_succ, i64_w, i32_w]
          rfl
        refine one_ (i := 7) (N := some 69) #[true, true, true, true, true, true, true, true, false, false, false] rfl rfl (by kernel_rfl) (by decide) (fun K hK => ?_)
        refine Kd.R_append_step kO (w0 := wr.drew) base (by rfl) (.tmp 66) (.tmp 68) 99 107 (.agg #[.int .i64 0, .slice none 0 0]) 32 rfl Try.underlying99 infoO rfl (by decide) (by decide) X.v2 X.ws ((n : Int), (some ⟨gB, 0, none⟩ : Option Addr), 64, cB) [.int .i64 n, .slice (some ⟨gB, 0, none⟩) 64 cB] (fun _ => True) (fun _ => False) rfl rfl (kO_M _ _) (fun _ hk => hk.elim) (fun _ _ => trivial) (Kd.R_drew RSI.out) (Below.refl _ _) (Nat.le_trans BW1.out FR.out.size) (by have := HWL.out; omega) ?_
        intro v2' w5 hr1 hb1 hg1 hat1
        have P := Aside0.mk (R1.out.push BW1.out (n := n) HN.out HB.out FRV.out RNF.out RBF.out hg1 hr1 hat1)
        have hblk1 : w5.heap[g]? = _ := (hg1.block g (Nat.lt_of_lt_of_le GL.out.1 FR.out.size) (fun he => R1.out.ne.2.2.1 he.symm)).trans (FR.out.blk R1.out.blk NE.out.1)
        have hfz : w5.frozen? ⟨g, 3, none⟩ = false := blk_frozen hblk1 3
        have c4' : w5.cell? ⟨g, 3, none⟩ = some X.v2 := blk_cell hblk1 3
        have hblq : w5.heap[w1.heap.size]? = _ := (hg1.block w1.heap.size (blk_lt XB.out) (fun he => by have h_ := R_lt' R1.out.since (k := w1.heap.size) he.symm; omega)).trans XB.out
        have d0' : w5.cell? ⟨w1.heap.size, 0, none⟩ = some (.int .i64 n) := blk_cell hblq 0
        have d1' : w5.cell? ⟨w1.heap.size, 1, none⟩ = some (.slice (some ⟨gB, 0, none⟩) 64 cB) := blk_cell hblq 1
        obtain ⟨A5, c5, hv5⟩ := Kd.R_slice hr1
        obtain ⟨n5, hn5⟩ : ∃ n5, n5 = (X.ws ++ [((n : Int), (some ⟨gB, 0, none⟩ : Option Addr), 64, cB)]).length := ⟨_, rfl⟩
        rw [← hn5] at hv5
        subst hv5
        clear hr1 hb1 hg1 hat1 hblk1 hblq hn5
        refine hK.out _ _ ⟨c4', d0', d1'⟩ (fun hHeld => ?_)
        clear hK K
        refine norm_ (a' := ?_) ?_ ?_
        rotate_left
        · show Act.put _ (some 69) _ = _
          simp only [Act.put, List.setIfInBounds_toArray, List.set_cons_zero, List.set_cons_succ, i64_w, i32_w]
          rfl
        refine pure_ (i := 8) (N := some 70) (v := ?_) (a' := ?_) #[true, true, true, true, true, true, true, true, true, false, false] rfl rfl (by kernel_rfl) (fun _ _ _ h => h) (Or.inl ⟨by rfl, ?_⟩) ?_ ?_
        rotate_left
        · intro w'
          go_simp
          with_reducible rfl
        rotate_left
        · simp only [Act.put, List.setIfInBounds_toArray, List.set_cons_zero, List.set_cons_succ, i64_w, i32_w]
          rfl
        refine pure_ (i := 9) (N := some 71) (v := ?_) (a' := ?_) #[true, true, true, true, true, true, true, true, true, true, false] rfl rfl (by kernel_rfl) (fun _ _ _ h => h) (Or.inl ⟨by rfl, ?_⟩) ?_ ?_
        rotate_left
        · intro w'
          go_simp
          with_reducible rfl
        rotate_left
        · simp only [Act.put, List.setIfInBounds_toArray, List.set_cons_zero, List.set_cons_succ, i64_w, i32_w]
          rfl
        refine last_ (i := 10) (N := none) #[true, true, true, true, true, true, true, true, true, true, true] rfl rfl (by kernel_rfl) (by decide) (fun K hK => ?_)
        refine skip_ (w1 := ?_) (by rfl) rfl ?_ ?_
        rotate_left
        · go_simp
          rfl
        refine hK.out _ _ ?_
        clear hK K
        refine done_ (by kernel_rfl) ?_
        go_wp2_with fail
        go_ret
        refine ⟨rfl, pushR (setR3 X v3') (.slice A5 n5 c5) n gB cB, ?_, (FR1.out.mono (fun k hk => .inl hk)).trans P.out.2.1 FT3.out, ?_⟩
        · unfold wrX; rw [if_neg HX.out]; exact P.out.1
        · intro k hk
          rcases P.out.2.2 k hk with (hk | hk) | hk
          · rcases FT3.out k hk with hk | hk
            · exact .inl (.inl hk)
            · exact .inr hk
          · exact .inl (.inr hk)
          · exact .inr (Nat.le_trans FR1.out.size hk)
/-- How much there is behind i deeds. -/
structure Bd (m : DM) (i : Nat) : Prop where
  o0 : 0 ≤ m.ops
  o1 : m.ops ≤ i
  s : m.since.length ≤ i
  q : m.wait.length ≤ 1000 * i
theorem Bd.mono {m : DM} {i j : Nat} (h : Bd m i) (hj : i ≤ j) : Bd m j := ⟨h.o0, by have := h.o1; omega, by have := h.s; omega, by have := h.q; omega⟩
theorem Bd.took {m : DM} {i : Nat} (h : Bd m i) : Bd (took m) (i + 1) := ⟨by have := h.o0; show 0 ≤ m.ops + 1; omega, by have := h.o1; show m.ops + 1 ≤ ((i + 1 : Nat) : Int); omega, by have := h.s; show m.since.length ≤ i + 1; omega, by have := h.q; show m.wait.tail.length ≤ 1000 * (i + 1); rw [List.length_tail]; omega⟩
theorem Bd.write {m : DM} {i : Nat} (h : Bd m i) (a : Int) (b : List Int) : Bd (wrM m a b) (i + 1) := by
  unfold wrM
  split
  · split
    · exact h.took
    · exact ⟨h.took.o0, h.took.o1, by have := h.s; show (m.since ++ [_]).length ≤ i + 1; rw [List.length_append]; show m.since.length + 1 ≤ i + 1; omega, h.took.q⟩
  · exact h.mono (Nat.le_succ i)
theorem Bd.sync {m : DM} {i : Nat} (h : Bd m i) : Bd (syM m) (i + 1) := by
  unfold syM
  split
  · exact h.took
  · exact ⟨h.took.o0, h.took.o1, Nat.zero_le _, h.took.q⟩
theorem Bd.waits {m : DM} {i : Nat} (h : Bd m i) (l : List Int) (hl : l.length ≤ 1000) : Bd (waits m (m.wait ++ l)) (i + 1) := ⟨h.o0, by have := h.o1; show m.ops ≤ ((i + 1 : Nat) : Int); omega, by have := h.s; show m.since.length ≤ i + 1; omega, by have := h.q; show (m.wait ++ l).length ≤ 1000 * (i + 1); rw [List.length_append]; omega⟩
theorem Bd.crash {m : DM} {i : Nat} (l : List Int) : Bd (crashed m l) i := ⟨Int.le_refl _, by show (0 : Int) ≤ i; omega, Nat.zero_le _, Nat.zero_le _⟩
theorem Bd.ops {m : DM} {i : Nat} (h : Bd m i) (hi : i ≤ 1000000) : 0 ≤ m.ops ∧ m.ops ≤ 1000000000 := ⟨h.o0, by have := h.o1; omega⟩
theorem Bd.sin {m : DM} {i : Nat} (h : Bd m i) (hi : i ≤ 1000000) : m.since.length ≤ 1000000 := by have := h.s; omega
theorem RWrite_all (w : World) (base g : Nat) (X : RX) (m : DM) (h : RV w base g X m) (ho : 0 ≤ m.ops ∧ m.ops ≤ 1000000000) (hs : m.since.length ≤ 1000000) (i : Int)
    (A : Option Addr) (c : Nat) (b : List Int) (hb : b.length = 64 → ∃ gb, A = some ⟨gb, 0, none⟩ ∧ w.rangeAt gb 0 (encs (Value.int .u8) b) ∧ ¬ footR g X gb) (hg : base ≤ w.heap.size) :
    Calls Try.prog 56 #[.pointer (some ⟨g, 0, none⟩), .int .i64 i, .slice A b.length c] w fun e w' => e = .returned (.int .i64 (wrE m i b)) ∧ ∃ X', RV w' base g X' (wrM m i b) ∧ Fr w w' (footR g X) ∧ ∀ k, allR g X' k → allR g X k ∨ w.heap.size ≤ k := by
  unfold wrM wrE
  by_cases hc : fits m i b
  · rw [if_pos hc, if_pos hc]
    have hc : 0 ≤ i ∧ i < (m.now.length : Int) ∧ b.length = 64 := hc
    obtain ⟨n, rfl⟩ := Int.eq_ofNat_of_zero_le hc.1
    obtain ⟨gb, rfl, h1, h2⟩ := hb hc.2.2
    rw [hc.2.2, Int.toNat_natCast]
    exact RWrite_fits w base g X m h ho hs n (by omega) gb c b hc.2.2 h1 h2 hg
  · rw [if_neg hc, if_neg hc]
    unfold fits at hc
    refine (RWrite_bad w base g X m h i A b.length c (by omega)).mono ?_
    rintro e w' ⟨rfl, rfl⟩
    exact ⟨rfl, X, h, Fr.refl _ _, fun k hk => .inl hk⟩
/-- What a row of one's own is to a disk that was there before. -/
theorem arg_row {w w' : World} {F : Nat → Prop} {A : Option Addr} {n c : Nat} {b : List Int} (hr : Kd.R (Kd.int .u8) 5 w' w.heap.size (fun _ => True) (.slice A n c) b) (hF : ∀ k, F k → k < w.heap.size) : b.length = 64 → ∃ gb, A = some ⟨gb, 0, none⟩ ∧ w'.rangeAt gb 0 (encs (Value.int .u8) b) ∧ ¬ F gb := by
  intro h64
  obtain ⟨gb, cap, hv, hb, gl, cl, HG⟩ := Kd.R_form hr (by omega)
  injection hv with hA hn hc
  subst hA
  refine ⟨gb, rfl, range_of_C (Kd.R_reads' hr).2.2, fun hf => ?_⟩
  have := hF gb hf
  omega
/-- A disk and the document's, of one model, apart. -/
structure Two (w : World) (base g : Nat) (v0 v1 v2 v3 : Value) (gR : Nat) (X : RX) (m : DM) : Prop where
  d : DV w base g v0 v1 v2 v3 m
  r : RV w base gR X m
  sep : ∀ k, foot g v0 v1 v2 v3 k → ¬ allR gR X k
  bs : base ≤ w.heap.size
section
variable {w w' : World} {base g gR : Nat} {v0 v1 v2 v3 : Value} {X : RX} {m : DM}
theorem Two.below (h : Two w base g v0 v1 v2 v3 gR X m) (hb : Below w.heap.size w w') : Two w' base g v0 v1 v2 v3 gR X m := ⟨h.d.below hb, h.r.below hb, h.sep, Nat.le_trans h.bs hb.size⟩
theorem Two.keep (h : Two w base g v0 v1 v2 v3 gR X m) {F : Nat → Prop} (k : Fr w w' F) (h1 : ∀ q, foot g v0 v1 v2 v3 q → ¬ F q) (h2 : ∀ q, allR gR X q → ¬ F q) : Two w' base g v0 v1 v2 v3 gR X m := ⟨h.d.keep k h1, h.r.keep k h2, h.sep, Nat.le_trans h.bs k.size⟩
theorem Two.lt (h : Two w base g v0 v1 v2 v3 gR X m) : (∀ k, foot g v0 v1 v2 v3 k → k < w.heap.size) ∧ ∀ k, allR gR X k → k < w.heap.size := ⟨h.d.foot_lt, h.r.foot_lt⟩
theorem Two.ge (h : Two w base g v0 v1 v2 v3 gR X m) : (∀ k, foot g v0 v1 v2 v3 k → base ≤ k) ∧ ∀ k, allR gR X k → base ≤ k := ⟨h.d.foot_ge, h.r.foot_ge⟩
/-- Both have done a thing, one behind the other. -/
theorem Two.both {w1 w2 : World} {v0' v1' v2' v3' : Value} {X' : RX} {m' : DM} (h : Two w base g v0 v1 v2 v3 gR X m) (hd : DV w1 base g v0' v1' v2' v3' m') (hf : Fr w w1 (foot g v0 v1 v2 v3)) (hft : ∀ k, foot g v0' v1' v2' v3' k → foot g v0 v1 v2 v3 k ∨ w.heap.size ≤ k)
    (hr : RV w2 base gR X' m') (hfr : Fr w1 w2 (footR gR X)) (hX : ∀ k, allR gR X' k → allR gR X k ∨ w1.heap.size ≤ k) : Two w2 base g v0' v1' v2' v3' gR X' m' := by
  refine ⟨hd.keep hfr (fun q hq he => ?_), hr, fun k hk he => ?_, Nat.le_trans h.bs (Nat.le_trans hf.size hfr.size)⟩
  · rcases hft q hq with hq | hq
    · exact h.sep q hq (.inl he)
    · have := h.r.foot_lt q (.inl he); omega
  · have hk1 := hd.foot_lt k hk
    rcases hX k he with he | he
    · rcases hft k hk with hk | hk
      · exact h.sep k hk he
      · have := h.r.foot_lt k he; omega
    · omega
end
end Go.Proofs.Ytldddinebhopcaa.Sec
