/- The document's disk: Crash. -/
import Derived.Test.YtdnjjhdhldgcmaaRdC
namespace Go.Proofs.Ytdnjjhdhldgcmaa.Sec
open Go.RowKit Go.Proofs.YtdnjjhdhldgcmaaW.PrintWords Go.Proofs.YtdnjjhdhldgcmaaW.PrintLast Go.Proofs.YtdnjjhdhldgcmaaW.PrintMore Go.Proofs.Ytdnjjhdhldgcmaa.Bs Go.Proofs.Ytdnjjhdhldgcmaa.Fr
set_option linter.unusedVariables false
set_option linter.unusedSimpArgs false
theorem kO_at {w : World} {e base n c : Nat} {ok : Nat → Prop} {A : Option Addr} {ws : List (Int × (Option Addr × Nat × Nat))} (h : Kd.R kO e w base ok (.slice A n c) ws) {j : Nat} {a : Int} {x : Option Addr × Nat × Nat} (hj : ws[j]? = some (a, x)) :
    ∃ gw, A = some ⟨gw, 0, none⟩ ∧ w.cell? ⟨gw, j * 2, none⟩ = some (.int .i64 a) ∧ w.cell? ⟨gw, j * 2 + 1, none⟩ = some (encO x) := by
  have hjl := (List.getElem?_eq_some_iff.1 hj).1
  obtain ⟨gw, cap, hv, _, _, _, _⟩ := Kd.R_form h (by omega)
  injection hv with hA hn hc
  subst hA
  obtain ⟨_, _, hC⟩ := Kd.R_reads' h
  obtain ⟨ad, cs, hA, _, hK, hc⟩ := Kd.C_get hC (0, none, 0, 0) (j : Int) (by omega) (by omega)
  obtain rfl := Option.some.inj hA
  rw [Int.toNat_natCast, List.getD_eq_getElem?_getD, hj] at hK
  obtain ⟨_, _, rfl, h1, h2⟩ := hK
  obtain rfl : _ = [Value.int .i64 a] := h1
  obtain rfl : _ = [encO x] := h2
  rw [Int.toNat_natCast] at hc
  have c0 := hc 0 (.int .i64 a) rfl
  have c1 := hc 1 (encO x) rfl
  rw [Addr.add_mid] at c0 c1
  rw [show 0 + (j * kO.sz + 0) = j * 2 by show 0 + (j * 2 + 0) = j * 2; omega] at c0
  rw [show 0 + (j * kO.sz + 1) = j * 2 + 1 by show 0 + (j * 2 + 1) = j * 2 + 1; omega] at c1
  exact ⟨gw, rfl, c0, c1⟩
theorem spl_set {P : List (List Int)} (hP : All64 P) {n N : Nat} (hn : n < P.length) {b : List Int} (hb : b.length = 64) (hN : N ≤ 64) : spl P.flatten b (n * 64) N = (P.set n (b.take N ++ (P.getD n zB).drop N)).flatten := by
  have hs := hP.sec hn
  rw [flat_set n _ hP hn]
  unfold spl
  have h1 : P.flatten.drop (n * 64 + N) = (P.getD n zB).drop N ++ P.flatten.drop (n * 64 + 64) := by
    have hz : P.flatten.drop (n * 64 + N) = (P.flatten.drop (n * 64)).drop N := by rw [List.drop_drop]
    have hy : P.flatten.drop (n * 64 + 64) = ((P.flatten.drop (n * 64)).drop N).drop (64 - N) := by rw [List.drop_drop, List.drop_drop]; congr 1; omega
    rw [hz, hy, flat_sec n hP hn, List.drop_take, List.take_append_drop]
  rw [h1]
  simp [List.append_assoc]
theorem crashTo_64 {s : List (List Int)} {l : List (Int × List Int)} {ch : List Int} (hs : All64 s) (hl : ∀ p ∈ l, p.2.length = 64) : ∀ j, j ≤ l.length → All64 (crashTo s l ch j) := by
  intro j
  induction j with
  | zero => intro _; exact hs
  | succ j ih =>
    intro hj
    have ih := ih (by omega)
    show All64 ((crashTo s l ch j).set _ _)
    have hp : (l.getD j zP).2.length = 64 := by rw [List.getD_eq_getElem?_getD, List.getElem?_eq_getElem (by omega)]; exact hl _ (List.getElem_mem _)
    by_cases hq : (l.getD j zP).1.toNat < (crashTo s l ch j).length
    · exact ih.set _ (leftM_len (ih.sec hq) hp _)
    · rw [List.set_eq_of_length_le (by omega)]; exact ih
theorem left0 (old wr : List Int) (h2 : wr.length = 64) (h1 : old.length = 64) {c : Int} (hc : c % 3 = 0) : leftM old wr c = wr.take 64 ++ old.drop 64 := by
  unfold leftM; rw [if_pos hc, List.take_of_length_le (by omega), List.drop_eq_nil_of_le (by omega), List.append_nil]
theorem left1 (old wr : List Int) {c : Int} (hc : c % 3 = 1) : leftM old wr c = wr.take 0 ++ old.drop 0 := by
  unfold leftM; rw [if_neg (by omega), if_pos hc]; simp
theorem left2 (old wr : List Int) {c : Int} (hc : c % 3 = 2) {n : Nat} (hn : (min (c / 3) 64) = (n : Int)) : leftM old wr c = wr.take n ++ old.drop n := by
  unfold leftM; rw [if_neg (by omega), if_neg (by omega), hn, Int.toNat_natCast]
theorem crash_next {m : DM} {ch : List Int} {j n N : Nat} {b : List Int} {x : Int} (hs : All64 m.sure) (hl : ∀ p ∈ m.since, p.2.length = 64) (hp : m.since[j]? = some ((n : Int), b)) (hn : n < m.sure.length) (hx : ch.getD j 0 = x) (hN : N ≤ 64)
    (hM : ∀ old : List Int, old.length = 64 → leftM old b x = b.take N ++ old.drop N) : spl (crashTo m.sure m.since ch j).flatten b (n * 64) N = (crashTo m.sure m.since ch (j + 1)).flatten := by
  have hj := (List.getElem?_eq_some_iff.1 hp).1
  have h64 := crashTo_64 (ch := ch) hs hl j (by omega)
  have hn' : n < (crashTo m.sure m.since ch j).length := by rw [crashTo_len]; exact hn
  have hb : b.length = 64 := hl _ (List.mem_of_getElem? hp)
  have hD : m.since.getD j zP = ((n : Int), b) := by rw [List.getD_eq_getElem?_getD, hp]; rfl
  rw [spl_set h64 hn' hb hN]
  show _ = ((crashTo m.sure m.since ch j).set (m.since.getD j zP).1.toNat (leftM ((crashTo m.sure m.since ch j).getD (m.since.getD j zP).1.toNat zB) (m.since.getD j zP).2 (ch.getD j 0))).flatten
  rw [hD, hx]
  show _ = ((crashTo m.sure m.since ch j).set (Int.toNat (n : Int)) (leftM ((crashTo m.sure m.since ch j).getD (Int.toNat (n : Int)) zB) b x)).flatten
  rw [Int.toNat_natCast, hM _ (h64.sec hn')]
set_option maxHeartbeats 8000000 in
set_option maxRecDepth 100000 in
theorem RCrash_calls (w : World) (base g : Nat) (X : RX) (m : DM) (h : RV w base g X m) (hs : m.since.length ≤ 1000000) (A : Option Addr) (c : Nat) (l : List Int) (hC : Kd.C (Kd.int .u8) w A l.length l) (hby : ∀ x ∈ l, 0 ≤ x ∧ x ≤ 255) :
    Calls Try.prog 34 #[.pointer (some ⟨g, 0, none⟩), .slice A l.length c] w fun e w' => ∃ g' X', e = .returned (.pointer (some ⟨g', 0, none⟩)) ∧ RV w' w.heap.size g' X' (crashed m l) ∧ Below w.heap.size w w' := by
  have H := Aside0.mk h
  have HC := Aside0.mk hC
  have HBY := Aside0.mk hby
  have HSI := Aside0.mk hs
  have k0 : w.cell? ⟨g, 0, none⟩ = some (.int .i64 m.now.length) := blk_cell h.blk 0
  have hn1 := h.n1
  have hn2 := h.n2
  have HNW := Aside0.mk (RNew_calls w m.now.length hn1 hn2)
  have HL64 : Aside0 (∀ p ∈ m.since, p.2.length = 64) := ⟨fun p hp => by
    obtain ⟨j, hj, rfl⟩ := List.mem_iff_getElem.1 hp
    obtain ⟨_, _, _, h2, _⟩ := h.bods j _ (List.getElem?_eq_getElem hj)
    exact h2⟩
  clear h hC hby hs
  go_enter Try.func34, Try.ntmps34
  go_wp2_with fail
  refine HNW.out.mono ?_
  rintro e w1 ⟨g', X', rfl, hr1, hv3, hb1⟩
  have R1 := Aside0.mk hr1
  have BW := Aside0.mk hb1
  have HV3 := Aside0.mk hv3
  have BW1 := Aside0.mk hb1
  clear hr1 hv3 HNW k0
  obtain ⟨hz1, hz2⟩ := R1.out.flat
  obtain ⟨hf1, hf2⟩ := H.out.flat
  have hm0 : (m0 m.now.length).now.length = m.now.length := by simp [m0]
  rw [hm0] at hz1 hz2
  obtain ⟨gs, cs, hv0, _, hgsl, _, _⟩ := Kd.R_form H.out.sure (by omega)
  obtain ⟨ps, cp, hx0, hpsg, hpsl, _, _⟩ := Kd.R_form R1.out.sure (by omega)
  obtain ⟨pn, cn, hx1, hpng, hpnl, _, _⟩ := Kd.R_form R1.out.now (by omega)
  obtain ⟨S, hS⟩ : ∃ S, S = m.sure.flatten := ⟨_, rfl⟩
  have HS := Aside0.mk hS
  have hSl : S.length = m.now.length * 64 := by rw [hS]; exact hf2
  have hzs : (m0 m.now.length).sure.flatten.length = S.length := by omega
  have hzn : (m0 m.now.length).now.flatten.length = S.length := by omega
  rw [← hS] at hv0
  rw [hzs] at hx0
  rw [hzn] at hx1
  have HSM := Aside0.mk (show S.length ≤ 262144 by omega)
  have HSL := Aside0.mk hSl
  have HV0 := Aside0.mk hv0
  have HX0 := Aside0.mk hx0
  have HX1 := Aside0.mk hx1
  have HZL := Aside0.mk (And.intro hzs hzn)
  have RS := Aside0.mk (show Kd.R (Kd.int .u8) 5 w base (fun _ => True) (.slice (some ⟨gs, 0, none⟩) S.length cs) S by have := H.out.sure; rw [hv0, ← hS] at this; exact this)
  have RZ := Aside0.mk (show Kd.R (Kd.int .u8) 5 w1 w.heap.size (fun _ => True) (.slice (some ⟨ps, 0, none⟩) S.length cp) (m0 m.now.length).sure.flatten by have := R1.out.sure; rw [hx0] at this; exact this)
  have RZN := Aside0.mk (show Kd.R (Kd.int .u8) 5 w1 w.heap.size (fun _ => True) (.slice (some ⟨pn, 0, none⟩) S.length cn) (m0 m.now.length).now.flatten by have := R1.out.now; rw [hx1] at this; exact this)
  have NE := Aside0.mk (show g' ≠ ps ∧ g' ≠ pn ∧ ps ≠ pn ∧ gs < w.heap.size from ⟨fun he => R1.out.ne.1 (by rw [hx0, he]; rfl), fun he => R1.out.ne.2.1 (by rw [hx1, he]; rfl), fun he => R1.out.ap ps (by rw [hx0]; rfl) (by rw [hx1, he]; rfl), hgsl⟩)
  have PSG := Aside0.mk hpsg
  have PNG := Aside0.mk hpng
  have K1 := Aside0.mk (show w1.cell? ⟨g', 1, none⟩ = some (.slice (some ⟨ps, 0, none⟩) S.length cp) by rw [← hx0]; exact blk_cell R1.out.blk 1)
  have K2 := Aside0.mk (show w1.cell? ⟨g', 2, none⟩ = some (.slice (some ⟨pn, 0, none⟩) S.length cn) by rw [← hx1]; exact blk_cell R1.out.blk 2)
  have KS1 := Aside0.mk (show w.cell? ⟨g, 1, none⟩ = some (.slice (some ⟨gs, 0, none⟩) S.length cs) by rw [← hv0]; exact blk_cell H.out.blk 1)
  obtain ⟨A2, cw, hv2⟩ := Kd.R_slice H.out.since
  rw [H.out.wlen] at hv2
  have HV2 := Aside0.mk hv2
  have KS3 := Aside0.mk (show w.cell? ⟨g, 3, none⟩ = some (.slice A2 m.since.length cw) by rw [← hv2]; exact blk_cell H.out.blk 3)
  have hsm : S.length ≤ 262144 := HSM.out
  clear hz1 hz2 hf1 hf2 hm0 hv0 hx0 hx1 hpsg hpsl hpng hpnl hgsl hS hSl hzs hzn hv2 hb1
  go_wp2_with fail
  go_loopg [7] S.length (fun r v7 wr => ∃ (i : Nat), v7 = .int .i64 i ∧ Aside0 (r + i = S.length) ∧ Aside0 (Kd.R (Kd.int .u8) 5 wr w.heap.size (fun _ => True) (.slice (some ⟨ps, 0, none⟩) S.length cp) (spl (m0 m.now.length).sure.flatten S 0 i)) ∧ Aside0 (Fr w1 wr (fun k => k = ps)))
  case atStart => exact ⟨0, rfl, ⟨by omega⟩, ⟨by rw [spl_zero]; exact RZ.out⟩, ⟨Fr.refl _ _⟩⟩
  case round =>
    obtain ⟨i, rfl, hr, RR, FR⟩ := hrel
    have BQ := Aside0.mk (below_fr BW1.out BW1.out.size FR.out (fun q hq => by rw [hq]; exact PSG.out))
    have kr1 : wr.cell? ⟨g, 1, none⟩ = some (.slice (some ⟨gs, 0, none⟩) S.length cs) := pw_cell_below BQ.out KS1.out
    have kx1 : wr.cell? ⟨g', 1, none⟩ = some (.slice (some ⟨ps, 0, none⟩) S.length cp) := cell_fr K1.out FR.out NE.out.1
    by_cases hi : i < S.length
    · have hi2 : (i : Int) < (S.length : Int) := by omega
      have hi4 : (0 : Int) ≤ (i : Int) := by omega
      obtain ⟨x, hx⟩ : ∃ x, S[i]? = some x := ⟨_, List.getElem?_eq_getElem hi⟩
      have hcn := (Kd.R_celln (0 : Int) RS.out (i : Int) hi4 hi2).1
      rw [getD_of hx, Int.toNat_natCast] at hcn
      have kx : wr.cell? ⟨gs, i, none⟩ = some (.int .u8 x) := pw_cell_below BQ.out hcn
      have hcs := Kd.R_celln (0 : Int) RR.out (i : Int) hi4 hi2
      rw [Int.toNat_natCast] at hcs
      have fz : wr.drew.frozen? ⟨ps, i, none⟩ = false := hcs.2
      have kcs := hcs.1
      have PUT := Aside0.mk (Kd.R_putn (Kd.R_drew RR.out) (i : Int) x)
      have NX : Aside0 ((spl (m0 m.now.length).sure.flatten S 0 i).set i x = spl (m0 m.now.length).sure.flatten S 0 (i + 1)) := ⟨by have h_ := spl_next (l := (m0 m.now.length).sure.flatten) (b := S) (o := 0) (k := i) (x := x) (by have := HZL.out.1; omega) hx; rw [Nat.zero_add] at h_; exact h_⟩
      clear hx hcn hcs
      go_upto_region 5 with fail
      refine start_ (n := 14) (S := fun w' => w'.cell? ⟨g', 1, none⟩ = some (.slice (some ⟨ps, 0, none⟩) S.length cp) ∧ w'.cell? ⟨g, 1, none⟩ = some (.slice (some ⟨gs, 0, none⟩) S.length cs) ∧ w'.cell? ⟨gs, i, none⟩ = some (.int .u8 x)) (ds := [13]) #[false, false, false, false, false, false, false, false, false, false, false, false, false, false] (by kernel_rfl) rfl rfl ⟨kx1, kr1, kx⟩ (fun hHeld => ?_)
      refine pure_ (i := 0) (N := some 30) (v := ?_) (a' := ?_) #[true, false, false, false, false, false, false, false, false, false, false, false, false, false] rfl rfl (by kernel_rfl) (fun _ _ _ h => h) (Or.inl ⟨by rfl, ?_⟩) ?_ ?_
      rotate_left
      · intro w'
        go_simp
        with_reducible rfl
      rotate_left
      · simp only [Act.put, List.setIfInBounds_toArray, List.set_cons_zero, List.set_cons_succ, i64_w, i32_w]
        rfl
      refine pure_ (i := 1) (N := some 31) (v := ?_) (a' := ?_) #[true, true, false, false, false, false, false, false, false, false, false, false, false, false] rfl rfl (by kernel_rfl) (fun _ _ _ h => h) (Or.inl ⟨by rfl, ?_⟩) ?_ ?_
      rotate_left
      · intro w'
        go_simp
        with_reducible rfl
      rotate_left
      · simp only [Act.put, List.setIfInBounds_toArray, List.set_cons_zero, List.set_cons_succ, i64_w, i32_w]
        rfl
      refine pure_ (i := 2) (N := some 32) (v := ?_) (a' := ?_) #[true, true, true, false, false, false, false, false, false, false, false, false, false, false] rfl rfl (by kernel_rfl) (fun _ _ _ h => h) (Or.inl ⟨by rfl, ?_⟩) ?_ ?_
      rotate_left
      · intro w'
        go_simp
        with_reducible rfl
      rotate_left
      · simp only [Act.put, List.setIfInBounds_toArray, List.set_cons_zero, List.set_cons_succ, i64_w, i32_w]
        rfl
      refine pure_ (i := 4) (N := some 34) (v := ?_) (a' := ?_) #[true, true, true, false, true, false, false, false, false, false, false, false, false, false] rfl rfl (by kernel_rfl) (fun _ _ _ h => h) (Or.inl ⟨by rfl, ?_⟩) ?_ ?_
      rotate_left
      · intro w'
        go_simp
        with_reducible rfl
      rotate_left
      · simp only [Act.put, List.setIfInBounds_toArray, List.set_cons_zero, List.set_cons_succ, i64_w, i32_w]
        rfl
      refine pure_ (i := 5) (N := some 35) (v := ?_) (a' := ?_) #[true, true, true, false, true, true, false, false, false, false, false, false, false, false] rfl rfl (by kernel_rfl) (fun _ _ _ h => h) (Or.inl ⟨by rfl, ?_⟩) ?_ ?_
      rotate_left
      · intro w'
        go_simp
        with_reducible rfl
      rotate_left
      · simp only [Act.put, List.setIfInBounds_toArray, List.set_cons_zero, List.set_cons_succ, i64_w, i32_w]
        rfl
      refine pure_ (i := 6) (N := some 36) (v := ?_) (a' := ?_) #[true, true, true, false, true, true, true, false, false, false, false, false, false, false] rfl rfl (by kernel_rfl) (fun _ _ _ h => h) (Or.inl ⟨by rfl, ?_⟩) ?_ ?_
      rotate_left
      · intro w'
        go_simp
        with_reducible rfl
      rotate_left
      · simp only [Act.put, List.setIfInBounds_toArray, List.set_cons_zero, List.set_cons_succ, i64_w, i32_w]
        rfl
      refine pure_ (i := 7) (N := some 37) (v := ?_) (a' := ?_) #[true, true, true, false, true, true, true, true, false, false, false, false, false, false] rfl rfl (by kernel_rfl) (fun _ _ _ h => h) (Or.inl ⟨by rfl, ?_⟩) ?_ ?_
      rotate_left
      · intro w'
        go_simp
        with_reducible rfl
      rotate_left
      · simp only [Act.put, List.setIfInBounds_toArray, List.set_cons_zero, List.set_cons_succ, i64_w, i32_w]
        rfl
      refine pure_ (i := 9) (N := some 39) (v := ?_) (a' := ?_) #[true, true, true, false, true, true, true, true, false, true, false, false, false, false] rfl rfl (by kernel_rfl) (fun _ _ _ h => h) (Or.inl ⟨by rfl, ?_⟩) ?_ ?_
      rotate_left
      · intro w'
        go_simp
        with_reducible rfl
      rotate_left
      · simp only [Act.put, List.setIfInBounds_toArray, List.set_cons_zero, List.set_cons_succ, i64_w, i32_w]
        rfl
      refine take_ (i := 3) (N := some 33) (v := ?_) (a' := ?_) #[true, true, true, true, true, true, true, true, false, true, false, false, false, false] rfl rfl (by kernel_rfl) (fun _ _ _ h => h) (Or.inl ⟨by rfl, ?_⟩) hHeld ?_ ?_
      rotate_left
      · rintro w' ⟨s0, s1, s2⟩
        go_simp
        with_reducible rfl
      rotate_left
      · simp only [Act.put, List.setIfInBounds_toArray, List.set_cons_zero, List.set_cons_succ, i64_w, i32_w]
        rfl
      refine take_ (i := 8) (N := some 38) (v := ?_) (a' := ?_) #[true, true, true, true, true, true, true, true, true, true, false, false, false, false] rfl rfl (by kernel_rfl) (fun _ _ _ h => h) (Or.inl ⟨by rfl, ?_⟩) hHeld ?_ ?_
      rotate_left
      · rintro w' ⟨s0, s1, s2⟩
        go_simp
        with_reducible rfl
      rotate_left
      · simp only [Act.put, List.setIfInBounds_toArray, List.set_cons_zero, List.set_cons_succ, i64_w, i32_w]
        rfl
      refine pure_ (i := 10) (N := some 40) (v := ?_) (a' := ?_) #[true, true, true, true, true, true, true, true, true, true, true, false, false, false] rfl rfl (by kernel_rfl) (fun _ _ _ h => h) (Or.inl ⟨by rfl, ?_⟩) ?_ ?_
      rotate_left
      · intro w'
        go_simp
        with_reducible rfl
      rotate_left
      · simp only [Act.put, List.setIfInBounds_toArray, List.set_cons_zero, List.set_cons_succ, i64_w, i32_w]
        rfl
      refine take_ (i := 11) (N := some 41) (v := ?_) (a' := ?_) #[true, true, true, true, true, true, true, true, true, true, true, true, false, false] rfl rfl (by kernel_rfl) (fun _ _ _ h => h) (Or.inl ⟨by rfl, ?_⟩) hHeld ?_ ?_
      rotate_left
      · rintro w' ⟨s0, s1, s2⟩
        go_simp
        with_reducible rfl
      rotate_left
      · simp only [Act.put, List.setIfInBounds_toArray, List.set_cons_zero, List.set_cons_succ, i64_w, i32_w]
        rfl
      refine pure_ (i := 12) (N := some 42) (v := ?_) (a' := ?_) #[true, true, true, true, true, true, true, true, true, true, true, true, true, false] rfl rfl (by kernel_rfl) (fun _ _ _ h => h) (Or.inl ⟨by rfl, ?_⟩) ?_ ?_
      rotate_left
      · intro w'
        go_simp
        with_reducible rfl
      rotate_left
      · simp only [Act.put, List.setIfInBounds_toArray, List.set_cons_zero, List.set_cons_succ, i64_w, i32_w]
        rfl
      refine last_ (i := 13) (N := none) #[true, true, true, true, true, true, true, true, true, true, true, true, true, true] rfl rfl (by kernel_rfl) (by decide) (fun K hK => ?_)
      refine skip_ (w1 := ?_) (by rfl) rfl ?_ ?_
      rotate_left
      · go_simp
        rfl
      refine hK.out _ _ ?_
      clear hK K
      refine done_ (by kernel_rfl) ?_
      go_wp2_with fail
      go_roundg (S.length - (i + 1))
      case measure => have := hr.out; omega
      case rel => exact ⟨i + 1, by first | rfl | (rw [show wrap64 ((i : Int) + 1) = ((i + 1 : Nat) : Int) from by unfold wrap64; omega]), ⟨by omega⟩, ⟨by have h_ := PUT.out; rw [Int.toNat_natCast, NX.out] at h_; exact h_⟩, ⟨(FR.out.drew).set (.inl rfl) _⟩⟩
    · have hil : i = S.length := by have := hr.out; omega
      subst hil
      have hrow := RR.out
      rw [spl_full HZL.out.1, HS.out] at hrow
      have HRW : Aside0 (Kd.R (Kd.int .u8) 5 wr w.heap.size (fun _ => True) (.slice (some ⟨ps, 0, none⟩) S.length cp) (crashTo m.sure m.since l 0).flatten) := ⟨by rw [← HS.out] at hrow; rw [show (crashTo m.sure m.since l 0).flatten = S by rw [HS.out]; rfl]; exact hrow⟩
      have FR0 := FR
      clear hrow RR kx1 BQ FR
      have hsi : m.since.length ≤ 1000000 := HSI.out
      go_wp2_with fail
      clear kr1
      go_loopg [8] m.since.length (fun r v8 wr => ∃ (j : Nat), v8 = .int .i64 j ∧ Aside0 (r + j = m.since.length) ∧ Aside0 (Kd.R (Kd.int .u8) 5 wr w.heap.size (fun _ => True) (.slice (some ⟨ps, 0, none⟩) S.length cp) (crashTo m.sure m.since l j).flatten) ∧ Aside0 (Fr w1 wr (fun k => k = ps)))
      case atStart => exact ⟨0, rfl, ⟨by omega⟩, HRW, FR0⟩
      case round =>
        clear HRW FR0
        obtain ⟨j, rfl, hr, RR, FR⟩ := hrel
        have BQ := Aside0.mk (below_fr BW1.out BW1.out.size FR.out (fun q hq => by rw [hq]; exact PSG.out))
        have kr3 : wr.cell? ⟨g, 3, none⟩ = some (.slice A2 m.since.length cw) := pw_cell_below BQ.out KS3.out
        by_cases hj : j < m.since.length
        · have hj2 : (j : Int) < (m.since.length : Int) := by omega
          have hj4 : (0 : Int) ≤ (j : Int) := by omega
          obtain ⟨p, hp⟩ : ∃ p, m.since[j]? = some p := ⟨_, List.getElem?_eq_getElem hj⟩
          obtain ⟨a, b⟩ := p
          have hat := H.out.at_ _ (List.mem_of_getElem? hp)
          have hat : 0 ≤ a ∧ a < (m.now.length : Int) := hat
          obtain ⟨n, rfl⟩ := Int.eq_ofNat_of_zero_le hat.1
          obtain ⟨gb, cap, hws, hb64, hcap, hrg, _, _, _⟩ := H.out.bods j _ hp
          obtain ⟨gw, hA2, he0, he1⟩ := kO_at (by have h_ := H.out.since; rw [HV2.out] at h_; exact h_) hws
          subst hA2
          have HK3 := KS3
          have HE0 := Aside0.mk he0
          have HE1 : Aside0 (w.cell? ⟨gw, j * 2 + 1, none⟩ = some (.slice (some ⟨gb, 0, none⟩) 64 cap)) := ⟨he1⟩
          have HB64 : Aside0 (b.length = 64) := ⟨hb64⟩
          have HRG : Aside0 (w.rangeAt gb 0 (encs (Value.int .u8) b)) := ⟨hrg⟩
          have HSN : Aside0 (n * 64 + 64 ≤ S.length) := ⟨by have := HSL.out; omega⟩
          have hn4 : n ≤ 4096 := by omega
          obtain ⟨Qn, hQn⟩ : ∃ Q : Nat, (n : Int) * 64 = (Q : Int) := ⟨n * 64, by omega⟩
          have HQn := Aside0.mk (show Qn = n * 64 by omega)
          have hwQ : wrap64 (Qn : Int) = (Qn : Int) := by unfold wrap64; omega
          obtain ⟨P, hP⟩ : ∃ P, P = (crashTo m.sure m.since l j).flatten := ⟨_, rfl⟩
          have HPL : Aside0 (P.length = S.length) := ⟨by rw [hP, flat_len (crashTo_64 H.out.s64 HL64.out j (by omega)), crashTo_len, HSL.out, H.out.len]⟩
          have HKP : Aside0 (∀ k, k < 64 → n * 64 + k < P.length) := ⟨fun k hk => by have h1 := HPL.out; have h2 := HSN.out; clear hwQ; omega⟩
          rw [← hP] at RR
          have HP := Aside0.mk hP
          have NXT : Aside0 (∀ (x : Int) (N : Nat), l.getD j 0 = x → N ≤ 64 → (∀ old : List Int, old.length = 64 → leftM old b x = b.take N ++ old.drop N) → spl P b (n * 64) N = (crashTo m.sure m.since l (j + 1)).flatten) := ⟨fun x N hx hN hM => by rw [HP.out]; exact crash_next H.out.s64 HL64.out hp (by rw [H.out.len]; omega) hx hN hM⟩
          clear hp hat hws hb64 hcap hrg he0 he1 hP BQ
          by_cases hjl : j < l.length
          · have hjl2 : (j : Int) < (l.length : Int) := by omega
            obtain ⟨x, hx⟩ : ∃ x, l[j]? = some x := ⟨_, List.getElem?_eq_getElem hjl⟩
            obtain ⟨ad, hAd, hcell⟩ := Kd.at_int HC.out (j : Int) hj4 hjl2
            rw [show rd l (j : Int) = x from getD_of hx, Int.toNat_natCast] at hcell
            have hcell : wr.cell? (ad.add j) = some (.int .u8 x) := pw_cell_below (below_fr BW1.out BW1.out.size FR.out (fun q hq => by rw [hq]; exact PSG.out)) hcell
            subst hAd
            have hxb : 0 ≤ x ∧ x ≤ 255 := HBY.out x (List.mem_of_getElem? hx)
            have hx0 : 0 ≤ x := hxb.1
            have hxD : Aside0 (l.getD j 0 = x) := ⟨by rw [List.getD_eq_getElem?_getD, hx]; rfl⟩
            clear hx
            have hc3 : x % 3 = 0 ∨ x % 3 = 1 ∨ x % 3 = 2 := by omega
            rcases hc3 with hc | hc | hc
            · have t0 : (x % 3 == 0) = true := by rw [hc]; rfl
              have HEND := Aside0.mk (NXT.out x 64 hxD.out (Nat.le_refl _) (fun old ho => left0 old b HB64.out ho hc))
              have HN64 : Aside0 (64 ≤ 64) := ⟨Nat.le_refl _⟩
              clear hc
              clear hsm hsi
              go_wp2_with fail
              go_loopg [11] 64 (fun r v11 wq => ∃ (k : Nat), v11 = .int .i64 k ∧ Aside0 (r + k = 64) ∧ Aside0 (Kd.R (Kd.int .u8) 5 wq w.heap.size (fun _ => True) (.slice (some ⟨ps, 0, none⟩) S.length cp) (spl P b (n * 64) k)) ∧ Aside0 (Fr w1 wq (fun k => k = ps)))
              case atStart => exact ⟨0, rfl, ⟨by omega⟩, ⟨by rw [spl_zero]; exact RR.out⟩, FR⟩
              case round =>
                obtain ⟨k, rfl, hr2, RQ, FQ⟩ := hrel
                by_cases hk : k < 64
                · have hk2 : (k : Int) < 64 := by omega
                  have hk3 : (0 : Int) ≤ (k : Int) := by omega
                  have hk64 : k < 64 := by have := HN64.out; omega
                  have hk65 : (k : Int) < 64 := by omega
                  obtain ⟨y, hy⟩ : ∃ y, b[k]? = some y := ⟨_, List.getElem?_eq_getElem (by rw [HB64.out]; exact hk64)⟩
                  have BQ := Aside0.mk (below_fr BW1.out BW1.out.size FQ.out (fun q hq => by rw [hq]; exact PSG.out))
                  have kq1 : wr.cell? ⟨g', 1, none⟩ = some (.slice (some ⟨ps, 0, none⟩) S.length cp) := cell_fr K1.out FQ.out NE.out.1
                  have kq3 : wr.cell? ⟨g, 3, none⟩ = some (.slice (some ⟨gw, 0, none⟩) m.since.length cw) := pw_cell_below BQ.out HK3.out
                  have kqa : wr.cell? ⟨gw, j * 2, none⟩ = some (.int .i64 n) := pw_cell_below BQ.out HE0.out
                  have kqb : wr.cell? ⟨gw, j * 2 + 1, none⟩ = some (.slice (some ⟨gb, 0, none⟩) 64 cap) := pw_cell_below BQ.out HE1.out
                  have kqy0 := HRG.out k (.int .u8 y) (by unfold encs; rw [List.getElem?_map, hy]; rfl)
                  rw [Nat.zero_add] at kqy0
                  have kqy : wr.cell? ⟨gb, k, none⟩ = some (.int .u8 y) := pw_cell_below BQ.out kqy0
                  obtain ⟨q, hq⟩ : ∃ q : Nat, (Qn : Int) + (k : Int) = (q : Int) := ⟨Qn + k, by omega⟩
                  have HQ := Aside0.mk (show q = n * 64 + k by have := HQn.out; omega)
                  have hq2 : (q : Int) < (S.length : Int) := by have := HSN.out; have := HQ.out; omega
                  have hq3 : (0 : Int) ≤ (q : Int) := by omega
                  have hwq : wrap64 (q : Int) = (q : Int) := by have := HSM.out; unfold wrap64; omega
                  have hcs := Kd.R_celln (0 : Int) RQ.out (q : Int) hq3 hq2
                  rw [Int.toNat_natCast] at hcs
                  have fz : wr.drew.frozen? ⟨ps, q, none⟩ = false := hcs.2
                  have kqq := hcs.1
                  have PUT := Aside0.mk (Kd.R_putn (Kd.R_drew RQ.out) (q : Int) y)
                  have NX : Aside0 ((spl P b (n * 64) k).set (n * 64 + k) y = spl P b (n * 64) (k + 1)) := ⟨spl_next (HKP.out k hk64) hy⟩
                  clear hy kqy0 hcs
                  go_upto_region 21 with fail
                  refine start_ (n := 28) (S := fun w' => w'.cell? ⟨g', 1, none⟩ = some (.slice (some ⟨ps, 0, none⟩) S.length cp) ∧ w'.cell? ⟨g, 3, none⟩ = some (.slice (some ⟨gw, 0, none⟩) m.since.length cw) ∧ w'.cell? ⟨gw, j * 2, none⟩ = some (.int .i64 n) ∧ w'.cell? ⟨gw, j * 2 + 1, none⟩ = some (.slice (some ⟨gb, 0, none⟩) 64 cap) ∧ w'.cell? ⟨gb, k, none⟩ = some (.int .u8 y)) (ds := [27]) #[false, false, false, false, false, false, false, false, false, false, false, false, false, false, false, false, false, false, false, false, false, false, false, false, false, false, false, false] (by kernel_rfl) rfl rfl ⟨kq1, kq3, kqa, kqb, kqy⟩ (fun hHeld => ?_)
                  refine pure_ (i := 0) (N := some 75) (v := ?_) (a' := ?_) #[true, false, false, false, false, false, false, false, false, false, false, false, false, false, false, false, false, false, false, false, false, false, false, false, false, false, false, false] rfl rfl (by kernel_rfl) (fun _ _ _ h => h) (Or.inl ⟨by rfl, ?_⟩) ?_ ?_
                  rotate_left
                  · intro w'
                    go_simp
                    with_reducible rfl
                  rotate_left
                  · simp only [Act.put, List.setIfInBounds_toArray, List.set_cons_zero, List.set_cons_succ, i64_w, i32_w]
                    rfl
                  refine pure_ (i := 1) (N := some 76) (v := ?_) (a' := ?_) #[true, true, false, false, false, false, false, false, false, false, false, false, false, false, false, false, false, false, false, false, false, false, false, false, false, false, false, false] rfl rfl (by kernel_rfl) (fun _ _ _ h => h) (Or.inl ⟨by rfl, ?_⟩) ?_ ?_
                  rotate_left
                  · intro w'
                    go_simp
                    with_reducible rfl
                  rotate_left
                  · simp only [Act.put, List.setIfInBounds_toArray, List.set_cons_zero, List.set_cons_succ, i64_w, i32_w]
                    rfl
                  refine pure_ (i := 2) (N := some 77) (v := ?_) (a' := ?_) #[true, true, true, false, false, false, false, false, false, false, false, false, false, false, false, false, false, false, false, false, false, false, false, false, false, false, false, false] rfl rfl (by kernel_rfl) (fun _ _ _ h => h) (Or.inl ⟨by rfl, ?_⟩) ?_ ?_
                  rotate_left
                  · intro w'
                    go_simp
                    with_reducible rfl
                  rotate_left
                  · simp only [Act.put, List.setIfInBounds_toArray, List.set_cons_zero, List.set_cons_succ, i64_w, i32_w]
                    rfl
                  refine pure_ (i := 4) (N := some 79) (v := ?_) (a' := ?_) #[true, true, true, false, true, false, false, false, false, false, false, false, false, false, false, false, false, false, false, false, false, false, false, false, false, false, false, false] rfl rfl (by kernel_rfl) (fun _ _ _ h => h) (Or.inl ⟨by rfl, ?_⟩) ?_ ?_
                  rotate_left
                  · intro w'
                    go_simp
                    with_reducible rfl
                  rotate_left
                  · simp only [Act.put, List.setIfInBounds_toArray, List.set_cons_zero, List.set_cons_succ, i64_w, i32_w]
                    rfl
                  refine pure_ (i := 5) (N := some 80) (v := ?_) (a' := ?_) #[true, true, true, false, true, true, false, false, false, false, false, false, false, false, false, false, false, false, false, false, false, false, false, false, false, false, false, false] rfl rfl (by kernel_rfl) (fun _ _ _ h => h) (Or.inl ⟨by rfl, ?_⟩) ?_ ?_
                  rotate_left
                  · intro w'
                    go_simp
                    with_reducible rfl
                  rotate_left
                  · simp only [Act.put, List.setIfInBounds_toArray, List.set_cons_zero, List.set_cons_succ, i64_w, i32_w]
                    rfl
                  refine pure_ (i := 6) (N := some 81) (v := ?_) (a' := ?_) #[true, true, true, false, true, true, true, false, false, false, false, false, false, false, false, false, false, false, false, false, false, false, false, false, false, false, false, false] rfl rfl (by kernel_rfl) (fun _ _ _ h => h) (Or.inl ⟨by rfl, ?_⟩) ?_ ?_
                  rotate_left
                  · intro w'
                    go_simp
                    with_reducible rfl
                  rotate_left
                  · simp only [Act.put, List.setIfInBounds_toArray, List.set_cons_zero, List.set_cons_succ, i64_w, i32_w]
                    rfl
                  refine pure_ (i := 8) (N := some 83) (v := ?_) (a' := ?_) #[true, true, true, false, true, true, true, false, true, false, false, false, false, false, false, false, false, false, false, false, false, false, false, false, false, false, false, false] rfl rfl (by kernel_rfl) (fun _ _ _ h => h) (Or.inl ⟨by rfl, ?_⟩) ?_ ?_
                  rotate_left
                  · intro w'
                    go_simp
                    with_reducible rfl
                  rotate_left
                  · simp only [Act.put, List.setIfInBounds_toArray, List.set_cons_zero, List.set_cons_succ, i64_w, i32_w]
                    rfl
                  refine pure_ (i := 13) (N := some 88) (v := ?_) (a' := ?_) #[true, true, true, false, true, true, true, false, true, false, false, false, false, true, false, false, false, false, false, false, false, false, false, false, false, false, false, false] rfl rfl (by kernel_rfl) (fun _ _ _ h => h) (Or.inl ⟨by rfl, ?_⟩) ?_ ?_
                  rotate_left
                  · intro w'
                    go_simp
                    with_reducible rfl
                  rotate_left
                  · simp only [Act.put, List.setIfInBounds_toArray, List.set_cons_zero, List.set_cons_succ, i64_w, i32_w]
                    rfl
                  refine pure_ (i := 15) (N := some 90) (v := ?_) (a' := ?_) #[true, true, true, false, true, true, true, false, true, false, false, false, false, true, false, true, false, false, false, false, false, false, false, false, false, false, false, false] rfl rfl (by kernel_rfl) (fun _ _ _ h => h) (Or.inl ⟨by rfl, ?_⟩) ?_ ?_
                  rotate_left
                  · intro w'
                    go_simp
                    with_reducible rfl
                  rotate_left
                  · simp only [Act.put, List.setIfInBounds_toArray, List.set_cons_zero, List.set_cons_succ, i64_w, i32_w]
                    rfl
                  refine pure_ (i := 16) (N := some 91) (v := ?_) (a' := ?_) #[true, true, true, false, true, true, true, false, true, false, false, false, false, true, false, true, true, false, false, false, false, false, false, false, false, false, false, false] rfl rfl (by kernel_rfl) (fun _ _ _ h => h) (Or.inl ⟨by rfl, ?_⟩) ?_ ?_
                  rotate_left
                  · intro w'
                    go_simp
                    with_reducible rfl
                  rotate_left
                  · simp only [Act.put, List.setIfInBounds_toArray, List.set_cons_zero, List.set_cons_succ, i64_w, i32_w]
                    rfl
                  refine pure_ (i := 17) (N := some 92) (v := ?_) (a' := ?_) #[true, true, true, false, true, true, true, false, true, false, false, false, false, true, false, true, true, true, false, false, false, false, false, false, false, false, false, false] rfl rfl (by kernel_rfl) (fun _ _ _ h => h) (Or.inl ⟨by rfl, ?_⟩) ?_ ?_
                  rotate_left
                  · intro w'
                    go_simp
                    with_reducible rfl
                  rotate_left
                  · simp only [Act.put, List.setIfInBounds_toArray, List.set_cons_zero, List.set_cons_succ, i64_w, i32_w]
                    rfl
                  refine pure_ (i := 19) (N := some 94) (v := ?_) (a' := ?_) #[true, true, true, false, true, true, true, false, true, false, false, false, false, true, false, true, true, true, false, true, false, false, false, false, false, false, false, false] rfl rfl (by kernel_rfl) (fun _ _ _ h => h) (Or.inl ⟨by rfl, ?_⟩) ?_ ?_
                  rotate_left
                  · intro w'
                    go_simp
                    with_reducible rfl
                  rotate_left
                  · simp only [Act.put, List.setIfInBounds_toArray, List.set_cons_zero, List.set_cons_succ, i64_w, i32_w]
                    rfl
                  refine pure_ (i := 23) (N := some 98) (v := ?_) (a' := ?_) #[true, true, true, false, true, true, true, false, true, false, false, false, false, true, false, true, true, true, false, true, false, false, false, true, false, false, false, false] rfl rfl (by kernel_rfl) (fun _ _ _ h => h) (Or.inl ⟨by rfl, ?_⟩) ?_ ?_
                  rotate_left
                  · intro w'
                    go_simp
                    with_reducible rfl
                  rotate_left
                  · simp only [Act.put, List.setIfInBounds_toArray, List.set_cons_zero, List.set_cons_succ, i64_w, i32_w]
                    rfl
                  refine take_ (i := 3) (N := some 78) (v := ?_) (a' := ?_) #[true, true, true, true, true, true, true, false, true, false, false, false, false, true, false, true, true, true, false, true, false, false, false, true, false, false, false, false] rfl rfl (by kernel_rfl) (fun _ _ _ h => h) (Or.inl ⟨by rfl, ?_⟩) hHeld ?_ ?_
                  rotate_left
                  · rintro w' ⟨s0, s1, s2, s3, s4⟩
                    go_simp
                    with_reducible rfl
                  rotate_left
                  · simp only [Act.put, List.setIfInBounds_toArray, List.set_cons_zero, List.set_cons_succ, i64_w, i32_w]
                    rfl
                  refine take_ (i := 7) (N := some 82) (v := ?_) (a' := ?_) #[true, true, true, true, true, true, true, true, true, false, false, false, false, true, false, true, true, true, false, true, false, false, false, true, false, false, false, false] rfl rfl (by kernel_rfl) (fun _ _ _ h => h) (Or.inl ⟨by rfl, ?_⟩) hHeld ?_ ?_
                  rotate_left
                  · rintro w' ⟨s0, s1, s2, s3, s4⟩
                    go_simp
                    with_reducible rfl
                  rotate_left
                  · simp only [Act.put, List.setIfInBounds_toArray, List.set_cons_zero, List.set_cons_succ, i64_w, i32_w]
                    rfl
                  refine pure_ (i := 9) (N := some 84) (v := ?_) (a' := ?_) #[true, true, true, true, true, true, true, true, true, true, false, false, false, true, false, true, true, true, false, true, false, false, false, true, false, false, false, false] rfl rfl (by kernel_rfl) (fun _ _ _ h => h) (Or.inl ⟨by rfl, ?_⟩) ?_ ?_
                  rotate_left
                  · intro w'
                    go_simp
                    with_reducible rfl
                  rotate_left
                  · simp only [Act.put, List.setIfInBounds_toArray, List.set_cons_zero, List.set_cons_succ, i64_w, i32_w]
                    rfl
                  refine pure_ (i := 10) (N := some 85) (v := ?_) (a' := ?_) #[true, true, true, true, true, true, true, true, true, true, true, false, false, true, false, true, true, true, false, true, false, false, false, true, false, false, false, false] rfl rfl (by kernel_rfl) (fun _ _ _ h => h) (Or.inl ⟨by rfl, ?_⟩) ?_ ?_
                  rotate_left
                  · intro w'
                    go_simp
                    with_reducible rfl
                  rotate_left
                  · simp only [Act.put, List.setIfInBounds_toArray, List.set_cons_zero, List.set_cons_succ, i64_w, i32_w]
                    rfl
                  refine take_ (i := 11) (N := some 86) (v := ?_) (a' := ?_) #[true, true, true, true, true, true, true, true, true, true, true, true, false, true, false, true, true, true, false, true, false, false, false, true, false, false, false, false] rfl rfl (by kernel_rfl) (fun _ _ _ h => h) (Or.inl ⟨by rfl, ?_⟩) hHeld ?_ ?_
                  rotate_left
                  · rintro w' ⟨s0, s1, s2, s3, s4⟩
                    go_simp
                    with_reducible rfl
                  rotate_left
                  · simp only [Act.put, List.setIfInBounds_toArray, List.set_cons_zero, List.set_cons_succ, i64_w, i32_w]
                    rfl
                  refine pure_ (i := 12) (N := some 87) (v := ?_) (a' := ?_) #[true, true, true, true, true, true, true, true, true, true, true, true, true, true, false, true, true, true, false, true, false, false, false, true, false, false, false, false] rfl rfl (by kernel_rfl) (fun _ _ _ h => h) (Or.inl ⟨by rfl, ?_⟩) ?_ ?_
                  rotate_left
                  · intro w'
                    go_simp
                    with_reducible rfl
                  rotate_left
                  · simp only [Act.put, List.setIfInBounds_toArray, List.set_cons_zero, List.set_cons_succ, i64_w, i32_w]
                    rfl
                  refine pure_ (i := 14) (N := some 89) (v := ?_) (a' := ?_) #[true, true, true, true, true, true, true, true, true, true, true, true, true, true, true, true, true, true, false, true, false, false, false, true, false, false, false, false] rfl rfl (by kernel_rfl) (fun _ _ _ h => h) (Or.inl ⟨by rfl, ?_⟩) ?_ ?_
                  rotate_left
                  · intro w'
                    go_simp
                    with_reducible rfl
                  rotate_left
                  · simp only [Act.put, List.setIfInBounds_toArray, List.set_cons_zero, List.set_cons_succ, i64_w, i32_w]
                    rfl
                  refine take_ (i := 18) (N := some 93) (v := ?_) (a' := ?_) #[true, true, true, true, true, true, true, true, true, true, true, true, true, true, true, true, true, true, true, true, false, false, false, true, false, false, false, false] rfl rfl (by kernel_rfl) (fun _ _ _ h => h) (Or.inl ⟨by rfl, ?_⟩) hHeld ?_ ?_
                  rotate_left
                  · rintro w' ⟨s0, s1, s2, s3, s4⟩
                    go_simp
                    with_reducible rfl
                  rotate_left
                  · simp only [Act.put, List.setIfInBounds_toArray, List.set_cons_zero, List.set_cons_succ, i64_w, i32_w]
                    rfl
                  refine pure_ (i := 20) (N := some 95) (v := ?_) (a' := ?_) #[true, true, true, true, true, true, true, true, true, true, true, true, true, true, true, true, true, true, true, true, true, false, false, true, false, false, false, false] rfl rfl (by kernel_rfl) (fun _ _ _ h => h) (Or.inl ⟨by rfl, ?_⟩) ?_ ?_
                  rotate_left
                  · intro w'
                    go_simp
                    with_reducible rfl
                  rotate_left
                  · simp only [Act.put, List.setIfInBounds_toArray, List.set_cons_zero, List.set_cons_succ, i64_w, i32_w]
                    rfl
                  refine pure_ (i := 21) (N := some 96) (v := ?_) (a' := ?_) #[true, true, true, true, true, true, true, true, true, true, true, true, true, true, true, true, true, true, true, true, true, true, false, true, false, false, false, false] rfl rfl (by kernel_rfl) (fun _ _ _ h => h) (Or.inl ⟨by rfl, ?_⟩) ?_ ?_
                  rotate_left
                  · intro w'
                    go_simp
                    with_reducible rfl
                  rotate_left
                  · simp only [Act.put, List.setIfInBounds_toArray, List.set_cons_zero, List.set_cons_succ, i64_w, i32_w]
                    rfl
                  refine take_ (i := 22) (N := some 97) (v := ?_) (a' := ?_) #[true, true, true, true, true, true, true, true, true, true, true, true, true, true, true, true, true, true, true, true, true, true, true, true, false, false, false, false] rfl rfl (by kernel_rfl) (fun _ _ _ h => h) (Or.inl ⟨by rfl, ?_⟩) hHeld ?_ ?_
                  rotate_left
                  · rintro w' ⟨s0, s1, s2, s3, s4⟩
                    go_simp
                    with_reducible rfl
                  rotate_left
                  · simp only [Act.put, List.setIfInBounds_toArray, List.set_cons_zero, List.set_cons_succ, i64_w, i32_w]
                    rfl
                  refine pure_ (i := 24) (N := some 99) (v := ?_) (a' := ?_) #[true, true, true, true, true, true, true, true, true, true, true, true, true, true, true, true, true, true, true, true, true, true, true, true, true, false, false, false] rfl rfl (by kernel_rfl) (fun _ _ _ h => h) (Or.inl ⟨by rfl, ?_⟩) ?_ ?_
                  rotate_left
                  · intro w'
                    go_simp
                    with_reducible rfl
                  rotate_left
                  · simp only [Act.put, List.setIfInBounds_toArray, List.set_cons_zero, List.set_cons_succ, i64_w, i32_w]
                    rfl
                  refine take_ (i := 25) (N := some 100) (v := ?_) (a' := ?_) #[true, true, true, true, true, true, true, true, true, true, true, true, true, true, true, true, true, true, true, true, true, true, true, true, true, true, false, false] rfl rfl (by kernel_rfl) (fun _ _ _ h => h) (Or.inl ⟨by rfl, ?_⟩) hHeld ?_ ?_
                  rotate_left
                  · rintro w' ⟨s0, s1, s2, s3, s4⟩
                    go_simp
                    with_reducible rfl
                  rotate_left
                  · simp only [Act.put, List.setIfInBounds_toArray, List.set_cons_zero, List.set_cons_succ, i64_w, i32_w]
                    rfl
                  refine pure_ (i := 26) (N := some 101) (v := ?_) (a' := ?_) #[true, true, true, true, true, true, true, true, true, true, true, true, true, true, true, true, true, true, true, true, true, true, true, true, true, true, true, false] rfl rfl (by kernel_rfl) (fun _ _ _ h => h) (Or.inl ⟨by rfl, ?_⟩) ?_ ?_
                  rotate_left
                  · intro w'
                    go_simp
                    with_reducible rfl
                  rotate_left
                  · simp only [Act.put, List.setIfInBounds_toArray, List.set_cons_zero, List.set_cons_succ, i64_w, i32_w]
                    rfl
                  refine last_ (i := 27) (N := none) #[true, true, true, true, true, true, true, true, true, true, true, true, true, true, true, true, true, true, true, true, true, true, true, true, true, true, true, true] rfl rfl (by kernel_rfl) (by decide) (fun K hK => ?_)
                  refine skip_ (w1 := ?_) (by rfl) rfl ?_ ?_
                  rotate_left
                  · go_simp
                    rfl
                  refine hK.out _ _ ?_
                  clear hK K
                  refine done_ (by kernel_rfl) ?_
                  clear hq hwq hQn hwQ hHeld
                  go_wp2_with fail
                  go_roundg (64 - (k + 1))
                  case measure => have := hr2.out; omega
                  case rel => exact ⟨k + 1, by first | rfl | (rw [show wrap64 ((k : Int) + 1) = ((k + 1 : Nat) : Int) from by unfold wrap64; omega]), ⟨by omega⟩, ⟨by have h_ := PUT.out; rw [Int.toNat_natCast, HQ.out, NX.out, ← HQ.out] at h_; exact h_⟩, ⟨(FQ.out.drew).set (.inl rfl) _⟩⟩
                · have hk2 : ¬ (k : Int) < 64 := by omega
                  have hil : k = 64 := by have := hr2.out; omega
                  have hrow := RQ.out
                  rw [hil, HEND.out] at hrow
                  have HRW := Aside0.mk hrow
                  clear hrow hil RQ
                  go_wp2_with fail
                  go_roundg (m.since.length - (j + 1))
                  case measure => have := hr.out; omega
                  case rel => exact ⟨j + 1, by first | rfl | (have := HSI.out; rw [show wrap64 ((j : Int) + 1) = ((j + 1 : Nat) : Int) from by unfold wrap64; omega]), ⟨by omega⟩, HRW, FQ⟩
            · have t0 : (x % 3 == 0) = false := by rw [hc]; rfl
              have t2 : (x % 3 == 2) = false := by rw [hc]; rfl
              have HEND := Aside0.mk (NXT.out x 0 hxD.out (Nat.zero_le _) (fun old ho => left1 old b hc))
              clear hc
              clear hsm hsi
              go_wp2_with fail
              go_loopg [11] 0 (fun r v11 wq => ∃ (k : Nat), v11 = .int .i64 k ∧ Aside0 (r + k = 0) ∧ Aside0 (Kd.R (Kd.int .u8) 5 wq w.heap.size (fun _ => True) (.slice (some ⟨ps, 0, none⟩) S.length cp) (spl P b (n * 64) k)) ∧ Aside0 (Fr w1 wq (fun k => k = ps)))
              case atStart => exact ⟨0, rfl, ⟨by omega⟩, ⟨by rw [spl_zero]; exact RR.out⟩, FR⟩
              case round =>
                obtain ⟨k, rfl, hr2, RQ, FQ⟩ := hrel
                have hk2 : ¬ (k : Int) < 0 := by omega
                have hil : k = 0 := by have := hr2.out; omega
                have hrow := RQ.out
                rw [hil, HEND.out] at hrow
                have HRW := Aside0.mk hrow
                clear hrow hil RQ
                go_wp2_with fail
                go_roundg (m.since.length - (j + 1))
                case measure => have := hr.out; omega
                case rel => exact ⟨j + 1, by first | rfl | (have := HSI.out; rw [show wrap64 ((j : Int) + 1) = ((j + 1 : Nat) : Int) from by unfold wrap64; omega]), ⟨by omega⟩, HRW, FQ⟩
            · have t0 : (x % 3 == 0) = false := by rw [hc]; rfl
              have t2 : (x % 3 == 2) = true := by rw [hc]; rfl
              by_cases hmin : 64 < x / 3
              · have HEND := Aside0.mk (NXT.out x 64 hxD.out (Nat.le_refl _) (fun old ho => left2 old b hc (n := 64) (by omega)))
                have HN64 : Aside0 (64 ≤ 64) := ⟨Nat.le_refl _⟩
                clear hc
                clear hsm hsi
                go_wp2_with fail
                go_loopg [11] 64 (fun r v11 wq => ∃ (k : Nat), v11 = .int .i64 k ∧ Aside0 (r + k = 64) ∧ Aside0 (Kd.R (Kd.int .u8) 5 wq w.heap.size (fun _ => True) (.slice (some ⟨ps, 0, none⟩) S.length cp) (spl P b (n * 64) k)) ∧ Aside0 (Fr w1 wq (fun k => k = ps)))
                case atStart => exact ⟨0, rfl, ⟨by omega⟩, ⟨by rw [spl_zero]; exact RR.out⟩, FR⟩
                case round =>
                  obtain ⟨k, rfl, hr2, RQ, FQ⟩ := hrel
                  by_cases hk : k < 64
                  · have hk2 : (k : Int) < 64 := by omega
                    have hk3 : (0 : Int) ≤ (k : Int) := by omega
                    have hk64 : k < 64 := by have := HN64.out; omega
                    have hk65 : (k : Int) < 64 := by omega
                    obtain ⟨y, hy⟩ : ∃ y, b[k]? = some y := ⟨_, List.getElem?_eq_getElem (by rw [HB64.out]; exact hk64)⟩
                    have BQ := Aside0.mk (below_fr BW1.out BW1.out.size FQ.out (fun q hq => by rw [hq]; exact PSG.out))
                    have kq1 : wr.cell? ⟨g', 1, none⟩ = some (.slice (some ⟨ps, 0, none⟩) S.length cp) := cell_fr K1.out FQ.out NE.out.1
                    have kq3 : wr.cell? ⟨g, 3, none⟩ = some (.slice (some ⟨gw, 0, none⟩) m.since.length cw) := pw_cell_below BQ.out HK3.out
                    have kqa : wr.cell? ⟨gw, j * 2, none⟩ = some (.int .i64 n) := pw_cell_below BQ.out HE0.out
                    have kqb : wr.cell? ⟨gw, j * 2 + 1, none⟩ = some (.slice (some ⟨gb, 0, none⟩) 64 cap) := pw_cell_below BQ.out HE1.out
                    have kqy0 := HRG.out k (.int .u8 y) (by unfold encs; rw [List.getElem?_map, hy]; rfl)
                    rw [Nat.zero_add] at kqy0
                    have kqy : wr.cell? ⟨gb, k, none⟩ = some (.int .u8 y) := pw_cell_below BQ.out kqy0
                    obtain ⟨q, hq⟩ : ∃ q : Nat, (Qn : Int) + (k : Int) = (q : Int) := ⟨Qn + k, by omega⟩
                    have HQ := Aside0.mk (show q = n * 64 + k by have := HQn.out; omega)
                    have hq2 : (q : Int) < (S.length : Int) := by have := HSN.out; have := HQ.out; omega
                    have hq3 : (0 : Int) ≤ (q : Int) := by omega
                    have hwq : wrap64 (q : Int) = (q : Int) := by have := HSM.out; unfold wrap64; omega
                    have hcs := Kd.R_celln (0 : Int) RQ.out (q : Int) hq3 hq2
                    rw [Int.toNat_natCast] at hcs
                    have fz : wr.drew.frozen? ⟨ps, q, none⟩ = false := hcs.2
                    have kqq := hcs.1
                    have PUT := Aside0.mk (Kd.R_putn (Kd.R_drew RQ.out) (q : Int) y)
                    have NX : Aside0 ((spl P b (n * 64) k).set (n * 64 + k) y = spl P b (n * 64) (k + 1)) := ⟨spl_next (HKP.out k hk64) hy⟩
                    clear hy kqy0 hcs
                    go_upto_region 21 with fail
                    refine start_ (n := 28) (S := fun w' => w'.cell? ⟨g', 1, none⟩ = some (.slice (some ⟨ps, 0, none⟩) S.length cp) ∧ w'.cell? ⟨g, 3, none⟩ = some (.slice (some ⟨gw, 0, none⟩) m.since.length cw) ∧ w'.cell? ⟨gw, j * 2, none⟩ = some (.int .i64 n) ∧ w'.cell? ⟨gw, j * 2 + 1, none⟩ = some (.slice (some ⟨gb, 0, none⟩) 64 cap) ∧ w'.cell? ⟨gb, k, none⟩ = some (.int .u8 y)) (ds := [27]) #[false, false, false, false, false, false, false, false, false, false, false, false, false, false, false, false, false, false, false, false, false, false, false, false, false, false, false, false] (by kernel_rfl) rfl rfl ⟨kq1, kq3, kqa, kqb, kqy⟩ (fun hHeld => ?_)
                    refine pure_ (i := 0) (N := some 75) (v := ?_) (a' := ?_) #[true, false, false, false, false, false, false, false, false, false, false, false, false, false, false, false, false, false, false, false, false, false, false, false, false, false, false, false] rfl rfl (by kernel_rfl) (fun _ _ _ h => h) (Or.inl ⟨by rfl, ?_⟩) ?_ ?_
                    rotate_left
                    · intro w'
                      go_simp
                      with_reducible rfl
                    rotate_left
                    · simp only [Act.put, List.setIfInBounds_toArray, List.set_cons_zero, List.set_cons_succ, i64_w, i32_w]
                      rfl
                    refine pure_ (i := 1) (N := some 76) (v := ?_) (a' := ?_) #[true, true, false, false, false, false, false, false, false, false, false, false, false, false, false, false, false, false, false, false, false, false, false, false, false, false, false, false] rfl rfl (by kernel_rfl) (fun _ _ _ h => h) (Or.inl ⟨by rfl, ?_⟩) ?_ ?_
                    rotate_left
                    · intro w'
                      go_simp
                      with_reducible rfl
                    rotate_left
                    · simp only [Act.put, List.setIfInBounds_toArray, List.set_cons_zero, List.set_cons_succ, i64_w, i32_w]
                      rfl
                    refine pure_ (i := 2) (N := some 77) (v := ?_) (a' := ?_) #[true, true, true, false, false, false, false, false, false, false, false, false, false, false, false, false, false, false, false, false, false, false, false, false, false, false, false, false] rfl rfl (by kernel_rfl) (fun _ _ _ h => h) (Or.inl ⟨by rfl, ?_⟩) ?_ ?_
                    rotate_left
                    · intro w'
                      go_simp
                      with_reducible rfl
                    rotate_left
                    · simp only [Act.put, List.setIfInBounds_toArray, List.set_cons_zero, List.set_cons_succ, i64_w, i32_w]
                      rfl
                    refine pure_ (i := 4) (N := some 79) (v := ?_) (a' := ?_) #[true, true, true, false, true, false, false, false, false, false, false, false, false, false, false, false, false, false, false, false, false, false, false, false, false, false, false, false] rfl rfl (by kernel_rfl) (fun _ _ _ h => h) (Or.inl ⟨by rfl, ?_⟩) ?_ ?_
                    rotate_left
                    · intro w'
                      go_simp
                      with_reducible rfl
                    rotate_left
                    · simp only [Act.put, List.setIfInBounds_toArray, List.set_cons_zero, List.set_cons_succ, i64_w, i32_w]
                      rfl
                    refine pure_ (i := 5) (N := some 80) (v := ?_) (a' := ?_) #[true, true, true, false, true, true, false, false, false, false, false, false, false, false, false, false, false, false, false, false, false, false, false, false, false, false, false, false] rfl rfl (by kernel_rfl) (fun _ _ _ h => h) (Or.inl ⟨by rfl, ?_⟩) ?_ ?_
                    rotate_left
                    · intro w'
                      go_simp
                      with_reducible rfl
                    rotate_left
                    · simp only [Act.put, List.setIfInBounds_toArray, List.set_cons_zero, List.set_cons_succ, i64_w, i32_w]
                      rfl
                    refine pure_ (i := 6) (N := some 81) (v := ?_) (a' := ?_) #[true, true, true, false, true, true, true, false, false, false, false, false, false, false, false, false, false, false, false, false, false, false, false, false, false, false, false, false] rfl rfl (by kernel_rfl) (fun _ _ _ h => h) (Or.inl ⟨by rfl, ?_⟩) ?_ ?_
                    rotate_left
                    · intro w'
                      go_simp
                      with_reducible rfl
                    rotate_left
                    · simp only [Act.put, List.setIfInBounds_toArray, List.set_cons_zero, List.set_cons_succ, i64_w, i32_w]
                      rfl
                    refine pure_ (i := 8) (N := some 83) (v := ?_) (a' := ?_) #[true, true, true, false, true, true, true, false, true, false, false, false, false, false, false, false, false, false, false, false, false, false, false, false, false, false, false, false] rfl rfl (by kernel_rfl) (fun _ _ _ h => h) (Or.inl ⟨by rfl, ?_⟩) ?_ ?_
                    rotate_left
                    · intro w'
                      go_simp
                      with_reducible rfl
                    rotate_left
                    · simp only [Act.put, List.setIfInBounds_toArray, List.set_cons_zero, List.set_cons_succ, i64_w, i32_w]
                      rfl
                    refine pure_ (i := 13) (N := some 88) (v := ?_) (a' := ?_) #[true, true, true, false, true, true, true, false, true, false, false, false, false, true, false, false, false, false, false, false, false, false, false, false, false, false, false, false] rfl rfl (by kernel_rfl) (fun _ _ _ h => h) (Or.inl ⟨by rfl, ?_⟩) ?_ ?_
                    rotate_left
                    · intro w'
                      go_simp
                      with_reducible rfl
                    rotate_left
                    · simp only [Act.put, List.setIfInBounds_toArray, List.set_cons_zero, List.set_cons_succ, i64_w, i32_w]
                      rfl
                    refine pure_ (i := 15) (N := some 90) (v := ?_) (a' := ?_) #[true, true, true, false, true, true, true, false, true, false, false, false, false, true, false, true, false, false, false, false, false, false, false, false, false, false, false, false] rfl rfl (by kernel_rfl) (fun _ _ _ h => h) (Or.inl ⟨by rfl, ?_⟩) ?_ ?_
                    rotate_left
                    · intro w'
                      go_simp
                      with_reducible rfl
                    rotate_left
                    · simp only [Act.put, List.setIfInBounds_toArray, List.set_cons_zero, List.set_cons_succ, i64_w, i32_w]
                      rfl
                    refine pure_ (i := 16) (N := some 91) (v := ?_) (a' := ?_) #[true, true, true, false, true, true, true, false, true, false, false, false, false, true, false, true, true, false, false, false, false, false, false, false, false, false, false, false] rfl rfl (by kernel_rfl) (fun _ _ _ h => h) (Or.inl ⟨by rfl, ?_⟩) ?_ ?_
                    rotate_left
                    · intro w'
                      go_simp
                      with_reducible rfl
                    rotate_left
                    · simp only [Act.put, List.setIfInBounds_toArray, List.set_cons_zero, List.set_cons_succ, i64_w, i32_w]
                      rfl
                    refine pure_ (i := 17) (N := some 92) (v := ?_) (a' := ?_) #[true, true, true, false, true, true, true, false, true, false, false, false, false, true, false, true, true, true, false, false, false, false, false, false, false, false, false, false] rfl rfl (by kernel_rfl) (fun _ _ _ h => h) (Or.inl ⟨by rfl, ?_⟩) ?_ ?_
                    rotate_left
                    · intro w'
                      go_simp
                      with_reducible rfl
                    rotate_left
                    · simp only [Act.put, List.setIfInBounds_toArray, List.set_cons_zero, List.set_cons_succ, i64_w, i32_w]
                      rfl
                    refine pure_ (i := 19) (N := some 94) (v := ?_) (a' := ?_) #[true, true, true, false, true, true, true, false, true, false, false, false, false, true, false, true, true, true, false, true, false, false, false, false, false, false, false, false] rfl rfl (by kernel_rfl) (fun _ _ _ h => h) (Or.inl ⟨by rfl, ?_⟩) ?_ ?_
                    rotate_left
                    · intro w'
                      go_simp
                      with_reducible rfl
                    rotate_left
                    · simp only [Act.put, List.setIfInBounds_toArray, List.set_cons_zero, List.set_cons_succ, i64_w, i32_w]
                      rfl
                    refine pure_ (i := 23) (N := some 98) (v := ?_) (a' := ?_) #[true, true, true, false, true, true, true, false, true, false, false, false, false, true, false, true, true, true, false, true, false, false, false, true, false, false, false, false] rfl rfl (by kernel_rfl) (fun _ _ _ h => h) (Or.inl ⟨by rfl, ?_⟩) ?_ ?_
                    rotate_left
                    · intro w'
                      go_simp
                      with_reducible rfl
                    rotate_left
                    · simp only [Act.put, List.setIfInBounds_toArray, List.set_cons_zero, List.set_cons_succ, i64_w, i32_w]
                      rfl
                    refine take_ (i := 3) (N := some 78) (v := ?_) (a' := ?_) #[true, true, true, true, true, true, true, false, true, false, false, false, false, true, false, true, true, true, false, true, false, false, false, true, false, false, false, false] rfl rfl (by kernel_rfl) (fun _ _ _ h => h) (Or.inl ⟨by rfl, ?_⟩) hHeld ?_ ?_
                    rotate_left
                    · rintro w' ⟨s0, s1, s2, s3, s4⟩
                      go_simp
                      with_reducible rfl
                    rotate_left
                    · simp only [Act.put, List.setIfInBounds_toArray, List.set_cons_zero, List.set_cons_succ, i64_w, i32_w]
                      rfl
                    refine take_ (i := 7) (N := some 82) (v := ?_) (a' := ?_) #[true, true, true, true, true, true, true, true, true, false, false, false, false, true, false, true, true, true, false, true, false, false, false, true, false, false, false, false] rfl rfl (by kernel_rfl) (fun _ _ _ h => h) (Or.inl ⟨by rfl, ?_⟩) hHeld ?_ ?_
                    rotate_left
                    · rintro w' ⟨s0, s1, s2, s3, s4⟩
                      go_simp
                      with_reducible rfl
                    rotate_left
                    · simp only [Act.put, List.setIfInBounds_toArray, List.set_cons_zero, List.set_cons_succ, i64_w, i32_w]
                      rfl
                    refine pure_ (i := 9) (N := some 84) (v := ?_) (a' := ?_) #[true, true, true, true, true, true, true, true, true, true, false, false, false, true, false, true, true, true, false, true, false, false, false, true, false, false, false, false] rfl rfl (by kernel_rfl) (fun _ _ _ h => h) (Or.inl ⟨by rfl, ?_⟩) ?_ ?_
                    rotate_left
                    · intro w'
                      go_simp
                      with_reducible rfl
                    rotate_left
                    · simp only [Act.put, List.setIfInBounds_toArray, List.set_cons_zero, List.set_cons_succ, i64_w, i32_w]
                      rfl
                    refine pure_ (i := 10) (N := some 85) (v := ?_) (a' := ?_) #[true, true, true, true, true, true, true, true, true, true, true, false, false, true, false, true, true, true, false, true, false, false, false, true, false, false, false, false] rfl rfl (by kernel_rfl) (fun _ _ _ h => h) (Or.inl ⟨by rfl, ?_⟩) ?_ ?_
                    rotate_left
                    · intro w'
                      go_simp
                      with_reducible rfl
                    rotate_left
                    · simp only [Act.put, List.setIfInBounds_toArray, List.set_cons_zero, List.set_cons_succ, i64_w, i32_w]
                      rfl
                    refine take_ (i := 11) (N := some 86) (v := ?_) (a' := ?_) #[true, true, true, true, true, true, true, true, true, true, true, true, false, true, false, true, true, true, false, true, false, false, false, true, false, false, false, false] rfl rfl (by kernel_rfl) (fun _ _ _ h => h) (Or.inl ⟨by rfl, ?_⟩) hHeld ?_ ?_
                    rotate_left
                    · rintro w' ⟨s0, s1, s2, s3, s4⟩
                      go_simp
                      with_reducible rfl
                    rotate_left
                    · simp only [Act.put, List.setIfInBounds_toArray, List.set_cons_zero, List.set_cons_succ, i64_w, i32_w]
                      rfl
                    refine pure_ (i := 12) (N := some 87) (v := ?_) (a' := ?_) #[true, true, true, true, true, true, true, true, true, true, true, true, true, true, false, true, true, true, false, true, false, false, false, true, false, false, false, false] rfl rfl (by kernel_rfl) (fun _ _ _ h => h) (Or.inl ⟨by rfl, ?_⟩) ?_ ?_
                    rotate_left
                    · intro w'
                      go_simp
                      with_reducible rfl
                    rotate_left
                    · simp only [Act.put, List.setIfInBounds_toArray, List.set_cons_zero, List.set_cons_succ, i64_w, i32_w]
                      rfl
                    refine pure_ (i := 14) (N := some 89) (v := ?_) (a' := ?_) #[true, true, true, true, true, true, true, true, true, true, true, true, true, true, true, true, true, true, false, true, false, false, false, true, false, false, false, false] rfl rfl (by kernel_rfl) (fun _ _ _ h => h) (Or.inl ⟨by rfl, ?_⟩) ?_ ?_
                    rotate_left
                    · intro w'
                      go_simp
                      with_reducible rfl
                    rotate_left
                    · simp only [Act.put, List.setIfInBounds_toArray, List.set_cons_zero, List.set_cons_succ, i64_w, i32_w]
                      rfl
                    refine take_ (i := 18) (N := some 93) (v := ?_) (a' := ?_) #[true, true, true, true, true, true, true, true, true, true, true, true, true, true, true, true, true, true, true, true, false, false, false, true, false, false, false, false] rfl rfl (by kernel_rfl) (fun _ _ _ h => h) (Or.inl ⟨by rfl, ?_⟩) hHeld ?_ ?_
                    rotate_left
                    · rintro w' ⟨s0, s1, s2, s3, s4⟩
                      go_simp
                      with_reducible rfl
                    rotate_left
                    · simp only [Act.put, List.setIfInBounds_toArray, List.set_cons_zero, List.set_cons_succ, i64_w, i32_w]
                      rfl
                    refine pure_ (i := 20) (N := some 95) (v := ?_) (a' := ?_) #[true, true, true, true, true, true, true, true, true, true, true, true, true, true, true, true, true, true, true, true, true, false, false, true, false, false, false, false] rfl rfl (by kernel_rfl) (fun _ _ _ h => h) (Or.inl ⟨by rfl, ?_⟩) ?_ ?_
                    rotate_left
                    · intro w'
                      go_simp
                      with_reducible rfl
                    rotate_left
                    · simp only [Act.put, List.setIfInBounds_toArray, List.set_cons_zero, List.set_cons_succ, i64_w, i32_w]
                      rfl
                    refine pure_ (i := 21) (N := some 96) (v := ?_) (a' := ?_) #[true, true, true, true, true, true, true, true, true, true, true, true, true, true, true, true, true, true, true, true, true, true, false, true, false, false, false, false] rfl rfl (by kernel_rfl) (fun _ _ _ h => h) (Or.inl ⟨by rfl, ?_⟩) ?_ ?_
                    rotate_left
                    · intro w'
                      go_simp
                      with_reducible rfl
                    rotate_left
                    · simp only [Act.put, List.setIfInBounds_toArray, List.set_cons_zero, List.set_cons_succ, i64_w, i32_w]
                      rfl
                    refine take_ (i := 22) (N := some 97) (v := ?_) (a' := ?_) #[true, true, true, true, true, true, true, true, true, true, true, true, true, true, true, true, true, true, true, true, true, true, true, true, false, false, false, false] rfl rfl (by kernel_rfl) (fun _ _ _ h => h) (Or.inl ⟨by rfl, ?_⟩) hHeld ?_ ?_
                    rotate_left
                    · rintro w' ⟨s0, s1, s2, s3, s4⟩
                      go_simp
                      with_reducible rfl
                    rotate_left
                    · simp only [Act.put, List.setIfInBounds_toArray, List.set_cons_zero, List.set_cons_succ, i64_w, i32_w]
                      rfl
                    refine pure_ (i := 24) (N := some 99) (v := ?_) (a' := ?_) #[true, true, true, true, true, true, true, true, true, true, true, true, true, true, true, true, true, true, true, true, true, true, true, true, true, false, false, false] rfl rfl (by kernel_rfl) (fun _ _ _ h => h) (Or.inl ⟨by rfl, ?_⟩) ?_ ?_
                    rotate_left
                    · intro w'
                      go_simp
                      with_reducible rfl
                    rotate_left
                    · simp only [Act.put, List.setIfInBounds_toArray, List.set_cons_zero, List.set_cons_succ, i64_w, i32_w]
                      rfl
                    refine take_ (i := 25) (N := some 100) (v := ?_) (a' := ?_) #[true, true, true, true, true, true, true, true, true, true, true, true, true, true, true, true, true, true, true, true, true, true, true, true, true, true, false, false] rfl rfl (by kernel_rfl) (fun _ _ _ h => h) (Or.inl ⟨by rfl, ?_⟩) hHeld ?_ ?_
                    rotate_left
                    · rintro w' ⟨s0, s1, s2, s3, s4⟩
                      go_simp
                      with_reducible rfl
                    rotate_left
                    · simp only [Act.put, List.setIfInBounds_toArray, List.set_cons_zero, List.set_cons_succ, i64_w, i32_w]
                      rfl
                    refine pure_ (i := 26) (N := some 101) (v := ?_) (a' := ?_) #[true, true, true, true, true, true, true, true, true, true, true, true, true, true, true, true, true, true, true, true, true, true, true, true, true, true, true, false] rfl rfl (by kernel_rfl) (fun _ _ _ h => h) (Or.inl ⟨by rfl, ?_⟩) ?_ ?_
                    rotate_left
                    · intro w'
                      go_simp
                      with_reducible rfl
                    rotate_left
                    · simp only [Act.put, List.setIfInBounds_toArray, List.set_cons_zero, List.set_cons_succ, i64_w, i32_w]
                      rfl
                    refine last_ (i := 27) (N := none) #[true, true, true, true, true, true, true, true, true, true, true, true, true, true, true, true, true, true, true, true, true, true, true, true, true, true, true, true] rfl rfl (by kernel_rfl) (by decide) (fun K hK => ?_)
                    refine skip_ (w1 := ?_) (by rfl) rfl ?_ ?_
                    rotate_left
                    · go_simp
                      rfl
                    refine hK.out _ _ ?_
                    clear hK K
                    refine done_ (by kernel_rfl) ?_
                    clear hq hwq hQn hwQ hHeld
                    go_wp2_with fail
                    go_roundg (64 - (k + 1))
                    case measure => have := hr2.out; omega
                    case rel => exact ⟨k + 1, by first | rfl | (rw [show wrap64 ((k : Int) + 1) = ((k + 1 : Nat) : Int) from by unfold wrap64; omega]), ⟨by omega⟩, ⟨by have h_ := PUT.out; rw [Int.toNat_natCast, HQ.out, NX.out, ← HQ.out] at h_; exact h_⟩, ⟨(FQ.out.drew).set (.inl rfl) _⟩⟩
                  · have hk2 : ¬ (k : Int) < 64 := by omega
                    have hil : k = 64 := by have := hr2.out; omega
                    have hrow := RQ.out
                    rw [hil, HEND.out] at hrow
                    have HRW := Aside0.mk hrow
                    clear hrow hil RQ
                    go_wp2_with fail
                    go_roundg (m.since.length - (j + 1))
                    case measure => have := hr.out; omega
                    case rel => exact ⟨j + 1, by first | rfl | (have := HSI.out; rw [show wrap64 ((j : Int) + 1) = ((j + 1 : Nat) : Int) from by unfold wrap64; omega]), ⟨by omega⟩, HRW, FQ⟩
              · obtain ⟨N_, hN_⟩ : ∃ N_ : Nat, x / 3 = (N_ : Int) := ⟨(x / 3).toNat, by omega⟩
                have HEND := Aside0.mk (NXT.out x N_ hxD.out (by omega) (fun old ho => left2 old b hc (n := N_) (by omega)))
                have HN64 : Aside0 (N_ ≤ 64) := ⟨by omega⟩
                have hn64 : (N_ : Int) ≤ 64 := by omega
                have hn65 : ¬ (64 : Int) < (N_ : Int) := by omega
                have hn66 : ¬ 64 < N_ := by omega
                clear hc hmin
                clear hsm hsi
                go_wp2_with fail
                go_loopg [11] N_ (fun r v11 wq => ∃ (k : Nat), v11 = .int .i64 k ∧ Aside0 (r + k = N_) ∧ Aside0 (Kd.R (Kd.int .u8) 5 wq w.heap.size (fun _ => True) (.slice (some ⟨ps, 0, none⟩) S.length cp) (spl P b (n * 64) k)) ∧ Aside0 (Fr w1 wq (fun k => k = ps)))
                case atStart => exact ⟨0, rfl, ⟨by omega⟩, ⟨by rw [spl_zero]; exact RR.out⟩, FR⟩
                case round =>
                  obtain ⟨k, rfl, hr2, RQ, FQ⟩ := hrel
                  by_cases hk : k < N_
                  · have hk2 : (k : Int) < (N_ : Int) := by omega
                    have hk3 : (0 : Int) ≤ (k : Int) := by omega
                    have hk64 : k < 64 := by have := HN64.out; omega
                    have hk65 : (k : Int) < 64 := by omega
                    obtain ⟨y, hy⟩ : ∃ y, b[k]? = some y := ⟨_, List.getElem?_eq_getElem (by rw [HB64.out]; exact hk64)⟩
                    have BQ := Aside0.mk (below_fr BW1.out BW1.out.size FQ.out (fun q hq => by rw [hq]; exact PSG.out))
                    have kq1 : wr.cell? ⟨g', 1, none⟩ = some (.slice (some ⟨ps, 0, none⟩) S.length cp) := cell_fr K1.out FQ.out NE.out.1
                    have kq3 : wr.cell? ⟨g, 3, none⟩ = some (.slice (some ⟨gw, 0, none⟩) m.since.length cw) := pw_cell_below BQ.out HK3.out
                    have kqa : wr.cell? ⟨gw, j * 2, none⟩ = some (.int .i64 n) := pw_cell_below BQ.out HE0.out
                    have kqb : wr.cell? ⟨gw, j * 2 + 1, none⟩ = some (.slice (some ⟨gb, 0, none⟩) 64 cap) := pw_cell_below BQ.out HE1.out
                    have kqy0 := HRG.out k (.int .u8 y) (by unfold encs; rw [List.getElem?_map, hy]; rfl)
                    rw [Nat.zero_add] at kqy0
                    have kqy : wr.cell? ⟨gb, k, none⟩ = some (.int .u8 y) := pw_cell_below BQ.out kqy0
                    obtain ⟨q, hq⟩ : ∃ q : Nat, (Qn : Int) + (k : Int) = (q : Int) := ⟨Qn + k, by omega⟩
                    have HQ := Aside0.mk (show q = n * 64 + k by have := HQn.out; omega)
                    have hq2 : (q : Int) < (S.length : Int) := by have := HSN.out; have := HQ.out; omega
                    have hq3 : (0 : Int) ≤ (q : Int) := by omega
                    have hwq : wrap64 (q : Int) = (q : Int) := by have := HSM.out; unfold wrap64; omega
                    have hcs := Kd.R_celln (0 : Int) RQ.out (q : Int) hq3 hq2
                    rw [Int.toNat_natCast] at hcs
                    have fz : wr.drew.frozen? ⟨ps, q, none⟩ = false := hcs.2
                    have kqq := hcs.1
                    have PUT := Aside0.mk (Kd.R_putn (Kd.R_drew RQ.out) (q : Int) y)
                    have NX : Aside0 ((spl P b (n * 64) k).set (n * 64 + k) y = spl P b (n * 64) (k + 1)) := ⟨spl_next (HKP.out k hk64) hy⟩
                    clear hy kqy0 hcs
                    go_upto_region 21 with fail
                    refine start_ (n := 28) (S := fun w' => w'.cell? ⟨g', 1, none⟩ = some (.slice (some ⟨ps, 0, none⟩) S.length cp) ∧ w'.cell? ⟨g, 3, none⟩ = some (.slice (some ⟨gw, 0, none⟩) m.since.length cw) ∧ w'.cell? ⟨gw, j * 2, none⟩ = some (.int .i64 n) ∧ w'.cell? ⟨gw, j * 2 + 1, none⟩ = some (.slice (some ⟨gb, 0, none⟩) 64 cap) ∧ w'.cell? ⟨gb, k, none⟩ = some (.int .u8 y)) (ds := [27]) #[false, false, false, false, false, false, false, false, false, false, false, false, false, false, false, false, false, false, false, false, false, false, false, false, false, false, false, false] (by kernel_rfl) rfl rfl ⟨kq1, kq3, kqa, kqb, kqy⟩ (fun hHeld => ?_)
                    refine pure_ (i := 0) (N := some 75) (v := ?_) (a' := ?_) #[true, false, false, false, false, false, false, false, false, false, false, false, false, false, false, false, false, false, false, false, false, false, false, false, false, false, false, false] rfl rfl (by kernel_rfl) (fun _ _ _ h => h) (Or.inl ⟨by rfl, ?_⟩) ?_ ?_
                    rotate_left
                    · intro w'
                      go_simp
                      with_reducible rfl
                    rotate_left
                    · simp only [Act.put, List.setIfInBounds_toArray, List.set_cons_zero, List.set_cons_succ, i64_w, i32_w]
                      rfl
                    refine pure_ (i := 1) (N := some 76) (v := ?_) (a' := ?_) #[true, true, false, false, false, false, false, false, false, false, false, false, false, false, false, false, false, false, false, false, false, false, false, false, false, false, false, false] rfl rfl (by kernel_rfl) (fun _ _ _ h => h) (Or.inl ⟨by rfl, ?_⟩) ?_ ?_
                    rotate_left
                    · intro w'
                      go_simp
                      with_reducible rfl
                    rotate_left
                    · simp only [Act.put, List.setIfInBounds_toArray, List.set_cons_zero, List.set_cons_succ, i64_w, i32_w]
                      rfl
                    refine pure_ (i := 2) (N := some 77) (v := ?_) (a' := ?_) #[true, true, true, false, false, false, false, false, false, false, false, false, false, false, false, false, false, false, false, false, false, false, false, false, false, false, false, false] rfl rfl (by kernel_rfl) (fun _ _ _ h => h) (Or.inl ⟨by rfl, ?_⟩) ?_ ?_
                    rotate_left
                    · intro w'
                      go_simp
                      with_reducible rfl
                    rotate_left
                    · simp only [Act.put, List.setIfInBounds_toArray, List.set_cons_zero, List.set_cons_succ, i64_w, i32_w]
                      rfl
                    refine pure_ (i := 4) (N := some 79) (v := ?_) (a' := ?_) #[true, true, true, false, true, false, false, false, false, false, false, false, false, false, false, false, false, false, false, false, false, false, false, false, false, false, false, false] rfl rfl (by kernel_rfl) (fun _ _ _ h => h) (Or.inl ⟨by rfl, ?_⟩) ?_ ?_
                    rotate_left
                    · intro w'
                      go_simp
                      with_reducible rfl
                    rotate_left
                    · simp only [Act.put, List.setIfInBounds_toArray, List.set_cons_zero, List.set_cons_succ, i64_w, i32_w]
                      rfl
                    refine pure_ (i := 5) (N := some 80) (v := ?_) (a' := ?_) #[true, true, true, false, true, true, false, false, false, false, false, false, false, false, false, false, false, false, false, false, false, false, false, false, false, false, false, false] rfl rfl (by kernel_rfl) (fun _ _ _ h => h) (Or.inl ⟨by rfl, ?_⟩) ?_ ?_
                    rotate_left
                    · intro w'
                      go_simp
                      with_reducible rfl
                    rotate_left
                    · simp only [Act.put, List.setIfInBounds_toArray, List.set_cons_zero, List.set_cons_succ, i64_w, i32_w]
                      rfl
                    refine pure_ (i := 6) (N := some 81) (v := ?_) (a' := ?_) #[true, true, true, false, true, true, true, false, false, false, false, false, false, false, false, false, false, false, false, false, false, false, false, false, false, false, false, false] rfl rfl (by kernel_rfl) (fun _ _ _ h => h) (Or.inl ⟨by rfl, ?_⟩) ?_ ?_
                    rotate_left
                    · intro w'
                      go_simp
                      with_reducible rfl
                    rotate_left
                    · simp only [Act.put, List.setIfInBounds_toArray, List.set_cons_zero, List.set_cons_succ, i64_w, i32_w]
                      rfl
                    refine pure_ (i := 8) (N := some 83) (v := ?_) (a' := ?_) #[true, true, true, false, true, true, true, false, true, false, false, false, false, false, false, false, false, false, false, false, false, false, false, false, false, false, false, false] rfl rfl (by kernel_rfl) (fun _ _ _ h => h) (Or.inl ⟨by rfl, ?_⟩) ?_ ?_
                    rotate_left
                    · intro w'
                      go_simp
                      with_reducible rfl
                    rotate_left
                    · simp only [Act.put, List.setIfInBounds_toArray, List.set_cons_zero, List.set_cons_succ, i64_w, i32_w]
                      rfl
                    refine pure_ (i := 13) (N := some 88) (v := ?_) (a' := ?_) #[true, true, true, false, true, true, true, false, true, false, false, false, false, true, false, false, false, false, false, false, false, false, false, false, false, false, false, false] rfl rfl (by kernel_rfl) (fun _ _ _ h => h) (Or.inl ⟨by rfl, ?_⟩) ?_ ?_
                    rotate_left
                    · intro w'
                      go_simp
                      with_reducible rfl
                    rotate_left
                    · simp only [Act.put, List.setIfInBounds_toArray, List.set_cons_zero, List.set_cons_succ, i64_w, i32_w]
                      rfl
                    refine pure_ (i := 15) (N := some 90) (v := ?_) (a' := ?_) #[true, true, true, false, true, true, true, false, true, false, false, false, false, true, false, true, false, false, false, false, false, false, false, false, false, false, false, false] rfl rfl (by kernel_rfl) (fun _ _ _ h => h) (Or.inl ⟨by rfl, ?_⟩) ?_ ?_
                    rotate_left
                    · intro w'
                      go_simp
                      with_reducible rfl
                    rotate_left
                    · simp only [Act.put, List.setIfInBounds_toArray, List.set_cons_zero, List.set_cons_succ, i64_w, i32_w]
                      rfl
                    refine pure_ (i := 16) (N := some 91) (v := ?_) (a' := ?_) #[true, true, true, false, true, true, true, false, true, false, false, false, false, true, false, true, true, false, false, false, false, false, false, false, false, false, false, false] rfl rfl (by kernel_rfl) (fun _ _ _ h => h) (Or.inl ⟨by rfl, ?_⟩) ?_ ?_
                    rotate_left
                    · intro w'
                      go_simp
                      with_reducible rfl
                    rotate_left
                    · simp only [Act.put, List.setIfInBounds_toArray, List.set_cons_zero, List.set_cons_succ, i64_w, i32_w]
                      rfl
                    refine pure_ (i := 17) (N := some 92) (v := ?_) (a' := ?_) #[true, true, true, false, true, true, true, false, true, false, false, false, false, true, false, true, true, true, false, false, false, false, false, false, false, false, false, false] rfl rfl (by kernel_rfl) (fun _ _ _ h => h) (Or.inl ⟨by rfl, ?_⟩) ?_ ?_
                    rotate_left
                    · intro w'
                      go_simp
                      with_reducible rfl
                    rotate_left
                    · simp only [Act.put, List.setIfInBounds_toArray, List.set_cons_zero, List.set_cons_succ, i64_w, i32_w]
                      rfl
                    refine pure_ (i := 19) (N := some 94) (v := ?_) (a' := ?_) #[true, true, true, false, true, true, true, false, true, false, false, false, false, true, false, true, true, true, false, true, false, false, false, false, false, false, false, false] rfl rfl (by kernel_rfl) (fun _ _ _ h => h) (Or.inl ⟨by rfl, ?_⟩) ?_ ?_
                    rotate_left
                    · intro w'
                      go_simp
                      with_reducible rfl
                    rotate_left
                    · simp only [Act.put, List.setIfInBounds_toArray, List.set_cons_zero, List.set_cons_succ, i64_w, i32_w]
                      rfl
                    refine pure_ (i := 23) (N := some 98) (v := ?_) (a' := ?_) #[true, true, true, false, true, true, true, false, true, false, false, false, false, true, false, true, true, true, false, true, false, false, false, true, false, false, false, false] rfl rfl (by kernel_rfl) (fun _ _ _ h => h) (Or.inl ⟨by rfl, ?_⟩) ?_ ?_
                    rotate_left
                    · intro w'
                      go_simp
                      with_reducible rfl
                    rotate_left
                    · simp only [Act.put, List.setIfInBounds_toArray, List.set_cons_zero, List.set_cons_succ, i64_w, i32_w]
                      rfl
                    refine take_ (i := 3) (N := some 78) (v := ?_) (a' := ?_) #[true, true, true, true, true, true, true, false, true, false, false, false, false, true, false, true, true, true, false, true, false, false, false, true, false, false, false, false] rfl rfl (by kernel_rfl) (fun _ _ _ h => h) (Or.inl ⟨by rfl, ?_⟩) hHeld ?_ ?_
                    rotate_left
                    · rintro w' ⟨s0, s1, s2, s3, s4⟩
                      go_simp
                      with_reducible rfl
                    rotate_left
                    · simp only [Act.put, List.setIfInBounds_toArray, List.set_cons_zero, List.set_cons_succ, i64_w, i32_w]
                      rfl
                    refine take_ (i := 7) (N := some 82) (v := ?_) (a' := ?_) #[true, true, true, true, true, true, true, true, true, false, false, false, false, true, false, true, true, true, false, true, false, false, false, true, false, false, false, false] rfl rfl (by kernel_rfl) (fun _ _ _ h => h) (Or.inl ⟨by rfl, ?_⟩) hHeld ?_ ?_
                    rotate_left
                    · rintro w' ⟨s0, s1, s2, s3, s4⟩
                      go_simp
                      with_reducible rfl
                    rotate_left
                    · simp only [Act.put, List.setIfInBounds_toArray, List.set_cons_zero, List.set_cons_succ, i64_w, i32_w]
                      rfl
                    refine pure_ (i := 9) (N := some 84) (v := ?_) (a' := ?_) #[true, true, true, true, true, true, true, true, true, true, false, false, false, true, false, true, true, true, false, true, false, false, false, true, false, false, false, false] rfl rfl (by kernel_rfl) (fun _ _ _ h => h) (Or.inl ⟨by rfl, ?_⟩) ?_ ?_
                    rotate_left
                    · intro w'
                      go_simp
                      with_reducible rfl
                    rotate_left
                    · simp only [Act.put, List.setIfInBounds_toArray, List.set_cons_zero, List.set_cons_succ, i64_w, i32_w]
                      rfl
                    refine pure_ (i := 10) (N := some 85) (v := ?_) (a' := ?_) #[true, true, true, true, true, true, true, true, true, true, true, false, false, true, false, true, true, true, false, true, false, false, false, true, false, false, false, false] rfl rfl (by kernel_rfl) (fun _ _ _ h => h) (Or.inl ⟨by rfl, ?_⟩) ?_ ?_
                    rotate_left
                    · intro w'
                      go_simp
                      with_reducible rfl
                    rotate_left
                    · simp only [Act.put, List.setIfInBounds_toArray, List.set_cons_zero, List.set_cons_succ, i64_w, i32_w]
                      rfl
                    refine take_ (i := 11) (N := some 86) (v := ?_) (a' := ?_) #[true, true, true, true, true, true, true, true, true, true, true, true, false, true, false, true, true, true, false, true, false, false, false, true, false, false, false, false] rfl rfl (by kernel_rfl) (fun _ _ _ h => h) (Or.inl ⟨by rfl, ?_⟩) hHeld ?_ ?_
                    rotate_left
                    · rintro w' ⟨s0, s1, s2, s3, s4⟩
                      go_simp
                      with_reducible rfl
                    rotate_left
                    · simp only [Act.put, List.setIfInBounds_toArray, List.set_cons_zero, List.set_cons_succ, i64_w, i32_w]
                      rfl
                    refine pure_ (i := 12) (N := some 87) (v := ?_) (a' := ?_) #[true, true, true, true, true, true, true, true, true, true, true, true, true, true, false, true, true, true, false, true, false, false, false, true, false, false, false, false] rfl rfl (by kernel_rfl) (fun _ _ _ h => h) (Or.inl ⟨by rfl, ?_⟩) ?_ ?_
                    rotate_left
                    · intro w'
                      go_simp
                      with_reducible rfl
                    rotate_left
                    · simp only [Act.put, List.setIfInBounds_toArray, List.set_cons_zero, List.set_cons_succ, i64_w, i32_w]
                      rfl
                    refine pure_ (i := 14) (N := some 89) (v := ?_) (a' := ?_) #[true, true, true, true, true, true, true, true, true, true, true, true, true, true, true, true, true, true, false, true, false, false, false, true, false, false, false, false] rfl rfl (by kernel_rfl) (fun _ _ _ h => h) (Or.inl ⟨by rfl, ?_⟩) ?_ ?_
                    rotate_left
                    · intro w'
                      go_simp
                      with_reducible rfl
                    rotate_left
                    · simp only [Act.put, List.setIfInBounds_toArray, List.set_cons_zero, List.set_cons_succ, i64_w, i32_w]
                      rfl
                    refine take_ (i := 18) (N := some 93) (v := ?_) (a' := ?_) #[true, true, true, true, true, true, true, true, true, true, true, true, true, true, true, true, true, true, true, true, false, false, false, true, false, false, false, false] rfl rfl (by kernel_rfl) (fun _ _ _ h => h) (Or.inl ⟨by rfl, ?_⟩) hHeld ?_ ?_
                    rotate_left
                    · rintro w' ⟨s0, s1, s2, s3, s4⟩
                      go_simp
                      with_reducible rfl
                    rotate_left
                    · simp only [Act.put, List.setIfInBounds_toArray, List.set_cons_zero, List.set_cons_succ, i64_w, i32_w]
                      rfl
                    refine pure_ (i := 20) (N := some 95) (v := ?_) (a' := ?_) #[true, true, true, true, true, true, true, true, true, true, true, true, true, true, true, true, true, true, true, true, true, false, false, true, false, false, false, false] rfl rfl (by kernel_rfl) (fun _ _ _ h => h) (Or.inl ⟨by rfl, ?_⟩) ?_ ?_
                    rotate_left
                    · intro w'
                      go_simp
                      with_reducible rfl
                    rotate_left
                    · simp only [Act.put, List.setIfInBounds_toArray, List.set_cons_zero, List.set_cons_succ, i64_w, i32_w]
                      rfl
                    refine pure_ (i := 21) (N := some 96) (v := ?_) (a' := ?_) #[true, true, true, true, true, true, true, true, true, true, true, true, true, true, true, true, true, true, true, true, true, true, false, true, false, false, false, false] rfl rfl (by kernel_rfl) (fun _ _ _ h => h) (Or.inl ⟨by rfl, ?_⟩) ?_ ?_
                    rotate_left
                    · intro w'
                      go_simp
                      with_reducible rfl
                    rotate_left
                    · simp only [Act.put, List.setIfInBounds_toArray, List.set_cons_zero, List.set_cons_succ, i64_w, i32_w]
                      rfl
                    refine take_ (i := 22) (N := some 97) (v := ?_) (a' := ?_) #[true, true, true, true, true, true, true, true, true, true, true, true, true, true, true, true, true, true, true, true, true, true, true, true, false, false, false, false] rfl rfl (by kernel_rfl) (fun _ _ _ h => h) (Or.inl ⟨by rfl, ?_⟩) hHeld ?_ ?_
                    rotate_left
                    · rintro w' ⟨s0, s1, s2, s3, s4⟩
                      go_simp
                      with_reducible rfl
                    rotate_left
                    · simp only [Act.put, List.setIfInBounds_toArray, List.set_cons_zero, List.set_cons_succ, i64_w, i32_w]
                      rfl
                    refine pure_ (i := 24) (N := some 99) (v := ?_) (a' := ?_) #[true, true, true, true, true, true, true, true, true, true, true, true, true, true, true, true, true, true, true, true, true, true, true, true, true, false, false, false] rfl rfl (by kernel_rfl) (fun _ _ _ h => h) (Or.inl ⟨by rfl, ?_⟩) ?_ ?_
                    rotate_left
                    · intro w'
                      go_simp
                      with_reducible rfl
                    rotate_left
                    · simp only [Act.put, List.setIfInBounds_toArray, List.set_cons_zero, List.set_cons_succ, i64_w, i32_w]
                      rfl
                    refine take_ (i := 25) (N := some 100) (v := ?_) (a' := ?_) #[true, true, true, true, true, true, true, true, true, true, true, true, true, true, true, true, true, true, true, true, true, true, true, true, true, true, false, false] rfl rfl (by kernel_rfl) (fun _ _ _ h => h) (Or.inl ⟨by rfl, ?_⟩) hHeld ?_ ?_
                    rotate_left
                    · rintro w' ⟨s0, s1, s2, s3, s4⟩
                      go_simp
                      with_reducible rfl
                    rotate_left
                    · simp only [Act.put, List.setIfInBounds_toArray, List.set_cons_zero, List.set_cons_succ, i64_w, i32_w]
                      rfl
                    refine pure_ (i := 26) (N := some 101) (v := ?_) (a' := ?_) #[true, true, true, true, true, true, true, true, true, true, true, true, true, true, true, true, true, true, true, true, true, true, true, true, true, true, true, false] rfl rfl (by kernel_rfl) (fun _ _ _ h => h) (Or.inl ⟨by rfl, ?_⟩) ?_ ?_
                    rotate_left
                    · intro w'
                      go_simp
                      with_reducible rfl
                    rotate_left
                    · simp only [Act.put, List.setIfInBounds_toArray, List.set_cons_zero, List.set_cons_succ, i64_w, i32_w]
                      rfl
                    refine last_ (i := 27) (N := none) #[true, true, true, true, true, true, true, true, true, true, true, true, true, true, true, true, true, true, true, true, true, true, true, true, true, true, true, true] rfl rfl (by kernel_rfl) (by decide) (fun K hK => ?_)
                    refine skip_ (w1 := ?_) (by rfl) rfl ?_ ?_
                    rotate_left
                    · go_simp
                      rfl
                    refine hK.out _ _ ?_
                    clear hK K
                    refine done_ (by kernel_rfl) ?_
                    clear hq hwq hQn hwQ hHeld
                    go_wp2_with fail
                    go_roundg (N_ - (k + 1))
                    case measure => have := hr2.out; omega
                    case rel => exact ⟨k + 1, by first | rfl | (rw [show wrap64 ((k : Int) + 1) = ((k + 1 : Nat) : Int) from by unfold wrap64; omega]), ⟨by omega⟩, ⟨by have h_ := PUT.out; rw [Int.toNat_natCast, HQ.out, NX.out, ← HQ.out] at h_; exact h_⟩, ⟨(FQ.out.drew).set (.inl rfl) _⟩⟩
                  · have hk2 : ¬ (k : Int) < (N_ : Int) := by omega
                    have hil : k = N_ := by have := hr2.out; omega
                    have hrow := RQ.out
                    rw [hil, HEND.out] at hrow
                    have HRW := Aside0.mk hrow
                    clear hrow hil RQ
                    go_wp2_with fail
                    go_roundg (m.since.length - (j + 1))
                    case measure => have := hr.out; omega
                    case rel => exact ⟨j + 1, by first | rfl | (have := HSI.out; rw [show wrap64 ((j : Int) + 1) = ((j + 1 : Nat) : Int) from by unfold wrap64; omega]), ⟨by omega⟩, HRW, FQ⟩
          · have hjl2 : ¬ (j : Int) < (l.length : Int) := by omega
            have HEND := Aside0.mk (NXT.out 0 64 (by rw [List.getD_eq_getElem?_getD, List.getElem?_eq_none (by omega)]; rfl) (Nat.le_refl _) (fun old ho => left0 old b HB64.out ho (by decide)))
            have HN64 : Aside0 (64 ≤ 64) := ⟨Nat.le_refl _⟩
            clear hsm hsi
            go_wp2_with fail
            go_loopg [11] 64 (fun r v11 wq => ∃ (k : Nat), v11 = .int .i64 k ∧ Aside0 (r + k = 64) ∧ Aside0 (Kd.R (Kd.int .u8) 5 wq w.heap.size (fun _ => True) (.slice (some ⟨ps, 0, none⟩) S.length cp) (spl P b (n * 64) k)) ∧ Aside0 (Fr w1 wq (fun k => k = ps)))
            case atStart => exact ⟨0, rfl, ⟨by omega⟩, ⟨by rw [spl_zero]; exact RR.out⟩, FR⟩
            case round =>
              obtain ⟨k, rfl, hr2, RQ, FQ⟩ := hrel
              by_cases hk : k < 64
              · have hk2 : (k : Int) < 64 := by omega
                have hk3 : (0 : Int) ≤ (k : Int) := by omega
                have hk64 : k < 64 := by have := HN64.out; omega
                have hk65 : (k : Int) < 64 := by omega
                obtain ⟨y, hy⟩ : ∃ y, b[k]? = some y := ⟨_, List.getElem?_eq_getElem (by rw [HB64.out]; exact hk64)⟩
                have BQ := Aside0.mk (below_fr BW1.out BW1.out.size FQ.out (fun q hq => by rw [hq]; exact PSG.out))
                have kq1 : wr.cell? ⟨g', 1, none⟩ = some (.slice (some ⟨ps, 0, none⟩) S.length cp) := cell_fr K1.out FQ.out NE.out.1
                have kq3 : wr.cell? ⟨g, 3, none⟩ = some (.slice (some ⟨gw, 0, none⟩) m.since.length cw) := pw_cell_below BQ.out HK3.out
                have kqa : wr.cell? ⟨gw, j * 2, none⟩ = some (.int .i64 n) := pw_cell_below BQ.out HE0.out
                have kqb : wr.cell? ⟨gw, j * 2 + 1, none⟩ = some (.slice (some ⟨gb, 0, none⟩) 64 cap) := pw_cell_below BQ.out HE1.out
                have kqy0 := HRG.out k (.int .u8 y) (by unfold encs; rw [List.getElem?_map, hy]; rfl)
                rw [Nat.zero_add] at kqy0
                have kqy : wr.cell? ⟨gb, k, none⟩ = some (.int .u8 y) := pw_cell_below BQ.out kqy0
                obtain ⟨q, hq⟩ : ∃ q : Nat, (Qn : Int) + (k : Int) = (q : Int) := ⟨Qn + k, by omega⟩
                have HQ := Aside0.mk (show q = n * 64 + k by have := HQn.out; omega)
                have hq2 : (q : Int) < (S.length : Int) := by have := HSN.out; have := HQ.out; omega
                have hq3 : (0 : Int) ≤ (q : Int) := by omega
                have hwq : wrap64 (q : Int) = (q : Int) := by have := HSM.out; unfold wrap64; omega
                have hcs := Kd.R_celln (0 : Int) RQ.out (q : Int) hq3 hq2
                rw [Int.toNat_natCast] at hcs
                have fz : wr.drew.frozen? ⟨ps, q, none⟩ = false := hcs.2
                have kqq := hcs.1
                have PUT := Aside0.mk (Kd.R_putn (Kd.R_drew RQ.out) (q : Int) y)
                have NX : Aside0 ((spl P b (n * 64) k).set (n * 64 + k) y = spl P b (n * 64) (k + 1)) := ⟨spl_next (HKP.out k hk64) hy⟩
                clear hy kqy0 hcs
                go_upto_region 21 with fail
                refine start_ (n := 28) (S := fun w' => w'.cell? ⟨g', 1, none⟩ = some (.slice (some ⟨ps, 0, none⟩) S.length cp) ∧ w'.cell? ⟨g, 3, none⟩ = some (.slice (some ⟨gw, 0, none⟩) m.since.length cw) ∧ w'.cell? ⟨gw, j * 2, none⟩ = some (.int .i64 n) ∧ w'.cell? ⟨gw, j * 2 + 1, none⟩ = some (.slice (some ⟨gb, 0, none⟩) 64 cap) ∧ w'.cell? ⟨gb, k, none⟩ = some (.int .u8 y)) (ds := [27]) #[false, false, false, false, false, false, false, false, false, false, false, false, false, false, false, false, false, false, false, false, false, false, false, false, false, false, false, false] (by kernel_rfl) rfl rfl ⟨kq1, kq3, kqa, kqb, kqy⟩ (fun hHeld => ?_)
                refine pure_ (i := 0) (N := some 75) (v := ?_) (a' := ?_) #[true, false, false, false, false, false, false, false, false, false, false, false, false, false, false, false, false, false, false, false, false, false, false, false, false, false, false, false] rfl rfl (by kernel_rfl) (fun _ _ _ h => h) (Or.inl ⟨by rfl, ?_⟩) ?_ ?_
                rotate_left
                · intro w'
                  go_simp
                  with_reducible rfl
                rotate_left
                · simp only [Act.put, List.setIfInBounds_toArray, List.set_cons_zero, List.set_cons_succ, i64_w, i32_w]
                  rfl
                refine pure_ (i := 1) (N := some 76) (v := ?_) (a' := ?_) #[true, true, false, false, false, false, false, false, false, false, false, false, false, false, false, false, false, false, false, false, false, false, false, false, false, false, false, false] rfl rfl (by kernel_rfl) (fun _ _ _ h => h) (Or.inl ⟨by rfl, ?_⟩) ?_ ?_
                rotate_left
                · intro w'
                  go_simp
                  with_reducible rfl
                rotate_left
                · simp only [Act.put, List.setIfInBounds_toArray, List.set_cons_zero, List.set_cons_succ, i64_w, i32_w]
                  rfl
                refine pure_ (i := 2) (N := some 77) (v := ?_) (a' := ?_) #[true, true, true, false, false, false, false, false, false, false, false, false, false, false, false, false, false, false, false, false, false, false, false, false, false, false, false, false] rfl rfl (by kernel_rfl) (fun _ _ _ h => h) (Or.inl ⟨by rfl, ?_⟩) ?_ ?_
                rotate_left
                · intro w'
                  go_simp
                  with_reducible rfl
                rotate_left
                · simp only [Act.put, List.setIfInBounds_toArray, List.set_cons_zero, List.set_cons_succ, i64_w, i32_w]
                  rfl
                refine pure_ (i := 4) (N := some 79) (v := ?_) (a' := ?_) #[true, true, true, false, true, false, false, false, false, false, false, false, false, false, false, false, false, false, false, false, false, false, false, false, false, false, false, false] rfl rfl (by kernel_rfl) (fun _ _ _ h => h) (Or.inl ⟨by rfl, ?_⟩) ?_ ?_
                rotate_left
                · intro w'
                  go_simp
                  with_reducible rfl
                rotate_left
                · simp only [Act.put, List.setIfInBounds_toArray, List.set_cons_zero, List.set_cons_succ, i64_w, i32_w]
                  rfl
                refine pure_ (i := 5) (N := some 80) (v := ?_) (a' := ?_) #[true, true, true, false, true, true, false, false, false, false, false, false, false, false, false, false, false, false, false, false, false, false, false, false, false, false, false, false] rfl rfl (by kernel_rfl) (fun _ _ _ h => h) (Or.inl ⟨by rfl, ?_⟩) ?_ ?_
                rotate_left
                · intro w'
                  go_simp
                  with_reducible rfl
                rotate_left
                · simp only [Act.put, List.setIfInBounds_toArray, List.set_cons_zero, List.set_cons_succ, i64_w, i32_w]
                  rfl
                refine pure_ (i := 6) (N := some 81) (v := ?_) (a' := ?_) #[true, true, true, false, true, true, true, false, false, false, false, false, false, false, false, false, false, false, false, false, false, false, false, false, false, false, false, false] rfl rfl (by kernel_rfl) (fun _ _ _ h => h) (Or.inl ⟨by rfl, ?_⟩) ?_ ?_
                rotate_left
                · intro w'
                  go_simp
                  with_reducible rfl
                rotate_left
                · simp only [Act.put, List.setIfInBounds_toArray, List.set_cons_zero, List.set_cons_succ, i64_w, i32_w]
                  rfl
                refine pure_ (i := 8) (N := some 83) (v := ?_) (a' := ?_) #[true, true, true, false, true, true, true, false, true, false, false, false, false, false, false, false, false, false, false, false, false, false, false, false, false, false, false, false] rfl rfl (by kernel_rfl) (fun _ _ _ h => h) (Or.inl ⟨by rfl, ?_⟩) ?_ ?_
                rotate_left
                · intro w'
                  go_simp
                  with_reducible rfl
                rotate_left
                · simp only [Act.put, List.setIfInBounds_toArray, List.set_cons_zero, List.set_cons_succ, i64_w, i32_w]
                  rfl
                refine pure_ (i := 13) (N := some 88) (v := ?_) (a' := ?_) #[true, true, true, false, true, true, true, false, true, false, false, false, false, true, false, false, false, false, false, false, false, false, false, false, false, false, false, false] rfl rfl (by kernel_rfl) (fun _ _ _ h => h) (Or.inl ⟨by rfl, ?_⟩) ?_ ?_
                rotate_left
                · intro w'
                  go_simp
                  with_reducible rfl
                rotate_left
                · simp only [Act.put, List.setIfInBounds_toArray, List.set_cons_zero, List.set_cons_succ, i64_w, i32_w]
                  rfl
                refine pure_ (i := 15) (N := some 90) (v := ?_) (a' := ?_) #[true, true, true, false, true, true, true, false, true, false, false, false, false, true, false, true, false, false, false, false, false, false, false, false, false, false, false, false] rfl rfl (by kernel_rfl) (fun _ _ _ h => h) (Or.inl ⟨by rfl, ?_⟩) ?_ ?_
                rotate_left
                · intro w'
                  go_simp
                  with_reducible rfl
                rotate_left
                · simp only [Act.put, List.setIfInBounds_toArray, List.set_cons_zero, List.set_cons_succ, i64_w, i32_w]
                  rfl
                refine pure_ (i := 16) (N := some 91) (v := ?_) (a' := ?_) #[true, true, true, false, true, true, true, false, true, false, false, false, false, true, false, true, true, false, false, false, false, false, false, false, false, false, false, false] rfl rfl (by kernel_rfl) (fun _ _ _ h => h) (Or.inl ⟨by rfl, ?_⟩) ?_ ?_
                rotate_left
                · intro w'
                  go_simp
                  with_reducible rfl
                rotate_left
                · simp only [Act.put, List.setIfInBounds_toArray, List.set_cons_zero, List.set_cons_succ, i64_w, i32_w]
                  rfl
                refine pure_ (i := 17) (N := some 92) (v := ?_) (a' := ?_) #[true, true, true, false, true, true, true, false, true, false, false, false, false, true, false, true, true, true, false, false, false, false, false, false, false, false, false, false] rfl rfl (by kernel_rfl) (fun _ _ _ h => h) (Or.inl ⟨by rfl, ?_⟩) ?_ ?_
                rotate_left
                · intro w'
                  go_simp
                  with_reducible rfl
                rotate_left
                · simp only [Act.put, List.setIfInBounds_toArray, List.set_cons_zero, List.set_cons_succ, i64_w, i32_w]
                  rfl
                refine pure_ (i := 19) (N := some 94) (v := ?_) (a' := ?_) #[true, true, true, false, true, true, true, false, true, false, false, false, false, true, false, true, true, true, false, true, false, false, false, false, false, false, false, false] rfl rfl (by kernel_rfl) (fun _ _ _ h => h) (Or.inl ⟨by rfl, ?_⟩) ?_ ?_
                rotate_left
                · intro w'
                  go_simp
                  with_reducible rfl
                rotate_left
                · simp only [Act.put, List.setIfInBounds_toArray, List.set_cons_zero, List.set_cons_succ, i64_w, i32_w]
                  rfl
                refine pure_ (i := 23) (N := some 98) (v := ?_) (a' := ?_) #[true, true, true, false, true, true, true, false, true, false, false, false, false, true, false, true, true, true, false, true, false, false, false, true, false, false, false, false] rfl rfl (by kernel_rfl) (fun _ _ _ h => h) (Or.inl ⟨by rfl, ?_⟩) ?_ ?_
                rotate_left
                · intro w'
                  go_simp
                  with_reducible rfl
                rotate_left
                · simp only [Act.put, List.setIfInBounds_toArray, List.set_cons_zero, List.set_cons_succ, i64_w, i32_w]
                  rfl
                refine take_ (i := 3) (N := some 78) (v := ?_) (a' := ?_) #[true, true, true, true, true, true, true, false, true, false, false, false, false, true, false, true, true, true, false, true, false, false, false, true, false, false, false, false] rfl rfl (by kernel_rfl) (fun _ _ _ h => h) (Or.inl ⟨by rfl, ?_⟩) hHeld ?_ ?_
                rotate_left
                · rintro w' ⟨s0, s1, s2, s3, s4⟩
                  go_simp
                  with_reducible rfl
                rotate_left
                · simp only [Act.put, List.setIfInBounds_toArray, List.set_cons_zero, List.set_cons_succ, i64_w, i32_w]
                  rfl
                refine take_ (i := 7) (N := some 82) (v := ?_) (a' := ?_) #[true, true, true, true, true, true, true, true, true, false, false, false, false, true, false, true, true, true, false, true, false, false, false, true, false, false, false, false] rfl rfl (by kernel_rfl) (fun _ _ _ h => h) (Or.inl ⟨by rfl, ?_⟩) hHeld ?_ ?_
                rotate_left
                · rintro w' ⟨s0, s1, s2, s3, s4⟩
                  go_simp
                  with_reducible rfl
                rotate_left
                · simp only [Act.put, List.setIfInBounds_toArray, List.set_cons_zero, List.set_cons_succ, i64_w, i32_w]
                  rfl
                refine pure_ (i := 9) (N := some 84) (v := ?_) (a' := ?_) #[true, true, true, true, true, true, true, true, true, true, false, false, false, true, false, true, true, true, false, true, false, false, false, true, false, false, false, false] rfl rfl (by kernel_rfl) (fun _ _ _ h => h) (Or.inl ⟨by rfl, ?_⟩) ?_ ?_
                rotate_left
                · intro w'
                  go_simp
                  with_reducible rfl
                rotate_left
                · simp only [Act.put, List.setIfInBounds_toArray, List.set_cons_zero, List.set_cons_succ, i64_w, i32_w]
                  rfl
                refine pure_ (i := 10) (N := some 85) (v := ?_) (a' := ?_) #[true, true, true, true, true, true, true, true, true, true, true, false, false, true, false, true, true, true, false, true, false, false, false, true, false, false, false, false] rfl rfl (by kernel_rfl) (fun _ _ _ h => h) (Or.inl ⟨by rfl, ?_⟩) ?_ ?_
                rotate_left
                · intro w'
                  go_simp
                  with_reducible rfl
                rotate_left
                · simp only [Act.put, List.setIfInBounds_toArray, List.set_cons_zero, List.set_cons_succ, i64_w, i32_w]
                  rfl
                refine take_ (i := 11) (N := some 86) (v := ?_) (a' := ?_) #[true, true, true, true, true, true, true, true, true, true, true, true, false, true, false, true, true, true, false, true, false, false, false, true, false, false, false, false] rfl rfl (by kernel_rfl) (fun _ _ _ h => h) (Or.inl ⟨by rfl, ?_⟩) hHeld ?_ ?_
                rotate_left
                · rintro w' ⟨s0, s1, s2, s3, s4⟩
                  go_simp
                  with_reducible rfl
                rotate_left
                · simp only [Act.put, List.setIfInBounds_toArray, List.set_cons_zero, List.set_cons_succ, i64_w, i32_w]
                  rfl
                refine pure_ (i := 12) (N := some 87) (v := ?_) (a' := ?_) #[true, true, true, true, true, true, true, true, true, true, true, true, true, true, false, true, true, true, false, true, false, false, false, true, false, false, false, false] rfl rfl (by kernel_rfl) (fun _ _ _ h => h) (Or.inl ⟨by rfl, ?_⟩) ?_ ?_
                rotate_left
                · intro w'
                  go_simp
                  with_reducible rfl
                rotate_left
                · simp only [Act.put, List.setIfInBounds_toArray, List.set_cons_zero, List.set_cons_succ, i64_w, i32_w]
                  rfl
                refine pure_ (i := 14) (N := some 89) (v := ?_) (a' := ?_) #[true, true, true, true, true, true, true, true, true, true, true, true, true, true, true, true, true, true, false, true, false, false, false, true, false, false, false, false] rfl rfl (by kernel_rfl) (fun _ _ _ h => h) (Or.inl ⟨by rfl, ?_⟩) ?_ ?_
                rotate_left
                · intro w'
                  go_simp
                  with_reducible rfl
                rotate_left
                · simp only [Act.put, List.setIfInBounds_toArray, List.set_cons_zero, List.set_cons_succ, i64_w, i32_w]
                  rfl
                refine take_ (i := 18) (N := some 93) (v := ?_) (a' := ?_) #[true, true, true, true, true, true, true, true, true, true, true, true, true, true, true, true, true, true, true, true, false, false, false, true, false, false, false, false] rfl rfl (by kernel_rfl) (fun _ _ _ h => h) (Or.inl ⟨by rfl, ?_⟩) hHeld ?_ ?_
                rotate_left
                · rintro w' ⟨s0, s1, s2, s3, s4⟩
                  go_simp
                  with_reducible rfl
                rotate_left
                · simp only [Act.put, List.setIfInBounds_toArray, List.set_cons_zero, List.set_cons_succ, i64_w, i32_w]
                  rfl
                refine pure_ (i := 20) (N := some 95) (v := ?_) (a' := ?_) #[true, true, true, true, true, true, true, true, true, true, true, true, true, true, true, true, true, true, true, true, true, false, false, true, false, false, false, false] rfl rfl (by kernel_rfl) (fun _ _ _ h => h) (Or.inl ⟨by rfl, ?_⟩) ?_ ?_
                rotate_left
                · intro w'
                  go_simp
                  with_reducible rfl
                rotate_left
                · simp only [Act.put, List.setIfInBounds_toArray, List.set_cons_zero, List.set_cons_succ, i64_w, i32_w]
                  rfl
                refine pure_ (i := 21) (N := some 96) (v := ?_) (a' := ?_) #[true, true, true, true, true, true, true, true, true, true, true, true, true, true, true, true, true, true, true, true, true, true, false, true, false, false, false, false] rfl rfl (by kernel_rfl) (fun _ _ _ h => h) (Or.inl ⟨by rfl, ?_⟩) ?_ ?_
                rotate_left
                · intro w'
                  go_simp
                  with_reducible rfl
                rotate_left
                · simp only [Act.put, List.setIfInBounds_toArray, List.set_cons_zero, List.set_cons_succ, i64_w, i32_w]
                  rfl
                refine take_ (i := 22) (N := some 97) (v := ?_) (a' := ?_) #[true, true, true, true, true, true, true, true, true, true, true, true, true, true, true, true, true, true, true, true, true, true, true, true, false, false, false, false] rfl rfl (by kernel_rfl) (fun _ _ _ h => h) (Or.inl ⟨by rfl, ?_⟩) hHeld ?_ ?_
                rotate_left
                · rintro w' ⟨s0, s1, s2, s3, s4⟩
                  go_simp
                  with_reducible rfl
                rotate_left
                · simp only [Act.put, List.setIfInBounds_toArray, List.set_cons_zero, List.set_cons_succ, i64_w, i32_w]
                  rfl
                refine pure_ (i := 24) (N := some 99) (v := ?_) (a' := ?_) #[true, true, true, true, true, true, true, true, true, true, true, true, true, true, true, true, true, true, true, true, true, true, true, true, true, false, false, false] rfl rfl (by kernel_rfl) (fun _ _ _ h => h) (Or.inl ⟨by rfl, ?_⟩) ?_ ?_
                rotate_left
                · intro w'
                  go_simp
                  with_reducible rfl
                rotate_left
                · simp only [Act.put, List.setIfInBounds_toArray, List.set_cons_zero, List.set_cons_succ, i64_w, i32_w]
                  rfl
                refine take_ (i := 25) (N := some 100) (v := ?_) (a' := ?_) #[true, true, true, true, true, true, true, true, true, true, true, true, true, true, true, true, true, true, true, true, true, true, true, true, true, true, false, false] rfl rfl (by kernel_rfl) (fun _ _ _ h => h) (Or.inl ⟨by rfl, ?_⟩) hHeld ?_ ?_
                rotate_left
                · rintro w' ⟨s0, s1, s2, s3, s4⟩
                  go_simp
                  with_reducible rfl
                rotate_left
                · simp only [Act.put, List.setIfInBounds_toArray, List.set_cons_zero, List.set_cons_succ, i64_w, i32_w]
                  rfl
                refine pure_ (i := 26) (N := some 101) (v := ?_) (a' := ?_) #[true, true, true, true, true, true, true, true, true, true, true, true, true, true, true, true, true, true, true, true, true, true, true, true, true, true, true, false] rfl rfl (by kernel_rfl) (fun _ _ _ h => h) (Or.inl ⟨by rfl, ?_⟩) ?_ ?_
                rotate_left
                · intro w'
                  go_simp
                  with_reducible rfl
                rotate_left
                · simp only [Act.put, List.setIfInBounds_toArray, List.set_cons_zero, List.set_cons_succ, i64_w, i32_w]
                  rfl
                refine last_ (i := 27) (N := none) #[true, true, true, true, true, true, true, true, true, true, true, true, true, true, true, true, true, true, true, true, true, true, true, true, true, true, true, true] rfl rfl (by kernel_rfl) (by decide) (fun K hK => ?_)
                refine skip_ (w1 := ?_) (by rfl) rfl ?_ ?_
                rotate_left
                · go_simp
                  rfl
                refine hK.out _ _ ?_
                clear hK K
                refine done_ (by kernel_rfl) ?_
                clear hq hwq hQn hwQ hHeld
                go_wp2_with fail
                go_roundg (64 - (k + 1))
                case measure => have := hr2.out; omega
                case rel => exact ⟨k + 1, by first | rfl | (rw [show wrap64 ((k : Int) + 1) = ((k + 1 : Nat) : Int) from by unfold wrap64; omega]), ⟨by omega⟩, ⟨by have h_ := PUT.out; rw [Int.toNat_natCast, HQ.out, NX.out, ← HQ.out] at h_; exact h_⟩, ⟨(FQ.out.drew).set (.inl rfl) _⟩⟩
              · have hk2 : ¬ (k : Int) < 64 := by omega
                have hil : k = 64 := by have := hr2.out; omega
                have hrow := RQ.out
                rw [hil, HEND.out] at hrow
                have HRW := Aside0.mk hrow
                clear hrow hil RQ
                go_wp2_with fail
                go_roundg (m.since.length - (j + 1))
                case measure => have := hr.out; omega
                case rel => exact ⟨j + 1, by first | rfl | (have := HSI.out; rw [show wrap64 ((j : Int) + 1) = ((j + 1 : Nat) : Int) from by unfold wrap64; omega]), ⟨by omega⟩, HRW, FQ⟩
        · have hil : j = m.since.length := by have := hr.out; omega
          subst hil
          have h64 := crashTo_64 (ch := l) H.out.s64 HL64.out m.since.length (Nat.le_refl _)
          obtain ⟨CT, hCT⟩ : ∃ CT, CT = crashTo m.sure m.since l m.since.length := ⟨_, rfl⟩
          have HCT := Aside0.mk hCT
          rw [← hCT] at RR h64
          have H64 := Aside0.mk h64
          have hctl : CT.flatten.length = S.length := by rw [flat_len h64, hCT, crashTo_len, HSL.out, H.out.len]
          have HCL := Aside0.mk hctl
          have R2 := Aside0.mk (R_fr RZN.out rfl FR.out (fun k hk he => by
            have hk : some pn = some k := hk
            have hk := Option.some.inj hk
            exact NE.out.2.2.1 (by rw [hk, he])))
          have K1r := Aside0.mk (show wr.cell? ⟨g', 1, none⟩ = some (.slice (some ⟨ps, 0, none⟩) S.length cp) from cell_fr K1.out FR.out NE.out.1)
          have K2r := Aside0.mk (show wr.cell? ⟨g', 2, none⟩ = some (.slice (some ⟨pn, 0, none⟩) S.length cn) from cell_fr K2.out FR.out NE.out.1)
          clear hCT h64 hctl BQ
          go_wp2_with fail
          go_loopg [12] S.length (fun r v12 wq => ∃ (i : Nat), v12 = .int .i64 i ∧ Aside0 (r + i = S.length) ∧ Aside0 (Kd.R (Kd.int .u8) 5 wq w.heap.size (fun _ => True) (.slice (some ⟨pn, 0, none⟩) S.length cn) (spl (m0 m.now.length).now.flatten CT.flatten 0 i)) ∧ Aside0 (Fr wr wq (fun k => k = pn)))
          case atStart => exact ⟨0, rfl, ⟨by omega⟩, ⟨by rw [spl_zero]; exact R2.out⟩, ⟨Fr.refl _ _⟩⟩
          case round =>
            obtain ⟨i, rfl, hr3, RN, FN⟩ := hrel
            have kx1 : wr.cell? ⟨g', 1, none⟩ = some (.slice (some ⟨ps, 0, none⟩) S.length cp) := cell_fr K1r.out FN.out NE.out.2.1
            have kx2 : wr.cell? ⟨g', 2, none⟩ = some (.slice (some ⟨pn, 0, none⟩) S.length cn) := cell_fr K2r.out FN.out NE.out.2.1
            by_cases hi : i < S.length
            · have hi2 : (i : Int) < (S.length : Int) := by omega
              have hi4 : (0 : Int) ≤ (i : Int) := by omega
              obtain ⟨x, hx⟩ : ∃ x, CT.flatten[i]? = some x := ⟨_, List.getElem?_eq_getElem (by rw [HCL.out]; exact hi)⟩
              have hcn := (Kd.R_celln (0 : Int) RR.out (i : Int) hi4 hi2).1
              rw [getD_of hx, Int.toNat_natCast] at hcn
              have kx : wr.cell? ⟨ps, i, none⟩ = some (.int .u8 x) := cell_fr hcn FN.out NE.out.2.2.1
              have hcs := Kd.R_celln (0 : Int) RN.out (i : Int) hi4 hi2
              rw [Int.toNat_natCast] at hcs
              have fz : wr.drew.frozen? ⟨pn, i, none⟩ = false := hcs.2
              have kcs := hcs.1
              have PUT := Aside0.mk (Kd.R_putn (Kd.R_drew RN.out) (i : Int) x)
              have NX : Aside0 ((spl (m0 m.now.length).now.flatten CT.flatten 0 i).set i x = spl (m0 m.now.length).now.flatten CT.flatten 0 (i + 1)) := ⟨by have h_ := spl_next (l := (m0 m.now.length).now.flatten) (b := CT.flatten) (o := 0) (k := i) (x := x) (by have := HZL.out.2; omega) hx; rw [Nat.zero_add] at h_; exact h_⟩
              clear hx hcn hcs
              go_upto_region 25 with fail
              refine start_ (n := 14) (S := fun w' => w'.cell? ⟨g', 1, none⟩ = some (.slice (some ⟨ps, 0, none⟩) S.length cp) ∧ w'.cell? ⟨g', 2, none⟩ = some (.slice (some ⟨pn, 0, none⟩) S.length cn) ∧ w'.cell? ⟨ps, i, none⟩ = some (.int .u8 x)) (ds := [13]) #[false, false, false, false, false, false, false, false, false, false, false, false, false, false] (by kernel_rfl) rfl rfl ⟨kx1, kx2, kx⟩ (fun hHeld => ?_)
              refine pure_ (i := 0) (N := some 111) (v := ?_) (a' := ?_) #[true, false, false, false, false, false, false, false, false, false, false, false, false, false] rfl rfl (by kernel_rfl) (fun _ _ _ h => h) (Or.inl ⟨by rfl, ?_⟩) ?_ ?_
              rotate_left
              · intro w'
                go_simp
                with_reducible rfl
              rotate_left
              · simp only [Act.put, List.setIfInBounds_toArray, List.set_cons_zero, List.set_cons_succ, i64_w, i32_w]
                rfl
              refine pure_ (i := 1) (N := some 112) (v := ?_) (a' := ?_) #[true, true, false, false, false, false, false, false, false, false, false, false, false, false] rfl rfl (by kernel_rfl) (fun _ _ _ h => h) (Or.inl ⟨by rfl, ?_⟩) ?_ ?_
              rotate_left
              · intro w'
                go_simp
                with_reducible rfl
              rotate_left
              · simp only [Act.put, List.setIfInBounds_toArray, List.set_cons_zero, List.set_cons_succ, i64_w, i32_w]
                rfl
              refine pure_ (i := 2) (N := some 113) (v := ?_) (a' := ?_) #[true, true, true, false, false, false, false, false, false, false, false, false, false, false] rfl rfl (by kernel_rfl) (fun _ _ _ h => h) (Or.inl ⟨by rfl, ?_⟩) ?_ ?_
              rotate_left
              · intro w'
                go_simp
                with_reducible rfl
              rotate_left
              · simp only [Act.put, List.setIfInBounds_toArray, List.set_cons_zero, List.set_cons_succ, i64_w, i32_w]
                rfl
              refine pure_ (i := 4) (N := some 115) (v := ?_) (a' := ?_) #[true, true, true, false, true, false, false, false, false, false, false, false, false, false] rfl rfl (by kernel_rfl) (fun _ _ _ h => h) (Or.inl ⟨by rfl, ?_⟩) ?_ ?_
              rotate_left
              · intro w'
                go_simp
                with_reducible rfl
              rotate_left
              · simp only [Act.put, List.setIfInBounds_toArray, List.set_cons_zero, List.set_cons_succ, i64_w, i32_w]
                rfl
              refine pure_ (i := 5) (N := some 116) (v := ?_) (a' := ?_) #[true, true, true, false, true, true, false, false, false, false, false, false, false, false] rfl rfl (by kernel_rfl) (fun _ _ _ h => h) (Or.inl ⟨by rfl, ?_⟩) ?_ ?_
              rotate_left
              · intro w'
                go_simp
                with_reducible rfl
              rotate_left
              · simp only [Act.put, List.setIfInBounds_toArray, List.set_cons_zero, List.set_cons_succ, i64_w, i32_w]
                rfl
              refine pure_ (i := 6) (N := some 117) (v := ?_) (a' := ?_) #[true, true, true, false, true, true, true, false, false, false, false, false, false, false] rfl rfl (by kernel_rfl) (fun _ _ _ h => h) (Or.inl ⟨by rfl, ?_⟩) ?_ ?_
              rotate_left
              · intro w'
                go_simp
                with_reducible rfl
              rotate_left
              · simp only [Act.put, List.setIfInBounds_toArray, List.set_cons_zero, List.set_cons_succ, i64_w, i32_w]
                rfl
              refine pure_ (i := 7) (N := some 118) (v := ?_) (a' := ?_) #[true, true, true, false, true, true, true, true, false, false, false, false, false, false] rfl rfl (by kernel_rfl) (fun _ _ _ h => h) (Or.inl ⟨by rfl, ?_⟩) ?_ ?_
              rotate_left
              · intro w'
                go_simp
                with_reducible rfl
              rotate_left
              · simp only [Act.put, List.setIfInBounds_toArray, List.set_cons_zero, List.set_cons_succ, i64_w, i32_w]
                rfl
              refine pure_ (i := 9) (N := some 120) (v := ?_) (a' := ?_) #[true, true, true, false, true, true, true, true, false, true, false, false, false, false] rfl rfl (by kernel_rfl) (fun _ _ _ h => h) (Or.inl ⟨by rfl, ?_⟩) ?_ ?_
              rotate_left
              · intro w'
                go_simp
                with_reducible rfl
              rotate_left
              · simp only [Act.put, List.setIfInBounds_toArray, List.set_cons_zero, List.set_cons_succ, i64_w, i32_w]
                rfl
              refine take_ (i := 3) (N := some 114) (v := ?_) (a' := ?_) #[true, true, true, true, true, true, true, true, false, true, false, false, false, false] rfl rfl (by kernel_rfl) (fun _ _ _ h => h) (Or.inl ⟨by rfl, ?_⟩) hHeld ?_ ?_
              rotate_left
              · rintro w' ⟨s0, s1, s2⟩
                go_simp
                with_reducible rfl
              rotate_left
              · simp only [Act.put, List.setIfInBounds_toArray, List.set_cons_zero, List.set_cons_succ, i64_w, i32_w]
                rfl
              refine take_ (i := 8) (N := some 119) (v := ?_) (a' := ?_) #[true, true, true, true, true, true, true, true, true, true, false, false, false, false] rfl rfl (by kernel_rfl) (fun _ _ _ h => h) (Or.inl ⟨by rfl, ?_⟩) hHeld ?_ ?_
              rotate_left
              · rintro w' ⟨s0, s1, s2⟩
                go_simp
                with_reducible rfl
              rotate_left
              · simp only [Act.put, List.setIfInBounds_toArray, List.set_cons_zero, List.set_cons_succ, i64_w, i32_w]
                rfl
              refine pure_ (i := 10) (N := some 121) (v := ?_) (a' := ?_) #[true, true, true, true, true, true, true, true, true, true, true, false, false, false] rfl rfl (by kernel_rfl) (fun _ _ _ h => h) (Or.inl ⟨by rfl, ?_⟩) ?_ ?_
              rotate_left
              · intro w'
                go_simp
                with_reducible rfl
              rotate_left
              · simp only [Act.put, List.setIfInBounds_toArray, List.set_cons_zero, List.set_cons_succ, i64_w, i32_w]
                rfl
              refine take_ (i := 11) (N := some 122) (v := ?_) (a' := ?_) #[true, true, true, true, true, true, true, true, true, true, true, true, false, false] rfl rfl (by kernel_rfl) (fun _ _ _ h => h) (Or.inl ⟨by rfl, ?_⟩) hHeld ?_ ?_
              rotate_left
              · rintro w' ⟨s0, s1, s2⟩
                go_simp
                with_reducible rfl
              rotate_left
              · simp only [Act.put, List.setIfInBounds_toArray, List.set_cons_zero, List.set_cons_succ, i64_w, i32_w]
                rfl
              refine pure_ (i := 12) (N := some 123) (v := ?_) (a' := ?_) #[true, true, true, true, true, true, true, true, true, true, true, true, true, false] rfl rfl (by kernel_rfl) (fun _ _ _ h => h) (Or.inl ⟨by rfl, ?_⟩) ?_ ?_
              rotate_left
              · intro w'
                go_simp
                with_reducible rfl
              rotate_left
              · simp only [Act.put, List.setIfInBounds_toArray, List.set_cons_zero, List.set_cons_succ, i64_w, i32_w]
                rfl
              refine last_ (i := 13) (N := none) #[true, true, true, true, true, true, true, true, true, true, true, true, true, true] rfl rfl (by kernel_rfl) (by decide) (fun K hK => ?_)
              refine skip_ (w1 := ?_) (by rfl) rfl ?_ ?_
              rotate_left
              · go_simp
                rfl
              refine hK.out _ _ ?_
              clear hK K
              refine done_ (by kernel_rfl) ?_
              go_wp2_with fail
              go_roundg (S.length - (i + 1))
              case measure => have := hr3.out; omega
              case rel => exact ⟨i + 1, by first | rfl | (rw [show wrap64 ((i : Int) + 1) = ((i + 1 : Nat) : Int) from by unfold wrap64; omega]), ⟨by omega⟩, ⟨by have h_ := PUT.out; rw [Int.toNat_natCast, NX.out] at h_; exact h_⟩, ⟨(FN.out.drew).set (.inl rfl) _⟩⟩
            · have hil : i = S.length := by have := hr3.out; omega
              have hrow := RN.out
              rw [hil, ← HCL.out, spl_full (by rw [HZL.out.2, HCL.out])] at hrow
              rw [HCL.out] at hrow
              have HRW := Aside0.mk hrow
              have RSF := Aside0.mk (R_fr RR.out rfl FN.out (fun k hk he => by
                have hk : some ps = some k := hk
                have hk := Option.some.inj hk
                exact NE.out.2.2.1 (by rw [hk, he])))
              have FA := Aside0.mk (show Fr w1 wr (fun k => k = ps ∨ k = pn) from (FR.out.mono (fun k hk => .inl hk)).trans FN.out (fun k hk => .inl (.inr hk)))
              clear hrow RN
              go_wp2_with fail
              go_ret
              have h1 := R1.out
              have hne := h1.ne
              have hm0 : (m0 m.now.length).now.length = m.now.length := by simp [m0]
              have hctn : CT.length = m.now.length := by rw [HCT.out, crashTo_len, H.out.len]
              have hcr : crashed m l = ⟨CT, CT, [], [], 0⟩ := by unfold crashed; rw [HCT.out]
              have f0 : ∀ k, (k = ps ∨ k = pn) → own X'.v0 k ∨ own X'.v1 k := fun k hk => by rcases hk with hk | hk; exact .inl (by rw [HX0.out, hk]; rfl); exact .inr (by rw [HX1.out, hk]; rfl)
              refine ⟨g', X', rfl, ?_, below_fr BW1.out BW1.out.size FA.out (fun k hk => by rcases hk with hk | hk; rw [hk]; exact PSG.out; rw [hk]; exact PNG.out)⟩
              rw [hcr]
              refine ⟨?_, by rw [HX0.out]; exact RSF.out, by rw [HX1.out]; exact HRW.out, ?_, ?_, h1.wlen, (fun j p hp => by simp at hp), h1.ap, h1.ap3, (fun x hx => by cases hx), rfl, ?_, ?_, (fun p hp => by cases hp), h1.ge, H64.out, H64.out, rfl⟩
              · have h_ := FA.out.blk h1.blk (by rintro (he | he); exact NE.out.1 he; exact NE.out.2.1 he)
                rw [hm0] at h_
                rw [h_]
                show _ = some (Obj.cells #[.int .i64 (CT.length : Nat), _, _, _, _, _] _ _)
                rw [hctn]; rfl
              · exact R_fr h1.since rfl FA.out (fun k hk he => by rcases f0 k he with h2 | h2; exact (h1.ap23 hk).1 h2; exact (h1.ap23 hk).2.1 h2)
              · exact Q_fr h1.wait rfl FA.out (fun k hk he => by rcases f0 k he with h2 | h2; exact (h1.ap3 k hk).1 h2; exact (h1.ap3 k hk).2 h2)
              · show 1 ≤ CT.length
                rw [hctn]; exact hn1
              · show CT.length ≤ 4096
                rw [hctn]; exact hn2
end Go.Proofs.Ytdnjjhdhldgcmaa.Sec
