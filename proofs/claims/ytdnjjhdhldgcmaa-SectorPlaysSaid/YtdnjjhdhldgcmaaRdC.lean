/- chapter 7: does a disk tell what the model says: looks. chapter 7: a disk and the document's disk side by side: bounds; Write of any bytes. -/
import Derived.Test.YtdnjjhdhldgcmaaRdB
namespace Go.Proofs.Ytdnjjhdhldgcmaa.Sec
open Go.RowKit Go.Proofs.YtdnjjhdhldgcmaaW.PrintWords Go.Proofs.YtdnjjhdhldgcmaaW.PrintLast Go.Proofs.YtdnjjhdhldgcmaaW.PrintMore Go.Proofs.Ytdnjjhdhldgcmaa.Bs Go.Proofs.Ytdnjjhdhldgcmaa.Fr
open Go.Proofs.Ytdnjjhdhldgcmaa.PSectorTorn
set_option linter.unusedVariables false
set_option linter.unusedSimpArgs false
def inM (m : DM) (i : Int) : Prop := 0 ≤ i ∧ i < (m.now.length : Int)
instance (m : DM) (i : Int) : Decidable (inM m i) := by unfold inM; infer_instance
def rdM (m : DM) (i : Int) : List Int := if inM m i then m.now.getD i.toNat zB else []
def rdE (m : DM) (i : Int) : Int := if inM m i then 0 else 1
theorem Read_any (w : World) (base g : Nat) (v0 v1 v2 v3 : Value) (m : DM) (h : DV w base g v0 v1 v2 v3 m) (i : Int) :
    Calls Try.prog 24 #[.pointer (some ⟨g, 0, none⟩), .int .i64 i] w fun e w' => ∃ A c, e = .returned (.tuple #[.slice A (rdM m i).length c, .int .i64 (rdE m i)]) ∧ Kd.C (Kd.int .u8) w' A (rdM m i).length (rdM m i) ∧ (rdM m i).length ≤ c ∧ Below w.heap.size w w' := by
  unfold rdM rdE
  by_cases hi : inM m i
  · rw [if_pos hi, if_pos hi]
    have hi : 0 ≤ i ∧ i < (m.now.length : Int) := hi
    obtain ⟨n, rfl⟩ := Int.eq_ofNat_of_zero_le hi.1
    rw [Int.toNat_natCast]
    refine (Read_calls w base g v0 v1 v2 v3 m h n (by omega)).mono ?_
    rintro e w' ⟨g2, rfl, _, hb2, hl, hbl⟩
    rw [hl]
    exact ⟨_, _, rfl, C_blk hb2 hl, Nat.le_refl _, hbl⟩
  · rw [if_neg hi, if_neg hi]
    unfold inM at hi
    refine (Read_out w base g v0 v1 v2 v3 m h i (by omega)).mono ?_
    rintro e w' ⟨rfl, rfl⟩
    exact ⟨none, 0, rfl, Kd.C_nil _ _, Nat.le_refl _, Below.refl _ _⟩
theorem RRead_any (w : World) (base g : Nat) (X : RX) (m : DM) (h : RV w base g X m) (i : Int) :
    Calls Try.prog 59 #[.pointer (some ⟨g, 0, none⟩), .int .i64 i] w fun e w' => ∃ A c, e = .returned (.tuple #[.slice A (rdM m i).length c, .int .i64 (rdE m i)]) ∧ Kd.C (Kd.int .u8) w' A (rdM m i).length (rdM m i) ∧ (rdM m i).length ≤ c ∧ Below w.heap.size w w' := by
  unfold rdM rdE
  by_cases hi : inM m i
  · rw [if_pos hi, if_pos hi]
    have hi : 0 ≤ i ∧ i < (m.now.length : Int) := hi
    obtain ⟨n, rfl⟩ := Int.eq_ofNat_of_zero_le hi.1
    rw [Int.toNat_natCast]
    refine (RRead_calls w base g X m h n (by omega)).mono ?_
    rintro e w' ⟨A, c, rfl, hR, hbl⟩
    have hl := h.n64.sec (i := n) (by omega)
    obtain ⟨_, hc, hC⟩ := Kd.R_reads' hR
    rw [hl] at hC ⊢
    exact ⟨A, c, rfl, hC, hc, hbl⟩
  · rw [if_neg hi, if_neg hi]
    unfold inM at hi
    refine (RRead_bad w base g X m h i (by omega)).mono ?_
    rintro e w' ⟨rfl, rfl⟩
    exact ⟨none, 0, rfl, Kd.C_nil _ _, Nat.le_refl _, Below.refl _ _⟩
theorem same_any (w : World) (A0 A1 : Option Addr) (c0 c1 : Nat) (l : List Int) (hl : l.length ≤ 1000000) (h0 : Kd.C (Kd.int .u8) w A0 l.length l) (hc0 : l.length ≤ c0) (h1 : Kd.C (Kd.int .u8) w A1 l.length l) (hc1 : l.length ≤ c1) :
    Calls Try.prog 29 #[.slice A0 l.length c0, .slice A1 l.length c1] w fun e w' => e = .returned (.bool true) ∧ Below w.heap.size w w' :=
  (bailiwickref1_Same.calls (l.length + 1) A0 c0 l A1 c1 l true w h0 hc0 h1 hc1 (same_f l hl)).mono (fun e w' hh => ⟨hh.1, hh.2.below⟩)
theorem rdM_len {w : World} {base g : Nat} {X : RX} {m : DM} (h : RV w base g X m) (i : Int) : (rdM m i).length ≤ 64 := by
  unfold rdM
  by_cases hi : inM m i
  · rw [if_pos hi]
    have hi : 0 ≤ i ∧ i < (m.now.length : Int) := hi
    rw [h.n64.sec (i := i.toNat) (by omega)]
    exact Nat.le_refl _
  · rw [if_neg hi]; simp
set_option maxHeartbeats 4000000 in
set_option maxRecDepth 100000 in
theorem looks_calls (w : World) (B0 g : Nat) (v0 v1 v2 v3 : Value) (m : DM) (h : DV w B0 g v0 v1 v2 v3 m) (B1 gR : Nat) (X : RX) (hR : RV w B1 gR X m) :
    Calls Try.prog 25 #[.pointer (some ⟨g, 0, none⟩), .pointer (some ⟨gR, 0, none⟩)] w fun e w' => e = .returned (.bool true) ∧ Below w.heap.size w w' := by
  have D0 := Aside0.mk h
  have R0 := Aside0.mk hR
  obtain ⟨A2, c2, hv2⟩ := Kd.R_slice hR.since
  have hwl := hR.wlen
  rw [hwl] at hv2
  have k0 : w.cell? ⟨gR, 0, none⟩ = some (.int .i64 m.now.length) := blk_cell hR.blk 0
  have k3 : w.cell? ⟨gR, 3, none⟩ = some (.slice A2 m.since.length c2) := by rw [← hv2]; exact blk_cell hR.blk 3
  have k5 : w.cell? ⟨gR, 5, none⟩ = some (.int .i64 m.ops) := blk_cell hR.blk 5
  have hN := hR.n2
  have HRL := Aside0.mk (rdM_len hR)
  clear h hR hv2 hwl
  go_enter Try.func25, Try.ntmps25
  go_upto_region 1 with fail
  refine start_ (n := 30) (S := fun w' => w'.cell? ⟨gR, 0, none⟩ = some (.int .i64 m.now.length) ∧ w'.cell? ⟨gR, 3, none⟩ = some (.slice A2 m.since.length c2) ∧ w'.cell? ⟨gR, 5, none⟩ = some (.int .i64 m.ops)) (ds := []) #[false, false, false, false, false, false, false, false, false, false, false, false, false, false, false, false, false, false, false, false, false, false, false, false, false, false, false, false, false, false] (by kernel_rfl) rfl rfl ⟨k0, k3, k5⟩ (fun hHeld => ?_)
  refine pure_ (i := 0) (N := some 10) (v := ?_) (a' := ?_) #[true, false, false, false, false, false, false, false, false, false, false, false, false, false, false, false, false, false, false, false, false, false, false, false, false, false, false, false, false, false] rfl rfl (by kernel_rfl) (fun _ _ _ h => h) (Or.inl ⟨by rfl, ?_⟩) ?_ ?_
  rotate_left
  · intro w'
    go_simp
    with_reducible rfl
  rotate_left
  · simp only [Act.put, List.setIfInBounds_toArray, List.set_cons_zero, List.set_cons_succ, i64_w, i32_w]
    rfl
  refine pure_ (i := 1) (N := some 11) (v := (.bool false)) (a' := ?aa_1) #[true, true, false, false, false, false, false, false, false, false, false, false, false, false, false, false, false, false, false, false, false, false, false, false, false, false, false, false, false, false] rfl rfl (by kernel_rfl) (fun _ _ _ h => h) ?hy_1 ?ha_1 ?h_1
  case hy_1 => exact Or.inl ⟨by rfl, fun w' => by go_simp⟩
  case ha_1 => simp only [Act.put, List.setIfInBounds_toArray, List.set_cons_zero, List.set_cons_succ, i64_w, i32_w]; rfl
  refine pure_ (i := 2) (N := some 12) (v := ?_) (a' := ?_) #[true, true, true, false, false, false, false, false, false, false, false, false, false, false, false, false, false, false, false, false, false, false, false, false, false, false, false, false, false, false] rfl rfl (by kernel_rfl) (fun _ _ _ h => h) (Or.inl ⟨by rfl, ?_⟩) ?_ ?_
  rotate_left
  · intro w'
    go_simp
    with_reducible rfl
  rotate_left
  · simp only [Act.put, List.setIfInBounds_toArray, List.set_cons_zero, List.set_cons_succ, i64_w, i32_w]
    rfl
  refine pure_ (i := 3) (N := some 13) (v := ?_) (a' := ?_) #[true, true, true, true, false, false, false, false, false, false, false, false, false, false, false, false, false, false, false, false, false, false, false, false, false, false, false, false, false, false] rfl rfl (by kernel_rfl) (fun _ _ _ h => h) (Or.inl ⟨by rfl, ?_⟩) ?_ ?_
  rotate_left
  · intro w'
    go_simp
    with_reducible rfl
  rotate_left
  · simp only [Act.put, List.setIfInBounds_toArray, List.set_cons_zero, List.set_cons_succ, i64_w, i32_w]
    rfl
  refine pure_ (i := 5) (N := some 15) (v := ?_) (a' := ?_) #[true, true, true, true, false, true, false, false, false, false, false, false, false, false, false, false, false, false, false, false, false, false, false, false, false, false, false, false, false, false] rfl rfl (by kernel_rfl) (fun _ _ _ h => h) (Or.inl ⟨by rfl, ?_⟩) ?_ ?_
  rotate_left
  · intro w'
    go_simp
    with_reducible rfl
  rotate_left
  · simp only [Act.put, List.setIfInBounds_toArray, List.set_cons_zero, List.set_cons_succ, i64_w, i32_w]
    rfl
  refine pure_ (i := 6) (N := some 16) (v := ?_) (a' := ?_) #[true, true, true, true, false, true, true, false, false, false, false, false, false, false, false, false, false, false, false, false, false, false, false, false, false, false, false, false, false, false] rfl rfl (by kernel_rfl) (fun _ _ _ h => h) (Or.inl ⟨by rfl, ?_⟩) ?_ ?_
  rotate_left
  · intro w'
    go_simp
    with_reducible rfl
  rotate_left
  · simp only [Act.put, List.setIfInBounds_toArray, List.set_cons_zero, List.set_cons_succ, i64_w, i32_w]
    rfl
  refine pure_ (i := 7) (N := some 17) (v := ?_) (a' := ?_) #[true, true, true, true, false, true, true, true, false, false, false, false, false, false, false, false, false, false, false, false, false, false, false, false, false, false, false, false, false, false] rfl rfl (by kernel_rfl) (fun _ _ _ h => h) (Or.inl ⟨by rfl, ?_⟩) ?_ ?_
  rotate_left
  · intro w'
    go_simp
    with_reducible rfl
  rotate_left
  · simp only [Act.put, List.setIfInBounds_toArray, List.set_cons_zero, List.set_cons_succ, i64_w, i32_w]
    rfl
  refine take_ (i := 8) (N := some 18) (v := ?_) (a' := ?_) #[true, true, true, true, false, true, true, true, true, false, false, false, false, false, false, false, false, false, false, false, false, false, false, false, false, false, false, false, false, false] rfl rfl (by kernel_rfl) (fun _ _ _ h => h) (Or.inl ⟨by rfl, ?_⟩) hHeld ?_ ?_
  rotate_left
  · rintro w' ⟨s0, s1, s2⟩
    go_simp
    with_reducible rfl
  rotate_left
  · simp only [Act.put, List.setIfInBounds_toArray, List.set_cons_zero, List.set_cons_succ, i64_w, i32_w]
    rfl
  refine one_ (i := 4) (N := some 14) #[true, true, true, true, true, true, true, true, true, false, false, false, false, false, false, false, false, false, false, false, false, false, false, false, false, false, false, false, false, false] rfl rfl (by kernel_rfl) (by decide) (fun K hK => ?_)
  refine goes_ Try.func54 (by kernel_rfl) rfl #[.pointer (some ⟨g, 0, none⟩)] (by rfl) rfl rfl (by simp only [List.map_toArray, List.map_cons, List.map_nil]; rfl) ?_
  with_reducible refine (Size_calls _ B0 g v0 v1 v2 v3 m (D0.out.below (Below.refl w.heap.size w).drew)).mono ?_
  rintro e _ ⟨rfl, rfl⟩
  refine ⟨_, rfl, ?_⟩
  refine hK.out _ _ ⟨hHeld.1, hHeld.2.1, hHeld.2.2⟩ (fun hHeld => ?_)
  clear hK K
  refine norm_ (a' := ?_) ?_ ?_
  rotate_left
  · show Act.put _ (some 14) _ = _
    simp only [Act.put, List.setIfInBounds_toArray, List.set_cons_zero, List.set_cons_succ, i64_w, i32_w]
    rfl
  refine pure_ (i := 9) (N := some 19) (v := (.bool false)) (a' := ?aa_2) #[true, true, true, true, true, true, true, true, true, true, false, false, false, false, false, false, false, false, false, false, false, false, false, false, false, false, false, false, false, false] rfl rfl (by kernel_rfl) (fun _ _ _ h => h) ?hy_2 ?ha_2 ?h_2
  case hy_2 => exact Or.inl ⟨by rfl, fun w' => by go_simp⟩
  case ha_2 => simp only [Act.put, List.setIfInBounds_toArray, List.set_cons_zero, List.set_cons_succ, i64_w, i32_w]; rfl
  refine pure_ (i := 10) (N := some 20) (v := ?_) (a' := ?_) #[true, true, true, true, true, true, true, true, true, true, true, false, false, false, false, false, false, false, false, false, false, false, false, false, false, false, false, false, false, false] rfl rfl (by kernel_rfl) (fun _ _ _ h => h) (Or.inl ⟨by rfl, ?_⟩) ?_ ?_
  rotate_left
  · intro w'
    go_simp
    with_reducible rfl
  rotate_left
  · simp only [Act.put, List.setIfInBounds_toArray, List.set_cons_zero, List.set_cons_succ, i64_w, i32_w]
    rfl
  refine pure_ (i := 11) (N := some 21) (v := ?_) (a' := ?_) #[true, true, true, true, true, true, true, true, true, true, true, true, false, false, false, false, false, false, false, false, false, false, false, false, false, false, false, false, false, false] rfl rfl (by kernel_rfl) (fun _ _ _ h => h) (Or.inl ⟨by rfl, ?_⟩) ?_ ?_
  rotate_left
  · intro w'
    go_simp
    with_reducible rfl
  rotate_left
  · simp only [Act.put, List.setIfInBounds_toArray, List.set_cons_zero, List.set_cons_succ, i64_w, i32_w]
    rfl
  refine pure_ (i := 12) (N := some 22) (v := ?_) (a' := ?_) #[true, true, true, true, true, true, true, true, true, true, true, true, true, false, false, false, false, false, false, false, false, false, false, false, false, false, false, false, false, false] rfl rfl (by kernel_rfl) (fun _ _ _ h => h) (Or.inl ⟨by rfl, ?_⟩) ?_ ?_
  rotate_left
  · intro w'
    go_simp
    with_reducible rfl
  rotate_left
  · simp only [Act.put, List.setIfInBounds_toArray, List.set_cons_zero, List.set_cons_succ, i64_w, i32_w]
    rfl
  refine pure_ (i := 14) (N := some 24) (v := ?_) (a' := ?_) #[true, true, true, true, true, true, true, true, true, true, true, true, true, false, true, false, false, false, false, false, false, false, false, false, false, false, false, false, false, false] rfl rfl (by kernel_rfl) (fun _ _ _ h => h) (Or.inl ⟨by rfl, ?_⟩) ?_ ?_
  rotate_left
  · intro w'
    go_simp
    with_reducible rfl
  rotate_left
  · simp only [Act.put, List.setIfInBounds_toArray, List.set_cons_zero, List.set_cons_succ, i64_w, i32_w]
    rfl
  refine pure_ (i := 15) (N := some 25) (v := ?_) (a' := ?_) #[true, true, true, true, true, true, true, true, true, true, true, true, true, false, true, true, false, false, false, false, false, false, false, false, false, false, false, false, false, false] rfl rfl (by kernel_rfl) (fun _ _ _ h => h) (Or.inl ⟨by rfl, ?_⟩) ?_ ?_
  rotate_left
  · intro w'
    go_simp
    with_reducible rfl
  rotate_left
  · simp only [Act.put, List.setIfInBounds_toArray, List.set_cons_zero, List.set_cons_succ, i64_w, i32_w]
    rfl
  refine pure_ (i := 16) (N := some 26) (v := ?_) (a' := ?_) #[true, true, true, true, true, true, true, true, true, true, true, true, true, false, true, true, true, false, false, false, false, false, false, false, false, false, false, false, false, false] rfl rfl (by kernel_rfl) (fun _ _ _ h => h) (Or.inl ⟨by rfl, ?_⟩) ?_ ?_
  rotate_left
  · intro w'
    go_simp
    with_reducible rfl
  rotate_left
  · simp only [Act.put, List.setIfInBounds_toArray, List.set_cons_zero, List.set_cons_succ, i64_w, i32_w]
    rfl
  refine take_ (i := 17) (N := some 27) (v := ?_) (a' := ?_) #[true, true, true, true, true, true, true, true, true, true, true, true, true, false, true, true, true, true, false, false, false, false, false, false, false, false, false, false, false, false] rfl rfl (by kernel_rfl) (fun _ _ _ h => h) (Or.inl ⟨by rfl, ?_⟩) hHeld ?_ ?_
  rotate_left
  · rintro w' ⟨s0, s1, s2⟩
    go_simp
    with_reducible rfl
  rotate_left
  · simp only [Act.put, List.setIfInBounds_toArray, List.set_cons_zero, List.set_cons_succ, i64_w, i32_w]
    rfl
  refine pure_ (i := 18) (N := some 28) (v := ?_) (a' := ?_) #[true, true, true, true, true, true, true, true, true, true, true, true, true, false, true, true, true, true, true, false, false, false, false, false, false, false, false, false, false, false] rfl rfl (by kernel_rfl) (fun _ _ _ h => h) (Or.inl ⟨by rfl, ?_⟩) ?_ ?_
  rotate_left
  · intro w'
    go_simp
    with_reducible rfl
  rotate_left
  · simp only [Act.put, List.setIfInBounds_toArray, List.set_cons_zero, List.set_cons_succ, i64_w, i32_w]
    rfl
  refine one_ (i := 13) (N := some 23) #[true, true, true, true, true, true, true, true, true, true, true, true, true, true, true, true, true, true, true, false, false, false, false, false, false, false, false, false, false, false] rfl rfl (by kernel_rfl) (by decide) (fun K hK => ?_)
  refine goes_ Try.func30 (by kernel_rfl) rfl #[.pointer (some ⟨g, 0, none⟩)] (by rfl) rfl rfl (by simp only [List.map_toArray, List.map_cons, List.map_nil]; rfl) ?_
  with_reducible refine (Dirty_calls _ B0 g v0 v1 v2 v3 m (D0.out.below (Below.refl w.heap.size w).drew)).mono ?_
  rintro e _ ⟨rfl, rfl⟩
  refine ⟨_, rfl, ?_⟩
  refine hK.out _ _ ⟨hHeld.1, hHeld.2.1, hHeld.2.2⟩ (fun hHeld => ?_)
  clear hK K
  refine norm_ (a' := ?_) ?_ ?_
  rotate_left
  · show Act.put _ (some 23) _ = _
    simp only [Act.put, List.setIfInBounds_toArray, List.set_cons_zero, List.set_cons_succ, i64_w, i32_w]
    rfl
  refine pure_ (i := 19) (N := some 29) (v := (.bool false)) (a' := ?aa_3) #[true, true, true, true, true, true, true, true, true, true, true, true, true, true, true, true, true, true, true, true, false, false, false, false, false, false, false, false, false, false] rfl rfl (by kernel_rfl) (fun _ _ _ h => h) ?hy_3 ?ha_3 ?h_3
  case hy_3 => exact Or.inl ⟨by rfl, fun w' => by go_simp⟩
  case ha_3 => simp only [Act.put, List.setIfInBounds_toArray, List.set_cons_zero, List.set_cons_succ, i64_w, i32_w]; rfl
  refine pure_ (i := 20) (N := some 30) (v := ?_) (a' := ?_) #[true, true, true, true, true, true, true, true, true, true, true, true, true, true, true, true, true, true, true, true, true, false, false, false, false, false, false, false, false, false] rfl rfl (by kernel_rfl) (fun _ _ _ h => h) (Or.inl ⟨by rfl, ?_⟩) ?_ ?_
  rotate_left
  · intro w'
    go_simp
    with_reducible rfl
  rotate_left
  · simp only [Act.put, List.setIfInBounds_toArray, List.set_cons_zero, List.set_cons_succ, i64_w, i32_w]
    rfl
  refine pure_ (i := 21) (N := some 31) (v := ?_) (a' := ?_) #[true, true, true, true, true, true, true, true, true, true, true, true, true, true, true, true, true, true, true, true, true, true, false, false, false, false, false, false, false, false] rfl rfl (by kernel_rfl) (fun _ _ _ h => h) (Or.inl ⟨by rfl, ?_⟩) ?_ ?_
  rotate_left
  · intro w'
    go_simp
    with_reducible rfl
  rotate_left
  · simp only [Act.put, List.setIfInBounds_toArray, List.set_cons_zero, List.set_cons_succ, i64_w, i32_w]
    rfl
  refine pure_ (i := 22) (N := some 32) (v := ?_) (a' := ?_) #[true, true, true, true, true, true, true, true, true, true, true, true, true, true, true, true, true, true, true, true, true, true, true, false, false, false, false, false, false, false] rfl rfl (by kernel_rfl) (fun _ _ _ h => h) (Or.inl ⟨by rfl, ?_⟩) ?_ ?_
  rotate_left
  · intro w'
    go_simp
    with_reducible rfl
  rotate_left
  · simp only [Act.put, List.setIfInBounds_toArray, List.set_cons_zero, List.set_cons_succ, i64_w, i32_w]
    rfl
  refine pure_ (i := 24) (N := some 34) (v := ?_) (a' := ?_) #[true, true, true, true, true, true, true, true, true, true, true, true, true, true, true, true, true, true, true, true, true, true, true, false, true, false, false, false, false, false] rfl rfl (by kernel_rfl) (fun _ _ _ h => h) (Or.inl ⟨by rfl, ?_⟩) ?_ ?_
  rotate_left
  · intro w'
    go_simp
    with_reducible rfl
  rotate_left
  · simp only [Act.put, List.setIfInBounds_toArray, List.set_cons_zero, List.set_cons_succ, i64_w, i32_w]
    rfl
  refine pure_ (i := 25) (N := some 35) (v := ?_) (a' := ?_) #[true, true, true, true, true, true, true, true, true, true, true, true, true, true, true, true, true, true, true, true, true, true, true, false, true, true, false, false, false, false] rfl rfl (by kernel_rfl) (fun _ _ _ h => h) (Or.inl ⟨by rfl, ?_⟩) ?_ ?_
  rotate_left
  · intro w'
    go_simp
    with_reducible rfl
  rotate_left
  · simp only [Act.put, List.setIfInBounds_toArray, List.set_cons_zero, List.set_cons_succ, i64_w, i32_w]
    rfl
  refine pure_ (i := 26) (N := some 36) (v := ?_) (a' := ?_) #[true, true, true, true, true, true, true, true, true, true, true, true, true, true, true, true, true, true, true, true, true, true, true, false, true, true, true, false, false, false] rfl rfl (by kernel_rfl) (fun _ _ _ h => h) (Or.inl ⟨by rfl, ?_⟩) ?_ ?_
  rotate_left
  · intro w'
    go_simp
    with_reducible rfl
  rotate_left
  · simp only [Act.put, List.setIfInBounds_toArray, List.set_cons_zero, List.set_cons_succ, i64_w, i32_w]
    rfl
  refine take_ (i := 27) (N := some 37) (v := ?_) (a' := ?_) #[true, true, true, true, true, true, true, true, true, true, true, true, true, true, true, true, true, true, true, true, true, true, true, false, true, true, true, true, false, false] rfl rfl (by kernel_rfl) (fun _ _ _ h => h) (Or.inl ⟨by rfl, ?_⟩) hHeld ?_ ?_
  rotate_left
  · rintro w' ⟨s0, s1, s2⟩
    go_simp
    with_reducible rfl
  rotate_left
  · simp only [Act.put, List.setIfInBounds_toArray, List.set_cons_zero, List.set_cons_succ, i64_w, i32_w]
    rfl
  refine one_ (i := 23) (N := some 33) #[true, true, true, true, true, true, true, true, true, true, true, true, true, true, true, true, true, true, true, true, true, true, true, true, true, true, true, true, false, false] rfl rfl (by kernel_rfl) (by decide) (fun K hK => ?_)
  refine goes_ Try.func31 (by kernel_rfl) rfl #[.pointer (some ⟨g, 0, none⟩)] (by rfl) rfl rfl (by simp only [List.map_toArray, List.map_cons, List.map_nil]; rfl) ?_
  with_reducible refine (Ops_calls _ B0 g v0 v1 v2 v3 m (D0.out.below (Below.refl w.heap.size w).drew)).mono ?_
  rintro e _ ⟨rfl, rfl⟩
  refine ⟨_, rfl, ?_⟩
  refine hK.out _ _ ⟨hHeld.1, hHeld.2.1, hHeld.2.2⟩ (fun hHeld => ?_)
  clear hK K
  refine norm_ (a' := ?_) ?_ ?_
  rotate_left
  · show Act.put _ (some 33) _ = _
    simp only [Act.put, List.setIfInBounds_toArray, List.set_cons_zero, List.set_cons_succ, i64_w, i32_w]
    rfl
  refine pure_ (i := 28) (N := some 38) (v := (.bool false)) (a' := ?aa_4) #[true, true, true, true, true, true, true, true, true, true, true, true, true, true, true, true, true, true, true, true, true, true, true, true, true, true, true, true, true, false] rfl rfl (by kernel_rfl) (fun _ _ _ h => h) ?hy_4 ?ha_4 ?h_4
  case hy_4 => exact Or.inl ⟨by rfl, fun w' => by go_simp⟩
  case ha_4 => simp only [Act.put, List.setIfInBounds_toArray, List.set_cons_zero, List.set_cons_succ, i64_w, i32_w]; rfl
  refine pure_ (i := 29) (N := some 39) (v := ?_) (a' := ?_) #[true, true, true, true, true, true, true, true, true, true, true, true, true, true, true, true, true, true, true, true, true, true, true, true, true, true, true, true, true, true] rfl rfl (by kernel_rfl) (fun _ _ _ h => h) (Or.inl ⟨by rfl, ?_⟩) ?_ ?_
  rotate_left
  · intro w'
    go_simp
    with_reducible rfl
  rotate_left
  · simp only [Act.put, List.setIfInBounds_toArray, List.set_cons_zero, List.set_cons_succ, i64_w, i32_w]
    rfl
  refine done_ (by kernel_rfl) ?_
  have DD := Aside0.mk (D0.out.below (Below.refl w.heap.size w).drew)
  have RD := Aside0.mk (R0.out.below (Below.refl w.heap.size w).drew)
  have BD := Aside0.mk (Below.refl w.heap.size w).drew
  have K0 := Aside0.mk (show w.drew.cell? ⟨gR, 0, none⟩ = some (.int .i64 m.now.length) from k0)
  clear k0 k3 k5 hHeld
  generalize w.drew = wd at *
  go_wp2_with fail
  go_loopg [5] (m.now.length + 2) (fun r v5 wr => ∃ (k : Nat), v5 = .int .i64 ((k : Int) - 1) ∧ Aside0 (r + k = m.now.length + 2) ∧ Aside0 (Below wd.heap.size wd wr))
  case atStart => exact ⟨0, rfl, ⟨by omega⟩, ⟨Below.refl _ _⟩⟩
  case round =>
    obtain ⟨k, rfl, hr, BR⟩ := hrel
    have kr0 : wr.cell? ⟨gR, 0, none⟩ = some (.int .i64 m.now.length) := pw_cell_below BR.out K0.out
    obtain ⟨i, hki⟩ : ∃ i : Int, i = (k : Int) - 1 := ⟨_, rfl⟩
    rw [← hki]
    have HKI := Aside0.mk hki
    have hi0 : -1 ≤ i ∧ i ≤ 4098 := by have := hr.out; omega
    clear hki
    by_cases hk : i ≤ (m.now.length : Int)
    · have hi1 : decide (i ≤ (m.now.length : Int)) = true := decide_eq_true hk
      have hi2 : i + 1 ≤ 4099 := by omega
      go_wp2_with fail
      refine (Read_any wr B0 g v0 v1 v2 v3 m (DD.out.below BR.out) i).mono ?_
      rintro e w3 ⟨A3, c3, rfl, hC3, hc3, hb3⟩
      have B3 := Aside0.mk (below_step BR.out hb3)
      have C3 := Aside0.mk hC3
      have HC3 := Aside0.mk hc3
      clear hC3 hc3 hb3 kr0
      go_wp2_with fail
      refine (RRead_any _ B1 gR X m (RD.out.below B3.out) i).mono ?_
      rintro e w4 ⟨A4, c4, rfl, hC4, hc4, hb4⟩
      have B4 := Aside0.mk (below_step B3.out hb4)
      have C4 := Aside0.mk hC4
      have HC4 := Aside0.mk hc4
      have C34 := Aside0.mk (Kd.C_below C3.out hb4)
      clear hC4 hc4 hb4
      go_wp2_with fail
      refine (same_any _ A3 A4 c3 c4 (rdM m i) (Nat.le_trans (HRL.out i) (by decide)) C34.out HC3.out C4.out HC4.out).mono ?_
      rintro e w5 ⟨rfl, hb5⟩
      have B5 := Aside0.mk (below_step B4.out hb5)
      clear hb5
      go_wp2_with fail
      go_roundg (m.now.length + 2 - (k + 1))
      case measure => have := hr.out; have := HKI.out; omega
      case rel => exact ⟨k + 1, by have := HKI.out; first | (rw [show wrap64 (i + 1) = ((k + 1 : Nat) : Int) - 1 from by unfold wrap64; omega]) | (rw [show i + 1 = ((k + 1 : Nat) : Int) - 1 from by omega]), ⟨by have := hr.out; have := HKI.out; omega⟩, B5⟩
    · have hi1 : decide (i ≤ (m.now.length : Int)) = false := decide_eq_false hk
      go_wp2_with fail
      go_ret
      exact ⟨rfl, below_step BD.out BR.out⟩
end Go.Proofs.Ytdnjjhdhldgcmaa.Sec
namespace Go.Proofs.Ytdnjjhdhldgcmaa.Sec
open Go.RowKit Go.Proofs.YtdnjjhdhldgcmaaW.PrintWords Go.Proofs.YtdnjjhdhldgcmaaW.PrintLast Go.Proofs.YtdnjjhdhldgcmaaW.PrintMore Go.Proofs.Ytdnjjhdhldgcmaa.Bs Go.Proofs.Ytdnjjhdhldgcmaa.Fr
open Go.Proofs.Ytdnjjhdhldgcmaa.PSectorTorn Go.Proofs.Ytdnjjhdhldgcmaa.PSectorSynced
set_option linter.unusedVariables false
set_option linter.unusedSimpArgs false
/-- How much there is behind i deeds. -/
structure Bd (m : DM) (i : Nat) : Prop where
  o0 : 0 ≤ m.ops
  o1 : m.ops ≤ i
  s : m.since.length ≤ i
  q : m.wait.length ≤ 1000 * i
theorem Bd.mono {m : DM} {i j : Nat} (h : Bd m i) (hj : i ≤ j) : Bd m j := ⟨h.o0, by have := h.o1; omega, by have := h.s; omega, by have := h.q; omega⟩
theorem Bd.took {m : DM} {i : Nat} (h : Bd m i) : Bd (took m) (i + 1) := ⟨by have := h.o0; show 0 ≤ m.ops + 1; omega, by have := h.o1; show m.ops + 1 ≤ ((i + 1 : Nat) : Int); omega, by have := h.s; show m.since.length ≤ i + 1; omega, by have := h.q; show m.wait.tail.length ≤ 1000 * (i + 1); rw [List.length_tail]; omega⟩
theorem Bd.write {m : DM} {i : Nat} (h : Bd m i) (a : Int) (b : List Int) : Bd (wrM m a b) (i + 1) := by
  unfold wrM
  split
  · split
    · exact h.took
    · exact ⟨h.took.o0, h.took.o1, by have := h.s; show (m.since ++ [_]).length ≤ i + 1; rw [List.length_append]; show m.since.length + 1 ≤ i + 1; omega, h.took.q⟩
  · exact h.mono (Nat.le_succ i)
theorem Bd.sync {m : DM} {i : Nat} (h : Bd m i) : Bd (syM m) (i + 1) := by
  unfold syM
  split
  · exact h.took
  · exact ⟨h.took.o0, h.took.o1, Nat.zero_le _, h.took.q⟩
theorem Bd.waits {m : DM} {i : Nat} (h : Bd m i) (l : List Int) (hl : l.length ≤ 1000) : Bd (waits m (m.wait ++ l)) (i + 1) := ⟨h.o0, by have := h.o1; show m.ops ≤ ((i + 1 : Nat) : Int); omega, by have := h.s; show m.since.length ≤ i + 1; omega, by have := h.q; show (m.wait ++ l).length ≤ 1000 * (i + 1); rw [List.length_append]; omega⟩
theorem Bd.crash {m : DM} {i : Nat} (l : List Int) : Bd (crashed m l) i := ⟨Int.le_refl _, by show (0 : Int) ≤ i; omega, Nat.zero_le _, Nat.zero_le _⟩
theorem Bd.ops {m : DM} {i : Nat} (h : Bd m i) (hi : i ≤ 1000000) : 0 ≤ m.ops ∧ m.ops ≤ 1000000000 := ⟨h.o0, by have := h.o1; omega⟩
theorem Bd.sin {m : DM} {i : Nat} (h : Bd m i) (hi : i ≤ 1000000) : m.since.length ≤ 1000000 := by have := h.s; omega
theorem RWrite_all (w : World) (base g : Nat) (X : RX) (m : DM) (h : RV w base g X m) (ho : 0 ≤ m.ops ∧ m.ops ≤ 1000000000) (hs : m.since.length ≤ 1000000) (i : Int)
    (A : Option Addr) (c : Nat) (b : List Int) (hb : b.length = 64 → ∃ gb, A = some ⟨gb, 0, none⟩ ∧ w.rangeAt gb 0 (encs (Value.int .u8) b) ∧ ¬ footR g X gb) (hg : base ≤ w.heap.size) :
    Calls Try.prog 21 #[.pointer (some ⟨g, 0, none⟩), .int .i64 i, .slice A b.length c] w fun e w' => e = .returned (.int .i64 (wrE m i b)) ∧ ∃ X', RV w' base g X' (wrM m i b) ∧ Fr w w' (footR g X) ∧ ∀ k, allR g X' k → allR g X k ∨ w.heap.size ≤ k := by
  unfold wrM wrE
  by_cases hc : fits m i b
  · rw [if_pos hc, if_pos hc]
    have hc : 0 ≤ i ∧ i < (m.now.length : Int) ∧ b.length = 64 := hc
    obtain ⟨n, rfl⟩ := Int.eq_ofNat_of_zero_le hc.1
    obtain ⟨gb, rfl, h1, h2⟩ := hb hc.2.2
    rw [hc.2.2, Int.toNat_natCast]
    exact RWrite_fits w base g X m h ho hs n (by omega) gb c b hc.2.2 h1 h2 hg
  · rw [if_neg hc, if_neg hc]
    unfold fits at hc
    refine (RWrite_bad w base g X m h i A b.length c (by omega)).mono ?_
    rintro e w' ⟨rfl, rfl⟩
    exact ⟨rfl, X, h, Fr.refl _ _, fun k hk => .inl hk⟩
/-- What a row of one's own is to a disk that was there before. -/
theorem arg_row {w w' : World} {F : Nat → Prop} {A : Option Addr} {n c : Nat} {b : List Int} (hr : Kd.R (Kd.int .u8) 5 w' w.heap.size (fun _ => True) (.slice A n c) b) (hF : ∀ k, F k → k < w.heap.size) : b.length = 64 → ∃ gb, A = some ⟨gb, 0, none⟩ ∧ w'.rangeAt gb 0 (encs (Value.int .u8) b) ∧ ¬ F gb := by
  intro h64
  obtain ⟨gb, cap, hv, hb, gl, cl, HG⟩ := Kd.R_form hr (by omega)
  injection hv with hA hn hc
  subst hA
  refine ⟨gb, rfl, range_of_C (Kd.R_reads' hr).2.2, fun hf => ?_⟩
  have := hF gb hf
  omega
/-- A disk and the document's, of one model, apart. -/
structure Two (w : World) (base g : Nat) (v0 v1 v2 v3 : Value) (gR : Nat) (X : RX) (m : DM) : Prop where
  d : DV w base g v0 v1 v2 v3 m
  r : RV w base gR X m
  sep : ∀ k, foot g v0 v1 v2 v3 k → ¬ allR gR X k
  bs : base ≤ w.heap.size
section
variable {w w' : World} {base g gR : Nat} {v0 v1 v2 v3 : Value} {X : RX} {m : DM}
theorem Two.below (h : Two w base g v0 v1 v2 v3 gR X m) (hb : Below w.heap.size w w') : Two w' base g v0 v1 v2 v3 gR X m := ⟨h.d.below hb, h.r.below hb, h.sep, Nat.le_trans h.bs hb.size⟩
theorem Two.keep (h : Two w base g v0 v1 v2 v3 gR X m) {F : Nat → Prop} (k : Fr w w' F) (h1 : ∀ q, foot g v0 v1 v2 v3 q → ¬ F q) (h2 : ∀ q, allR gR X q → ¬ F q) : Two w' base g v0 v1 v2 v3 gR X m := ⟨h.d.keep k h1, h.r.keep k h2, h.sep, Nat.le_trans h.bs k.size⟩
theorem Two.lt (h : Two w base g v0 v1 v2 v3 gR X m) : (∀ k, foot g v0 v1 v2 v3 k → k < w.heap.size) ∧ ∀ k, allR gR X k → k < w.heap.size := ⟨h.d.foot_lt, h.r.foot_lt⟩
theorem Two.ge (h : Two w base g v0 v1 v2 v3 gR X m) : (∀ k, foot g v0 v1 v2 v3 k → base ≤ k) ∧ ∀ k, allR gR X k → base ≤ k := ⟨h.d.foot_ge, h.r.foot_ge⟩
/-- Both have done a thing, one behind the other. -/
theorem Two.both {w1 w2 : World} {v0' v1' v2' v3' : Value} {X' : RX} {m' : DM} (h : Two w base g v0 v1 v2 v3 gR X m) (hd : DV w1 base g v0' v1' v2' v3' m') (hf : Fr w w1 (foot g v0 v1 v2 v3)) (hft : ∀ k, foot g v0' v1' v2' v3' k → foot g v0 v1 v2 v3 k ∨ w.heap.size ≤ k)
    (hr : RV w2 base gR X' m') (hfr : Fr w1 w2 (footR gR X)) (hX : ∀ k, allR gR X' k → allR gR X k ∨ w1.heap.size ≤ k) : Two w2 base g v0' v1' v2' v3' gR X' m' := by
  refine ⟨hd.keep hfr (fun q hq he => ?_), hr, fun k hk he => ?_, Nat.le_trans h.bs (Nat.le_trans hf.size hfr.size)⟩
  · rcases hft q hq with hq | hq
    · exact h.sep q hq (.inl he)
    · have := h.r.foot_lt q (.inl he); omega
  · have hk1 := hd.foot_lt k hk
    rcases hX k he with he | he
    · rcases hft k hk with hk | hk
      · exact h.sep k hk he
      · have := h.r.foot_lt k he; omega
    · omega
end
end Go.Proofs.Ytdnjjhdhldgcmaa.Sec
