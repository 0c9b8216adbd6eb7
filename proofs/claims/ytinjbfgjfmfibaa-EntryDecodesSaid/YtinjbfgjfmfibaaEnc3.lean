/- The statement EntryEncodes: the plain law, and its walk. -/
import Derived.Test.YtinjbfgjfmfibaaEnc2
import Derived.Test.YtinjbfgjfmfibaaPEntryEncodesx2
namespace Go.Proofs.Ytinjbfgjfmfibaa.Enc
open Go.RowKit Go.Proofs.YtinjbfgjfmfibaaW.PrintWords Go.Proofs.YtinjbfgjfmfibaaW.PrintLast Go.Proofs.YtinjbfgjfmfibaaW.PrintMore
open Go.Proofs.Ytinjbfgjfmfibaa.PEntryEncodes
set_option linter.unusedVariables false
set_option linter.unusedSimpArgs false

theorem refchk_f (n : Nat) (k t s a b : Int) : bailiwickref9_Check.f (n + 1) k t s a b = some (chk k t s a b) := by
  unfold bailiwickref9_Check.f chk
  simp only [bailiwickref9_Check.j0]
  repeat' split
  all_goals (try simp_all)
  all_goals (try omega)

theorem lay_l (x : Int) (n : Nat) (hn : n ≤ 8) : ∀ (k : Nat) (bs : List Int), n < k → bs.length + n ≤ 1000 → bailiwickref1_Lay.l0 k bs x ((n : Int) - 1) = some (bs ++ lays x n) := by
  induction n with
  | zero =>
    intro k bs hk _
    obtain ⟨k, rfl⟩ : ∃ m, k = m + 1 := ⟨k - 1, by omega⟩
    simp only [bailiwickref1_Lay.l0]
    rw [if_neg (by omega)]
    simp [lays]
  | succ n ih =>
    intro k bs hk hl
    obtain ⟨k, rfl⟩ : ∃ m, k = m + 1 := ⟨k - 1, by omega⟩
    simp only [bailiwickref1_Lay.l0]
    have h1 : ((n + 1 : Nat) : Int) - 1 = (n : Int) := by omega
    have h2 : IntKind.u64.wrap (n : Int) = n := by rw [IntKind.wrap_u64]; omega
    have h3 : IntKind.u64.wrap (8 * (n : Int)) = 8 * (n : Int) := by rw [IntKind.wrap_u64]; omega
    have h4 : wrap64 ((n : Int) - 1) = (n : Int) - 1 := by unfold wrap64; omega
    rw [h1, h2, h3, h4, if_pos (by omega), if_pos (by omega), if_pos (by omega), ← shr_small (k := .u64) (x := x) (y := 8 * (n : Int)) rfl (by show _ ≤ (64 : Int); omega)]
    have h5 : (8 * (n : Int)).toNat = 8 * n := by omega
    rw [h5, ih (by omega) k _ (by omega) (by simp; omega), List.append_assoc]
    rfl
theorem lay_f (x : Int) (m : Int) (n : Nat) (hm : m = n) (hn : n ≤ 8) (bs : List Int) (hl : bs.length + n ≤ 1000) (k : Nat) (hk : n < k) : bailiwickref1_Lay.f k bs m x = some (bs ++ lays x n) := by
  subst hm
  unfold bailiwickref1_Lay.f
  have h4 : wrap64 ((n : Int) - 1) = (n : Int) - 1 := by unfold wrap64; omega
  rw [h4]; exact lay_l x n hn k bs hk hl
theorem lays_one (k : Int) : lays (IntKind.u64.wrap k) 1 = [k % 256] := by
  simp only [lays, IntKind.wrap_u64]
  congr 1
  simp
theorem refenc_f (k t s a b : Int) : bailiwickref9_Encode.f 20 k t s a b = some (encR k t s a b, chk k t s a b) := by
  unfold bailiwickref9_Encode.f
  rw [refchk_f 19]
  simp only [Option.bind_some]
  by_cases h : chk k t s a b = 0
  · rw [if_pos h, lay_f _ 8 8 rfl (by omega) _ (by simp) 20 (by omega), h]
    simp only [Option.bind_some, encR, h, if_true, bytesOfEntry, bailiwickref9_Encode.j0]
    have hk : k = 1 ∨ k = 2 ∨ k = 3 := by
      unfold chk at h
      split at h
      · rename_i h1; rcases h1.2.2 with h2 | h2 | h2
        · exact .inl h2.1
        · exact .inr (.inl h2.1)
        · exact .inr (.inr h2.1)
      · cases h
    rcases hk with rfl | rfl | rfl
    · simp [partsOf, piece, lays_one]
    · rw [if_pos rfl, lay_f _ 4 4 rfl (by omega) _ (by simp [lays_length]) 20 (by omega)]
      simp only [Option.bind_some, bailiwickref9_Encode.j0]
      rw [if_neg (by omega), lay_f _ 4 4 rfl (by omega) _ (by simp [lays_length]) 19 (by omega)]
      simp only [Option.bind_some]
      rw [lay_f _ 2 2 rfl (by omega) _ (by simp [lays_length]) 19 (by omega)]
      simp [partsOf, piece, lays_one]
    · rw [if_neg (by omega), if_neg (by omega), lay_f _ 4 4 rfl (by omega) _ (by simp [lays_length]) 19 (by omega)]
      simp only [Option.bind_some]
      rw [lay_f _ 2 2 rfl (by omega) _ (by simp [lays_length]) 19 (by omega)]
      simp [partsOf, piece, lays_one]
  · rw [if_neg h]
    simp [encR, h]
theorem encR_le (k t s a b : Int) : (encR k t s a b).length ≤ 40 := by
  unfold encR
  split
  · have h1 := pieces_le k t s a b (partsOf k)
    have h2 := parts_le k
    unfold bytesOfEntry; omega
  · simp

set_option maxHeartbeats 2000000 in
set_option maxRecDepth 100000 in
theorem encodes_walk (k : Int) (wk : (Lit.int .i64 k).wf = true) (t : Int) (wt : (Lit.int .i64 t).wf = true) (s : Int) (ws : (Lit.int .u32 s).wf = true) (a : Int) (wa : (Lit.int .u32 a).wf = true) (b : Int) (wb : (Lit.int .i64 b).wf = true) (w : World) :
    Calls Try.prog 5 #[.agg #[.int .i64 k, .int .i64 t, .int .u32 s, .int .u32 a, .int .i64 b]] w fun e w' => e = .returned (.bool true) ∧ Below w.heap.size w w' := by
  clear wk wt ws wa wb
  have HSM : Aside0 (bailiwickref1_Same.f ((encR k t s a b).length + 1) (encR k t s a b) (encR k t s a b) = some true) := ⟨by
    have h := same_f (encR k t s a b) (encR k t s a b) (by have := encR_le k t s a b; omega)
    rw [decide_eq_true rfl] at h; exact h⟩
  have HBX0 : Aside0 ((w.alloc (.cells #[.int .i64 k, .int .i64 t, .int .u32 s, .int .u32 a, .int .i64 b] 32)).heap[w.heap.size]? = some (.cells #[.int .i64 k, .int .i64 t, .int .u32 s, .int .u32 a, .int .i64 b] 32 (0, 0))) := ⟨blk_new _ _⟩
  go_enter Try.func5, Try.ntmps5
  go_wp2_with (first
    | (go_at_call 21; refine (awake_calls _).mono ?_; rintro e w1 ⟨rfl, hb⟩; have hblk := blk_below HBX0.out hb; have c0 : w1.cell? ⟨w.heap.size, 0, none⟩ = some (.int .i64 k) := blk_cell hblk 0; have c1 : w1.cell? ⟨w.heap.size, 1, none⟩ = some (.int .i64 t) := blk_cell hblk 1; have c2 : w1.cell? ⟨w.heap.size, 2, none⟩ = some (.int .u32 s) := blk_cell hblk 2; have c3 : w1.cell? ⟨w.heap.size, 3, none⟩ = some (.int .u32 a) := blk_cell hblk 3; have c4 : w1.cell? ⟨w.heap.size, 4, none⟩ = some (.int .i64 b) := blk_cell hblk 4; have HX1 := Aside0.mk hblk; have HB1 : Aside0 (Below w.heap.size w w1) := ⟨below_step ((Below.refl _ _).alloc (Nat.le_refl _) _) hb⟩; clear hb hblk HBX0)
    | (go_at_call 22; refine (Encode_calls k t s a b _).mono ?_; rintro e w2 ⟨v, rfl, hr, hb⟩; clear c0 c1 c2 c3 c4; have hblk := blk_below HX1.out hb; have c0 : w2.cell? ⟨w.heap.size, 0, none⟩ = some (.int .i64 k) := blk_cell hblk 0; have c1 : w2.cell? ⟨w.heap.size, 1, none⟩ = some (.int .i64 t) := blk_cell hblk 1; have c2 : w2.cell? ⟨w.heap.size, 2, none⟩ = some (.int .u32 s) := blk_cell hblk 2; have c3 : w2.cell? ⟨w.heap.size, 3, none⟩ = some (.int .u32 a) := blk_cell hblk 3; have c4 : w2.cell? ⟨w.heap.size, 4, none⟩ = some (.int .i64 b) := blk_cell hblk 4; have HX2 := Aside0.mk hblk; have HB2 : Aside0 (Below w.heap.size w w2) := ⟨below_step HB1.out hb⟩; obtain ⟨A1, q1, rfl, hl1, hC1⟩ := Kd.R_reads hr; have HC1 := Aside0.mk hC1; have HL1 := Aside0.mk hl1; clear hb hblk HX1 HB1 hr hl1 hC1)
    | (go_at_call 23; refine (bailiwickref9_Encode.calls 20 k t s a b _ _ _ (refenc_f k t s a b)).mono ?_; rintro e w3 ⟨v, rfl, hr, hb⟩; clear c0 c1 c2 c3 c4; have HX3 := Aside0.mk (blk_below HX2.out hb); have HB3 : Aside0 (Below w.heap.size w w3) := ⟨below_step HB2.out hb⟩; obtain ⟨A2, q2, rfl, hl2, hC2⟩ := Kd.R_reads hr; have HCb3 := Aside0.mk hC2; have HLb := Aside0.mk hl2; have HCa3 := Aside0.mk (Kd.C_below HC1.out hb); have HLa := HL1; clear hb HX2 HB2 hr hl2 hC2 HC1 HL1))
  have HXd : Aside0 (w3.drew.heap[w.heap.size]? = some (.cells #[.int .i64 k, .int .i64 t, .int .u32 s, .int .u32 a, .int .i64 b] 32 (0, 0))) := ⟨HX3.out⟩
  have HBd : Aside0 (Below w.heap.size w w3.drew) := ⟨HB3.out.drew⟩
  have HCa : Aside0 (Kd.C (Kd.int .u8) w3.drew A1 (encR k t s a b).length (encR k t s a b)) := ⟨Kd.C_below HCa3.out (Below.refl _ _).drew⟩
  have HCb : Aside0 (Kd.C (Kd.int .u8) w3.drew A2 (encR k t s a b).length (encR k t s a b)) := ⟨Kd.C_below HCb3.out (Below.refl _ _).drew⟩
  clear HX3 HB3 HCa3 HCb3
  refine start_ (n := 16) (S := fun w' => w'.cell? ⟨w.heap.size, 0, none⟩ = some (.int .i64 k) ∧ w'.cell? ⟨w.heap.size, 1, none⟩ = some (.int .i64 t) ∧ w'.cell? ⟨w.heap.size, 2, none⟩ = some (.int .u32 s) ∧ w'.cell? ⟨w.heap.size, 3, none⟩ = some (.int .u32 a) ∧ w'.cell? ⟨w.heap.size, 4, none⟩ = some (.int .i64 b)) (ds := []) #[false, false, false, false, false, false, false, false, false, false, false, false, false, false, false, false] (by kernel_rfl) rfl rfl ⟨(blk_cell HXd.out 0), (blk_cell HXd.out 1), (blk_cell HXd.out 2), (blk_cell HXd.out 3), (blk_cell HXd.out 4)⟩ (fun hHeld => ?_)
  clear hHeld
  generalize w3.drew = wd at *
  have HX3 := HXd
  have HB3 := HBd
  clear HXd HBd
  have hHeld : wd.cell? ⟨w.heap.size, 0, none⟩ = some (.int .i64 k) ∧ wd.cell? ⟨w.heap.size, 1, none⟩ = some (.int .i64 t) ∧ wd.cell? ⟨w.heap.size, 2, none⟩ = some (.int .u32 s) ∧ wd.cell? ⟨w.heap.size, 3, none⟩ = some (.int .u32 a) ∧ wd.cell? ⟨w.heap.size, 4, none⟩ = some (.int .i64 b) := ⟨(blk_cell HX3.out 0), (blk_cell HX3.out 1), (blk_cell HX3.out 2), (blk_cell HX3.out 3), (blk_cell HX3.out 4)⟩
  refine pure_ (i := 0) (N := some 19) (v := ?_) (a' := ?_) #[true, false, false, false, false, false, false, false, false, false, false, false, false, false, false, false] rfl rfl (by kernel_rfl) (fun _ _ _ h => h) (Or.inl ⟨by rfl, ?_⟩) ?_ ?_
  rotate_left
  · intro w'
    go_simp
    with_reducible rfl
  rotate_left
  · simp only [Act.put, List.setIfInBounds_toArray, List.set_cons_zero, List.set_cons_succ, i64_w, i32_w]
    rfl
  refine pure_ (i := 1) (N := some 20) (v := ?_) (a' := ?_) #[true, true, false, false, false, false, false, false, false, false, false, false, false, false, false, false] rfl rfl (by kernel_rfl) (fun _ _ _ h => h) (Or.inl ⟨by rfl, ?_⟩) ?_ ?_
  rotate_left
  · intro w'
    go_simp
    with_reducible rfl
  rotate_left
  · simp only [Act.put, List.setIfInBounds_toArray, List.set_cons_zero, List.set_cons_succ, i64_w, i32_w]
    rfl
  refine pure_ (i := 2) (N := some 21) (v := ?_) (a' := ?_) #[true, true, true, false, false, false, false, false, false, false, false, false, false, false, false, false] rfl rfl (by kernel_rfl) (fun _ _ _ h => h) (Or.inl ⟨by rfl, ?_⟩) ?_ ?_
  rotate_left
  · intro w'
    go_simp
    with_reducible rfl
  rotate_left
  · simp only [Act.put, List.setIfInBounds_toArray, List.set_cons_zero, List.set_cons_succ, i64_w, i32_w]
    rfl
  refine pure_ (i := 3) (N := some 22) (v := ?_) (a' := ?_) #[true, true, true, true, false, false, false, false, false, false, false, false, false, false, false, false] rfl rfl (by kernel_rfl) (fun _ _ _ h => h) (Or.inl ⟨by rfl, ?_⟩) ?_ ?_
  rotate_left
  · intro w'
    go_simp
    with_reducible rfl
  rotate_left
  · simp only [Act.put, List.setIfInBounds_toArray, List.set_cons_zero, List.set_cons_succ, i64_w, i32_w]
    rfl
  refine pure_ (i := 4) (N := some 23) (v := ?_) (a' := ?_) #[true, true, true, true, true, false, false, false, false, false, false, false, false, false, false, false] rfl rfl (by kernel_rfl) (fun _ _ _ h => h) (Or.inl ⟨by rfl, ?_⟩) ?_ ?_
  rotate_left
  · intro w'
    go_simp
    with_reducible rfl
  rotate_left
  · simp only [Act.put, List.setIfInBounds_toArray, List.set_cons_zero, List.set_cons_succ, i64_w, i32_w]
    rfl
  refine pure_ (i := 5) (N := some 24) (v := ?_) (a' := ?_) #[true, true, true, true, true, true, false, false, false, false, false, false, false, false, false, false] rfl rfl (by kernel_rfl) (fun _ _ _ h => h) (Or.inl ⟨by rfl, ?_⟩) ?_ ?_
  rotate_left
  · intro w'
    go_simp
    with_reducible rfl
  rotate_left
  · simp only [Act.put, List.setIfInBounds_toArray, List.set_cons_zero, List.set_cons_succ, i64_w, i32_w]
    rfl
  refine one_ (i := 6) (N := some 25) #[true, true, true, true, true, true, true, false, false, false, false, false, false, false, false, false] rfl rfl (by kernel_rfl) (by decide) (fun K hK => ?_)
  refine goes_ Try.func24 (by kernel_rfl) rfl #[.slice A1 (encR k t s a b).length q1, .slice A2 (encR k t s a b).length q2] (by rfl) rfl rfl (by simp only [List.map_toArray, List.map_cons, List.map_nil]; rfl) ?_
  with_reducible refine (bailiwickref1_Same.calls ((encR k t s a b).length + 1) A1 q1 (encR k t s a b) A2 q2 (encR k t s a b) true _ HCa.out HLa.out HCb.out HLb.out HSM.out).mono ?_
  rintro e w4 ⟨rfl, hd⟩
  refine ⟨_, rfl, ?_⟩
  have HX4 := Aside0.mk (blk_below HX3.out hd.below)
  have HB4 := Aside0.mk (below_step HB3.out hd.below)
  clear hd
  refine hK.out _ _ ⟨(blk_cell HX4.out 0), (blk_cell HX4.out 1), (blk_cell HX4.out 2), (blk_cell HX4.out 3), (blk_cell HX4.out 4)⟩ (fun hHeld => ?_)
  clear hK K
  refine norm_ (a' := ?_) ?_ ?_
  rotate_left
  · show Act.put _ (some 25) _ = _
    simp only [Act.put, List.setIfInBounds_toArray, List.set_cons_zero, List.set_cons_succ, i64_w, i32_w]
    rfl
  refine pure_ (i := 7) (N := some 26) (v := ?_) (a' := ?_) #[true, true, true, true, true, true, true, true, false, false, false, false, false, false, false, false] rfl rfl (by kernel_rfl) (fun _ _ _ h => h) (Or.inl ⟨by rfl, ?_⟩) ?_ ?_
  rotate_left
  · intro w'
    go_simp
    with_reducible rfl
  rotate_left
  · simp only [Act.put, List.setIfInBounds_toArray, List.set_cons_zero, List.set_cons_succ, i64_w, i32_w]
    rfl
  refine pure_ (i := 8) (N := some 27) (v := ?_) (a' := ?_) #[true, true, true, true, true, true, true, true, true, false, false, false, false, false, false, false] rfl rfl (by kernel_rfl) (fun _ _ _ h => h) (Or.inl ⟨by rfl, ?_⟩) ?_ ?_
  rotate_left
  · intro w'
    go_simp
    with_reducible rfl
  rotate_left
  · simp only [Act.put, List.setIfInBounds_toArray, List.set_cons_zero, List.set_cons_succ, i64_w, i32_w]
    rfl
  refine take_ (i := 9) (N := some 28) (v := ?_) (a' := ?_) #[true, true, true, true, true, true, true, true, true, true, false, false, false, false, false, false] rfl rfl (by kernel_rfl) (fun _ _ _ h => h) (Or.inl ⟨by rfl, ?_⟩) hHeld ?_ ?_
  rotate_left
  · rintro w' ⟨s0, s1, s2, s3, s4⟩
    go_simp
    with_reducible rfl
  rotate_left
  · simp only [Act.put, List.setIfInBounds_toArray, List.set_cons_zero, List.set_cons_succ, i64_w, i32_w]
    rfl
  refine take_ (i := 11) (N := some 30) (v := ?_) (a' := ?_) #[true, true, true, true, true, true, true, true, true, true, false, true, false, false, false, false] rfl rfl (by kernel_rfl) (fun _ _ _ h => h) (Or.inl ⟨by rfl, ?_⟩) hHeld ?_ ?_
  rotate_left
  · rintro w' ⟨s0, s1, s2, s3, s4⟩
    go_simp
    with_reducible rfl
  rotate_left
  · simp only [Act.put, List.setIfInBounds_toArray, List.set_cons_zero, List.set_cons_succ, i64_w, i32_w]
    rfl
  refine one_ (i := 10) (N := some 29) #[true, true, true, true, true, true, true, true, true, true, true, true, false, false, false, false] rfl rfl (by kernel_rfl) (by decide) (fun K hK => ?_)
  refine goes_ Try.func25 (by kernel_rfl) rfl #[.agg #[.int .i64 k, .int .i64 t, .int .u32 s, .int .u32 a, .int .i64 b]] (by rfl) rfl rfl (by simp only [List.map_toArray, List.map_cons, List.map_nil]; rfl) ?_
  with_reducible refine (entry_Check.calls 1 k t s a b (chk k t s a b) _ (chk_f 0 k t s a b)).mono ?_
  rintro e w5 ⟨rfl, hd⟩
  refine ⟨_, rfl, ?_⟩
  have HX5 := Aside0.mk (blk_below HX4.out hd)
  have HB5 := Aside0.mk (below_step HB4.out hd)
  clear hd
  refine hK.out _ _ ⟨(blk_cell HX5.out 0), (blk_cell HX5.out 1), (blk_cell HX5.out 2), (blk_cell HX5.out 3), (blk_cell HX5.out 4)⟩ (fun hHeld => ?_)
  clear hK K
  refine norm_ (a' := ?_) ?_ ?_
  rotate_left
  · show Act.put _ (some 29) _ = _
    simp only [Act.put, List.setIfInBounds_toArray, List.set_cons_zero, List.set_cons_succ, i64_w, i32_w]
    rfl
  refine one_ (i := 12) (N := some 31) #[true, true, true, true, true, true, true, true, true, true, true, true, true, false, false, false] rfl rfl (by kernel_rfl) (by decide) (fun K hK => ?_)
  refine goes_ Try.func26 (by kernel_rfl) rfl #[.agg #[.int .i64 k, .int .i64 t, .int .u32 s, .int .u32 a, .int .i64 b]] (by rfl) rfl rfl (by simp only [List.map_toArray, List.map_cons, List.map_nil]; rfl) ?_
  with_reducible refine (bailiwickref9_Check.calls 1 k t s a b (chk k t s a b) _ (refchk_f 0 k t s a b)).mono ?_
  rintro e w6 ⟨rfl, hd⟩
  refine ⟨_, rfl, ?_⟩
  have HX6 := Aside0.mk (blk_below HX5.out hd)
  have HB6 := Aside0.mk (below_step HB5.out hd)
  clear hd
  refine hK.out _ _ ⟨(blk_cell HX6.out 0), (blk_cell HX6.out 1), (blk_cell HX6.out 2), (blk_cell HX6.out 3), (blk_cell HX6.out 4)⟩ (fun hHeld => ?_)
  clear hK K
  refine norm_ (a' := ?_) ?_ ?_
  rotate_left
  · show Act.put _ (some 31) _ = _
    simp only [Act.put, List.setIfInBounds_toArray, List.set_cons_zero, List.set_cons_succ, i64_w, i32_w]
    rfl
  refine pure_ (i := 13) (N := some 32) (v := ?_) (a' := ?_) #[true, true, true, true, true, true, true, true, true, true, true, true, true, true, false, false] rfl rfl (by kernel_rfl) (fun _ _ _ h => h) (Or.inl ⟨by rfl, ?_⟩) ?_ ?_
  rotate_left
  · intro w'
    go_simp
    with_reducible rfl
  rotate_left
  · simp only [Act.put, List.setIfInBounds_toArray, List.set_cons_zero, List.set_cons_succ, i64_w, i32_w]
    rfl
  refine pure_ (i := 14) (N := some 33) (v := ?_) (a' := ?_) #[true, true, true, true, true, true, true, true, true, true, true, true, true, true, true, false] rfl rfl (by kernel_rfl) (fun _ _ _ h => h) (Or.inl ⟨by rfl, ?_⟩) ?_ ?_
  rotate_left
  · intro w'
    go_simp
    with_reducible rfl
  rotate_left
  · simp only [Act.put, List.setIfInBounds_toArray, List.set_cons_zero, List.set_cons_succ, i64_w, i32_w]
    rfl
  refine pure_ (i := 15) (N := some 2) (v := ?_) (a' := ?_) #[true, true, true, true, true, true, true, true, true, true, true, true, true, true, true, true] rfl rfl (by kernel_rfl) (fun _ _ _ h => h) (Or.inl ⟨by rfl, ?_⟩) ?_ ?_
  rotate_left
  · intro w'
    go_simp
    with_reducible rfl
  rotate_left
  · simp only [Act.put, List.setIfInBounds_toArray, List.set_cons_zero, List.set_cons_succ, i64_w, i32_w]
    rfl
  refine done_ (by kernel_rfl) ?_
  go_wp2
  go_ret
  exact ⟨rfl, HB6.out⟩
end Go.Proofs.Ytinjbfgjfmfibaa.Enc
