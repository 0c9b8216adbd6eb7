/- The statement SectorSynced: its walk. -/
import Derived.Test.YtdnjjhdhldgcmaaSec13
namespace Go.Proofs.Ytdnjjhdhldgcmaa.Sec
open Go.RowKit Go.Proofs.YtdnjjhdhldgcmaaW.PrintWords Go.Proofs.YtdnjjhdhldgcmaaW.PrintLast Go.Proofs.YtdnjjhdhldgcmaaW.PrintMore Go.Proofs.Ytdnjjhdhldgcmaa.Bs Go.Proofs.Ytdnjjhdhldgcmaa.Fr
open Go.Proofs.Ytdnjjhdhldgcmaa.PSectorSynced
set_option linter.unusedVariables false
set_option linter.unusedSimpArgs false

def wfD (x : S32) : Prop := (Lit.int .i64 x.f0).wf = true ∧ (Lit.int .i64 x.f1).wf = true ∧ (Lit.int .i64 x.f2).wf = true ∧ (Lit.int .u8 x.f3).wf = true ∧ (∀ n ∈ x.f4, (Lit.int .u8 n).wf = true) ∧ True
def m6 : DM := ⟨List.replicate 6 (rep 0), List.replicate 6 (rep 0), [], [], 0⟩
theorem plain6 : Plain m6 6 0 := ⟨rfl, rfl, rfl, by decide, by decide⟩

theorem Plain.mono {m : DM} {n k k' : Nat} (h : Plain m n k) (hk : k ≤ k') : Plain m n k' := ⟨h.wait, h.now, h.len, by have := h.ops; omega, by have := h.since; omega⟩
def mEnd (m : DM) : DM := ⟨m.now, m.now, [], [], 0⟩
theorem crash_end {m : DM} {n k : Nat} (h : Plain m n k) (ch : List Int) : crashed (synced m) ch = mEnd m := by
  show (⟨laid m.sure m.since, laid m.sure m.since, [], [], 0⟩ : DM) = _
  rw [← h.now]; rfl
theorem ops_le {m : DM} {n k : Nat} (h : Plain m n k) (hk : k ≤ 1000000) : 0 ≤ m.ops ∧ m.ops ≤ 1000000000 := by have := h.ops; omega
theorem since_le {m : DM} {n k : Nat} (h : Plain m n k) (hk : k ≤ 1000000) : m.since.length ≤ 1000000 := by have := h.since; omega
/-- A list that a call has made may be handed to Write. -/
theorem own_arg {w w' : World} {base g : Nat} {v0 v1 v2 v3 : Value} {m : DM} (h : DV w base g v0 v1 v2 v3 m) {A : Option Addr} {n c : Nat} {b : List Int} (hr : Kd.R (Kd.int .u8) 5 w' w.heap.size (fun _ => True) (.slice A n c) b) : b.length = 64 → ∃ gb, A = some ⟨gb, 0, none⟩ ∧ w'.rangeAt gb 0 (encs (Value.int .u8) b) ∧ gb ≠ g := by
  intro h64
  obtain ⟨gb, cap, hv, hb, gl, cl, HG⟩ := Kd.R_form hr (by omega)
  injection hv with hA hn hc
  subst hA
  have hl := h.foot_lt g (.inl rfl)
  refine ⟨gb, rfl, ?_, by omega⟩
  have h_ := (Kd.R_reads' hr).2.2
  exact range_of_C h_

set_option maxHeartbeats 1000000 in
set_option maxRecDepth 100000 in
theorem synced_walk (w : World) (A : Option Addr) (c : Nat) (l : List S32) (hC : Kd.C k32 w A l.length l) (hc : l.length ≤ c) (hwf : ∀ x ∈ l, wfD x)
    (A1 : Option Addr) (c1 : Nat) (ch : List Int) (hC1 : Kd.C (Kd.int .u8) w A1 ch.length ch) (hc1 : ch.length ≤ c1) (hm1 : ch.length * 1 ≤ 140737488351232) (hw1 : ∀ x ∈ ch, (Lit.int .u8 x).wf = true) :
    Calls Try.prog 7 #[.slice A l.length c, .slice A1 ch.length c1] w fun e w' => e = .returned (.bool true) ∧ Below w.heap.size w w' := by
  have HC := Aside0.mk hC
  have HL := Aside0.mk hc
  have HC1 := Aside0.mk hC1
  have HL1 := Aside0.mk hc1
  have HBY : Aside0 (∀ x ∈ ch, 0 ≤ x ∧ x ≤ 255) := ⟨fun x hx => by
    have := hw1 x hx
    simp only [Lit.wf, Bool.and_eq_true, decide_eq_true_eq] at this
    exact ⟨this.1, this.2⟩⟩
  obtain ⟨r, hr, hrt⟩ := room_f l
  have HR := Aside0.mk hr
  have HRT := Aside0.mk hrt
  clear hC hc hwf hC1 hc1 hm1 hw1 hr hrt
  go_enter Try.func7, Try.ntmps7
  go_wp2_with fail
  refine (awake_calls w).mono ?_
  rintro e w0 ⟨rfl, hb0⟩
  have B0 := Aside0.mk hb0
  clear hb0
  go_wp2_with fail
  refine (bailiwicklaw7_room.calls (l.length + 1) A c l r w0 (Kd.C_below HC.out B0.out) HL.out HR.out).mono ?_
  rintro e w1 ⟨rfl, hd1⟩
  have B1 := Aside0.mk (below_step B0.out hd1.below)
  clear hd1 B0
  by_cases hch : ch.length ≤ 1000
  · have hch1 : ¬ ((ch.length : Int) > 1000) := by omega
    cases r with
    | false =>
      go_wp2
      go_ret
      exact ⟨rfl, B1.out⟩
    | true =>
      have HLL := Aside0.mk (HRT.out rfl)
      go_wp2_with fail
      refine (fresh_calls w1 6 (by decide) (by decide)).mono ?_
      rintro e w2 ⟨g, v0, v1, rfl, hd2, hb2⟩
      have D2 : Aside0 (DV w2 w1.heap.size g v0 v1 (.slice none 0 0) (.slice none 0 0) m6) := ⟨hd2⟩
      have B2 := Aside0.mk (below_step B1.out hb2)
      have HS := Aside0.mk (And.intro B1.out.size hb2.size)
      clear hd2 hb2
      go_wp2_with fail
      go_loopg [6] l.length (fun q v6 wr => ∃ (i : Nat) (v2 v3 : Value) (m : DM), v6 = .int .i64 i ∧ Aside0 (q + i = l.length) ∧ Aside0 (DV wr w1.heap.size g v0 v1 v2 v3 m ∧ Plain m 6 i ∧ Below w.heap.size w wr ∧ w1.heap.size ≤ wr.heap.size))
      case atStart => exact ⟨0, _, _, m6, rfl, ⟨by omega⟩, ⟨D2.out, plain6, B2.out, HS.out.2⟩⟩
      case round =>
        obtain ⟨i, v2, v3, m, rfl, hq, hat⟩ := hrel
        by_cases hi : i < l.length
        · have hi1 : decide ((i : Int) < (l.length : Int)) = true := decide_eq_true (by omega)
          have hi2 : (i : Int) < (l.length : Int) := by omega
          have hi3 : (0 : Int) ≤ (i : Int) := by omega
          obtain ⟨ad, A4, c4, hA, k0, k1, k2, k3, k4, hl4, hc4⟩ := at_T32 (Kd.C_below HC.out hat.out.2.2.1) (i : Int) hi3 hi2
          subst hA
          have h1000 := HLL.out.2 i hi
          rw [Int.toNat_natCast] at k0 k1 k2 k3 k4
          generalize rd_T32 l (i : Int) = dd at *
          obtain ⟨a0, a1, a2, a3, a4⟩ := dd
          simp only at k0 k1 k2 k3 k4 hl4 hc4 h1000
          obtain ⟨bs, hbs, hbl⟩ := body_f a0 a1 a2 a3 a4 h1000 2000 (by decide)
          have HL4 := Aside0.mk hl4
          have HC4 := Aside0.mk hc4
          have HBS := Aside0.mk hbs
          have HBL := Aside0.mk hbl
          clear hl4 hc4 hbs hbl h1000
          by_cases ha : a0 ≤ 3
          · have ha1 : decide (a0 ≤ 3) = true := decide_eq_true ha
            clear ha
            go_upto_region 12 with fail
            refine start_ (n := 12) (S := fun w' => w'.cell? (ad.add (i * 5)) = some (.int .i64 a0) ∧ w'.cell? ⟨(ad.add (i * 5)).block, (ad.add (i * 5)).off + 1, none⟩ = some (.int .i64 a1) ∧ w'.cell? ⟨(ad.add (i * 5)).block, (ad.add (i * 5)).off + 2, none⟩ = some (.int .i64 a2) ∧ w'.cell? ⟨(ad.add (i * 5)).block, (ad.add (i * 5)).off + 3, none⟩ = some (.int .u8 a3) ∧ w'.cell? ⟨(ad.add (i * 5)).block, (ad.add (i * 5)).off + 4, none⟩ = some (.slice A4 a4.length c4)) (ds := [11]) #[false, false, false, false, false, false, false, false, false, false, false, false] (by kernel_rfl) rfl rfl ⟨k0, k1, k2, k3, k4⟩ (fun hHeld => ?_)
            refine pure_ (i := 0) (N := some 38) (v := ?_) (a' := ?_) #[true, false, false, false, false, false, false, false, false, false, false, false] rfl rfl (by kernel_rfl) (fun _ _ _ h => h) (Or.inl ⟨by rfl, ?_⟩) ?_ ?_
            rotate_left
            · intro w'
              go_simp
              with_reducible rfl
            rotate_left
            · simp only [Act.put, List.setIfInBounds_toArray, List.set_cons_zero, List.set_cons_succ, i64_w, i32_w]
              rfl
            refine pure_ (i := 1) (N := some 39) (v := ?_) (a' := ?_) #[true, true, false, false, false, false, false, false, false, false, false, false] rfl rfl (by kernel_rfl) (fun _ _ _ h => h) (Or.inl ⟨by rfl, ?_⟩) ?_ ?_
            rotate_left
            · intro w'
              go_simp
              with_reducible rfl
            rotate_left
            · simp only [Act.put, List.setIfInBounds_toArray, List.set_cons_zero, List.set_cons_succ, i64_w, i32_w]
              rfl
            refine pure_ (i := 2) (N := some 40) (v := ?_) (a' := ?_) #[true, true, true, false, false, false, false, false, false, false, false, false] rfl rfl (by kernel_rfl) (fun _ _ _ h => h) (Or.inl ⟨by rfl, ?_⟩) ?_ ?_
            rotate_left
            · intro w'
              go_simp
              with_reducible rfl
            rotate_left
            · simp only [Act.put, List.setIfInBounds_toArray, List.set_cons_zero, List.set_cons_succ, i64_w, i32_w]
              rfl
            refine pure_ (i := 3) (N := some 41) (v := ?_) (a' := ?_) #[true, true, true, true, false, false, false, false, false, false, false, false] rfl rfl (by kernel_rfl) (fun _ _ _ h => h) (Or.inl ⟨by rfl, ?_⟩) ?_ ?_
            rotate_left
            · intro w'
              go_simp
              with_reducible rfl
            rotate_left
            · simp only [Act.put, List.setIfInBounds_toArray, List.set_cons_zero, List.set_cons_succ, i64_w, i32_w]
              rfl
            refine pure_ (i := 4) (N := some 42) (v := ?_) (a' := ?_) #[true, true, true, true, true, false, false, false, false, false, false, false] rfl rfl (by kernel_rfl) (fun _ _ _ h => h) (Or.inl ⟨by rfl, ?_⟩) ?_ ?_
            rotate_left
            · intro w'
              go_simp
              with_reducible rfl
            rotate_left
            · simp only [Act.put, List.setIfInBounds_toArray, List.set_cons_zero, List.set_cons_succ, i64_w, i32_w]
              rfl
            refine pure_ (i := 6) (N := some 44) (v := ?_) (a' := ?_) #[true, true, true, true, true, false, true, false, false, false, false, false] rfl rfl (by kernel_rfl) (fun _ _ _ h => h) (Or.inl ⟨by rfl, ?_⟩) ?_ ?_
            rotate_left
            · intro w'
              go_simp
              with_reducible rfl
            rotate_left
            · simp only [Act.put, List.setIfInBounds_toArray, List.set_cons_zero, List.set_cons_succ, i64_w, i32_w]
              rfl
            refine pure_ (i := 7) (N := some 45) (v := ?_) (a' := ?_) #[true, true, true, true, true, false, true, true, false, false, false, false] rfl rfl (by kernel_rfl) (fun _ _ _ h => h) (Or.inl ⟨by rfl, ?_⟩) ?_ ?_
            rotate_left
            · intro w'
              go_simp
              with_reducible rfl
            rotate_left
            · simp only [Act.put, List.setIfInBounds_toArray, List.set_cons_zero, List.set_cons_succ, i64_w, i32_w]
              rfl
            refine pure_ (i := 8) (N := some 46) (v := ?_) (a' := ?_) #[true, true, true, true, true, false, true, true, true, false, false, false] rfl rfl (by kernel_rfl) (fun _ _ _ h => h) (Or.inl ⟨by rfl, ?_⟩) ?_ ?_
            rotate_left
            · intro w'
              go_simp
              with_reducible rfl
            rotate_left
            · simp only [Act.put, List.setIfInBounds_toArray, List.set_cons_zero, List.set_cons_succ, i64_w, i32_w]
              rfl
            refine take_ (i := 5) (N := some 43) (v := ?_) (a' := ?_) #[true, true, true, true, true, true, true, true, true, false, false, false] rfl rfl (by kernel_rfl) (fun _ _ _ h => h) (Or.inl ⟨by rfl, ?_⟩) hHeld ?_ ?_
            rotate_left
            · rintro w' ⟨s0, s1, s2, s3, s4⟩
              go_simp
              with_reducible rfl
            rotate_left
            · simp only [Act.put, List.setIfInBounds_toArray, List.set_cons_zero, List.set_cons_succ, i64_w, i32_w]
              rfl
            refine take_ (i := 9) (N := some 47) (v := ?_) (a' := ?_) #[true, true, true, true, true, true, true, true, true, true, false, false] rfl rfl (by kernel_rfl) (fun _ _ _ h => h) (Or.inl ⟨by rfl, ?_⟩) hHeld ?_ ?_
            rotate_left
            · rintro w' ⟨s0, s1, s2, s3, s4⟩
              go_simp
              with_reducible rfl
            rotate_left
            · simp only [Act.put, List.setIfInBounds_toArray, List.set_cons_zero, List.set_cons_succ, i64_w, i32_w]
              rfl
            refine one_ (i := 10) (N := some 48) #[true, true, true, true, true, true, true, true, true, true, true, false] rfl rfl (by kernel_rfl) (by decide) (fun K hK => ?_)
            refine goes_ Try.func19 (by kernel_rfl) rfl #[.agg #[.int .i64 a0, .int .i64 a1, .int .i64 a2, .int .u8 a3, .slice A4 a4.length c4]] (by rfl) rfl rfl (by simp only [List.map_toArray, List.map_cons, List.map_nil]; rfl) ?_
            with_reducible refine (bailiwicklaw7_body.calls 2000 a0 a1 a2 a3 A4 c4 a4 bs _ (Kd.C_below HC4.out (Below.refl _ _).drew) HL4.out HBS.out).mono ?_
            rintro e w5 ⟨vb, rfl, hrb, hb5⟩
            refine ⟨_, rfl, ?_⟩
            have HRB := Aside0.mk hrb
            have HB5 := Aside0.mk hb5
            clear hrb hb5
            obtain ⟨A5, c5, hvb⟩ := Kd.R_slice HRB.out
            subst hvb
            refine hK.out _ _ ⟨(pw_cell_below (w := wr.drew) HB5.out k0), (pw_cell_below (w := wr.drew) HB5.out k1), (pw_cell_below (w := wr.drew) HB5.out k2), (pw_cell_below (w := wr.drew) HB5.out k3), (pw_cell_below (w := wr.drew) HB5.out k4)⟩ (fun hHeld => ?_)
            clear hK K
            refine norm_ (a' := ?_) ?_ ?_
            rotate_left
            · show Act.put _ (some 48) _ = _
              simp only [Act.put, List.setIfInBounds_toArray, List.set_cons_zero, List.set_cons_succ, i64_w, i32_w]
              rfl
            refine last_ (i := 11) (N := some 49) #[true, true, true, true, true, true, true, true, true, true, true, true] rfl rfl (by kernel_rfl) (by decide) (fun K hK => ?_)
            refine goes_ Try.func20 (by kernel_rfl) rfl #[.pointer (some ⟨g, 0, none⟩), .int .i64 a1, .slice A5 bs.length c5] (by rfl) rfl rfl (by simp only [List.map_toArray, List.map_cons, List.map_nil]; rfl) ?_
            with_reducible refine (Write_any w5 w1.heap.size g v0 v1 v2 v3 m ((hat.out.1.below (Below.refl _ _).drew).below HB5.out) (ops_le hat.out.2.1 (by have := HLL.out.1; omega)) (since_le hat.out.2.1 (by have := HLL.out.1; omega)) hat.out.2.1.wait a1 A5 c5 bs (own_arg (hat.out.1.below (Below.refl _ _).drew) HRB.out) (Nat.le_trans (Nat.le_trans hat.out.2.2.2 (Below.refl wr.heap.size wr).drew.size) HB5.out.size)).mono ?_
            rintro e w6 ⟨⟨x6, rfl⟩, v2', v3', hd6, hf6, hft6⟩
            refine ⟨_, rfl, ?_⟩
            have D6 := Aside0.mk hd6
            have F6 := Aside0.mk hf6
            clear hd6 hf6 hft6
            refine hK.out _ _ ?_
            clear hK K
            refine norm_ (a' := ?_) ?_ ?_
            rotate_left
            · show Act.put _ (some 49) _ = _
              simp only [Act.put, List.setIfInBounds_toArray, List.set_cons_zero, List.set_cons_succ, i64_w, i32_w]
              rfl
            refine done_ (by kernel_rfl) ?_
            have hb7 : Below w.heap.size w w5 := below_step hat.out.2.2.1.drew HB5.out
            have D7 := Aside0.mk (And.intro D6.out (And.intro (hat.out.2.1.write a1 bs) (And.intro (below_fr hb7 hb7.size F6.out (fun k hk => Nat.le_trans HS.out.1 (hat.out.1.foot_ge k hk))) (Nat.le_trans (Nat.le_trans (Nat.le_trans hat.out.2.2.2 (Below.refl wr.heap.size wr).drew.size) HB5.out.size) F6.out.size))))
            clear hb7 D6 F6 HB5 HRB hHeld
            go_wp2_with fail
            go_roundg (l.length - (i + 1))
            case measure => have := hq.out; omega
            case rel => exact ⟨i + 1, _, _, _, by have := HLL.out.1; rw [show wrap64 ((i : Int) + 1) = ((i + 1 : Nat) : Int) from by unfold wrap64; omega], ⟨by omega⟩, D7⟩
          · have ha1 : decide (a0 ≤ 3) = false := decide_eq_false ha
            clear ha
            go_wp2_with fail
            go_roundg (l.length - (i + 1))
            case measure => have := hq.out; omega
            case rel => exact ⟨i + 1, _, _, m, by have := HLL.out.1; rw [show wrap64 ((i : Int) + 1) = ((i + 1 : Nat) : Int) from by unfold wrap64; omega], ⟨by omega⟩, ⟨hat.out.1, hat.out.2.1.mono (Nat.le_succ i), hat.out.2.2⟩⟩
        · have hi1 : decide ((i : Int) < (l.length : Int)) = false := decide_eq_false (by omega)
          have HLL' : l.length ≤ 1000000 := by have := HLL.out.1; omega
          have hpl := Aside0.mk (hat.out.2.1.mono (k' := l.length) (by have := hq.out; omega))
          have hou : outc m = 0 := by unfold outc; rw [hat.out.2.1.wait]
          have HOU := Aside0.mk hou
          clear hou
          go_wp2_with (first
            | (go_at_call 26; refine (Sync_done wr w1.heap.size g v0 v1 v2 v3 m hat.out.1 (ops_le hpl.out HLL') (since_le hpl.out HLL') (by rw [HOU.out]; decide) hat.out.2.2.2).mono ?_; rintro e w5 ⟨rfl, v5, hd5, hf5, hv5⟩; rw [HOU.out, show tell 0 = 0 from rfl]; have D5 : Aside0 (DV w5 w1.heap.size g v0 v1 (.slice none 0 0) v5 (synced m)) := ⟨hd5⟩; have B5 := Aside0.mk (below_fr hat.out.2.2.1 hat.out.2.2.1.size hf5 (fun k hk => Nat.le_trans HS.out.1 (hat.out.1.foot_ge k hk))); clear hd5 hf5 hv5)
            | (go_at_call 30; refine (Dirty_calls _ _ _ _ _ _ _ _ D5.out).mono ?_; rintro e w6 ⟨rfl, rfl⟩; rw [show (synced m).since.length = 0 from rfl])
            | (go_at_call 22; refine (Crash_calls w5 w1.heap.size g v0 v1 (.slice none 0 0) v5 (synced m) D5.out (Nat.zero_le _) A1 c1 ch (Kd.C_below HC1.out B5.out) HL1.out HBY.out).mono ?_; rintro e w7 ⟨g7, u0, u1, rfl, hd7, hb7⟩; have D7 : Aside0 (DV w7 w5.heap.size g7 u0 u1 (.slice none 0 0) (.slice none 0 0) (mEnd m)) := ⟨by rw [crash_end hpl.out ch] at hd7; exact hd7⟩; have E7 : Aside0 (DV w7 w1.heap.size g v0 v1 (.slice none 0 0) v5 (synced m)) := ⟨D5.out.below hb7⟩; have B7 := Aside0.mk (below_step B5.out hb7); clear hd7 hb7))
          clear hat hq D5 B5
          have HN6 : Aside0 (m.now.length = 6) := ⟨hpl.out.len⟩
          go_loopg [8, 9, 10, 11, 12] 6 (fun q v8 v9 v10 v11 v12 wr => ∃ (j : Nat), v8 = .int .i64 j ∧ Aside0 (q + j = 6) ∧ Aside0 (DV wr w1.heap.size g v0 v1 (.slice none 0 0) v5 (synced m) ∧ DV wr w5.heap.size g7 u0 u1 (.slice none 0 0) (.slice none 0 0) (mEnd m) ∧ Below w.heap.size w wr))
          case atStart => exact ⟨0, rfl, ⟨by omega⟩, ⟨E7.out, D7.out, B7.out⟩⟩
          case round =>
            obtain ⟨j, rfl, hq, hat⟩ := hrel
            by_cases hj : j < 6
            · have hj1 : decide ((j : Int) < 6) = true := decide_eq_true (by omega)
              go_wp2_with fail
              refine (Read_calls wr w1.heap.size g v0 v1 (.slice none 0 0) v5 (synced m) hat.out.1 j (by show j < m.now.length; rw [HN6.out]; exact hj)).mono ?_
              rintro e wa ⟨ga, rfl, _, hxa, hla, hba⟩
              have XA : Aside0 (wa.heap[ga]? = some (.cells (encs (Value.int .u8) (m.now.getD j zB)).toArray 89 (0, 0))) := ⟨hxa⟩
              have LA : Aside0 ((m.now.getD j zB).length = 64) := ⟨hla⟩
              have BA := Aside0.mk hba
              clear hxa hla hba
              go_wp2_with fail
              refine (Read_calls wa w5.heap.size g7 u0 u1 (.slice none 0 0) (.slice none 0 0) (mEnd m) (hat.out.2.1.below BA.out) j (by show j < m.now.length; rw [HN6.out]; exact hj)).mono ?_
              rintro e wb ⟨gb, rfl, _, hxb, _, hbb⟩
              have XB : Aside0 (wb.heap[gb]? = some (.cells (encs (Value.int .u8) (m.now.getD j zB)).toArray 89 (0, 0))) := ⟨hxb⟩
              have XA' := Aside0.mk (blk_below XA.out hbb)
              have BB := Aside0.mk (below_step BA.out hbb)
              clear XA BA hxb hbb
              go_wp2_with fail
              refine (same_calls wb _ _ 64 64 _ LA.out (C_blk XA'.out LA.out) (Nat.le_refl _) (C_blk XB.out LA.out) (Nat.le_refl _)).mono ?_
              rintro e wc ⟨rfl, hbc⟩
              have BC := Aside0.mk (below_step BB.out hbc)
              clear hbc BB XA' XB
              have D8 := Aside0.mk (And.intro (hat.out.1.below BC.out) (And.intro (hat.out.2.1.below BC.out) (below_step hat.out.2.2 BC.out)))
              clear BC
              go_wp2_with fail
              go_roundg (6 - (j + 1))
              case measure => have := hq.out; omega
              case rel => exact ⟨j + 1, rfl, ⟨by omega⟩, D8⟩
            · have hj1 : decide ((j : Int) < 6) = false := decide_eq_false (by omega)
              go_wp2_with (first
                | (go_at_call 31; refine (Ops_calls _ _ _ _ _ _ _ _ hat.out.2.1).mono ?_; rintro e w6 ⟨rfl, rfl⟩; rw [show (mEnd m).ops = 0 from rfl])
                | (go_at_call 30; refine (Dirty_calls _ _ _ _ _ _ _ _ hat.out.2.1).mono ?_; rintro e w6 ⟨rfl, rfl⟩; rw [show (mEnd m).since.length = 0 from rfl]))
              go_ret
              exact ⟨rfl, hat.out.2.2⟩
  · have hch1 : (ch.length : Int) > 1000 := by omega
    cases r with
    | false =>
      go_wp2
      go_ret
      exact ⟨rfl, B1.out⟩
    | true =>
      go_wp2
      go_ret
      exact ⟨rfl, B1.out⟩
end Go.Proofs.Ytdnjjhdhldgcmaa.Sec
