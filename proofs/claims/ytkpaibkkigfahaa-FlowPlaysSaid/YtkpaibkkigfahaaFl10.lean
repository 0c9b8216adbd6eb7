/- FlowDues: the walk. -/
import Derived.Test.YtkpaibkkigfahaaFl9
namespace Go.Proofs.Ytkpaibkkigfahaa.Fl
open Go.RowKit Go.Proofs.YtkpaibkkigfahaaW.PrintWords Go.Proofs.YtkpaibkkigfahaaW.PrintLast Go.Proofs.YtkpaibkkigfahaaW.PrintMore Go.Proofs.Ytkpaibkkigfahaa.Bs Go.Proofs.Ytkpaibkkigfahaa.Fr Go.Proofs.Ytkpaibkkigfahaa.Mp Go.Proofs.Ytkpaibkkigfahaa.Srt
open Go.Proofs.Ytkpaibkkigfahaa.PFlowPlays Go.Proofs.Ytkpaibkkigfahaa.FlP
set_option linter.unusedVariables false
set_option linter.unusedSimpArgs false

theorem layM_len (M : List S46) (f : S46) (s : Bool) : (layM M f s).length ≤ M.length + 1 := by
  unfold layM
  split
  · unfold upM delM
    rw [(ins_perm f _).length_eq]
    have := List.length_filter_le (fun x => decide (keyF x ≠ keyF f)) M
    simp only [List.length_cons]
    omega
  · omega
theorem filter_at {α : Type} (p : α → Bool) : ∀ (M : List α) (i : Nat) (x : α), M[i]? = some x → p x = true → (M.filter p)[((M.take i).filter p).length]? = some x
  | [], i, x, h, hp => by simp at h
  | y :: r, 0, x, h, hp => by
    obtain rfl : y = x := by simpa using h
    simp [hp]
  | y :: r, i + 1, x, h, hp => by
    have ih := filter_at p r i x (by simpa using h) hp
    by_cases hy : p y = true
    · simp [hy, ih]
    · simp [hy, ih]
theorem filter_next {α : Type} (p : α → Bool) (M : List α) (i : Nat) (x : α) (h : M[i]? = some x) : ((M.take (i + 1)).filter p).length = ((M.take i).filter p).length + if p x then 1 else 0 := by
  rw [List.take_add_one, h, List.filter_append, List.length_append]
  by_cases hp : p x = true <;> simp [hp]
theorem filter_all {α : Type} (p : α → Bool) (M : List α) (i : Nat) (h : i = M.length) : (M.take i).filter p = M.filter p := by rw [h, List.take_length]
theorem filter_lt {α : Type} (p : α → Bool) (M : List α) (i : Nat) (x : α) (h : M[i]? = some x) (hp : p x = true) : ((M.take i).filter p).length < (M.filter p).length := (List.getElem?_eq_some_iff.1 (filter_at p M i x h hp)).1
theorem filter_le2 {α : Type} (p q : α → Bool) (M : List α) (h : ∀ x, p x = true → q x = true) : (M.filter p).length ≤ (M.filter q).length := by
  rw [← List.countP_eq_length_filter, ← List.countP_eq_length_filter]
  exact List.countP_mono_left (fun x _ => h x)
theorem rd_get {l : List S46} {i : Nat} (hi : i < l.length) : l[i]? = some (rd_T46 l (i : Int)) := by
  unfold rd_T46
  rw [Int.toNat_natCast, List.getD_eq_getElem?_getD, List.getElem?_eq_getElem hi]
  rfl
theorem rd_mem {l : List S46} {i : Nat} (hi : i < l.length) : rd_T46 l (i : Int) ∈ l := List.mem_of_getElem? (rd_get hi)
theorem rd_of {l : List S46} {i : Nat} {x : S46} (h : l[i]? = some x) : rd_T46 l (i : Int) = x := by
  have hi := (List.getElem?_eq_some_iff.1 h).1
  have := rd_get hi
  rw [h] at this
  exact (Option.some.inj this).symm
/-- What a session that came in is. -/
def okS (x : S46) : Prop := (Lit.int .i64 x.f0).wf = true ∧ (Lit.int .u32 x.f1.f0).wf = true ∧ (Lit.int .i64 x.f1.f1).wf = true ∧ (Lit.int .u32 x.f2.f0).wf = true ∧ (Lit.int .i64 x.f2.f1).wf = true ∧ (Lit.int .i64 x.f3).wf = true ∧ (Lit.int .i64 x.f4).wf = true ∧ (Lit.int .i64 x.f5).wf = true ∧ True
theorem okS_K {x : S46} (h : okS x) : okK (keyF x) := ⟨h.1, h.2.1, h.2.2.1, h.2.2.2.1, h.2.2.2.2.1⟩
set_option maxHeartbeats 8000000 in
set_option maxRecDepth 100000 in
theorem dues_walk (W : World) (A : Option Addr) (cap : Nat) (l : List S46) (hC : k46.C W A l.length l) (hcap : l.length ≤ cap) (hw : ∀ x ∈ l, okS x) (now : Int) (wn : (Lit.int .i64 now).wf = true) (later : Int) (wl : (Lit.int .i64 later).wf = true) :
    Calls Try.prog 6 #[.slice A l.length cap, .int .i64 now, .int .i64 later] W fun e w' => e = .returned (.bool true) ∧ Below W.heap.size W w' := by
  have HC := Aside0.mk hC
  have HW := Aside0.mk hw
  have HLN := Aside0.mk hC.2.1
  clear hC hw hcap wn wl
  go_enter Try.func6, Try.ntmps6
  go_wp2_with fail
  refine (awake_calls W).mono ?_
  rintro e w0 ⟨rfl, hb0⟩
  have B0 := Aside0.mk hb0
  clear hb0
  by_cases h150 : (l.length : Int) > 150
  · have g1 : decide ((l.length : Int) > 150) = true := decide_eq_true h150
    go_wp2_with fail
    go_ret
    exact ⟨rfl, B0.out⟩
  have g1 : decide ((l.length : Int) > 150) = false := decide_eq_false h150
  have HL := Aside0.mk (show l.length ≤ 150 by omega)
  by_cases hnl : later < now
  · have g2 : decide (later < now) = true := decide_eq_true hnl
    go_wp2_with fail
    go_ret
    exact ⟨rfl, B0.out⟩
  have g2 : decide (later < now) = false := decide_eq_false hnl
  have HN := Aside0.mk (show now ≤ later by omega)
  go_wp2_with fail
  refine (New_calls w0).mono ?_
  rintro e w1 ⟨g, b, rfl, hf1, hb1⟩
  have F1 := Aside0.mk hf1
  have B1 := Aside0.mk (below_step B0.out hb1)
  have GE := Aside0.mk (Nat.le_trans B0.out.size F1.out.geb)
  have S1 := Aside0.mk hb1.size
  clear hf1 hb1 g1 g2
  go_wp2_with fail
  go_loopg [8] l.length (fun r v8 wr => ∃ (i : Nat) (M : List S46), v8 = .int .i64 i ∧ Aside0 (r + i = l.length) ∧ Aside0 (FT wr w0.heap.size g b M) ∧ Aside0 (M.length ≤ i) ∧ Aside0 (Below W.heap.size W wr) ∧ Aside0 (w0.heap.size ≤ wr.heap.size))
  case atStart => exact ⟨0, [], rfl, ⟨by omega⟩, F1, ⟨Nat.le_refl _⟩, B1, S1⟩
  case round =>
    obtain ⟨i, M, rfl, hr, FR, HM, BR, SR⟩ := hrel
    by_cases hi : i < l.length
    · have hi1 : decide ((i : Int) < (l.length : Int)) = true := decide_eq_true (by omega)
      have hi2 : (i : Int) < (l.length : Int) := by omega
      have hi3 : (0 : Int) ≤ (i : Int) := by omega
      obtain ⟨ad0, hA0, p0, p1, p2, p3, p4, p5, p6, p7⟩ := at_T46 (Kd.C_below HC.out BR.out) (i : Int) hi3 hi2
      subst hA0
      rw [Int.toNat_natCast] at p0 p1 p2 p3 p4 p5 p6 p7
      have HX := Aside0.mk (HW.out _ (rd_mem hi))
      generalize rd_T46 l (i : Int) = x at *
      go_wp2_with fail
      refine (Put_calls _ _ g b M FR.out x (okS_K HX.out) SR.out).mono ?_
      rintro e w3 ⟨rfl, hf3, hr3⟩
      have F3 := Aside0.mk hf3
      have B3 := Aside0.mk (below_fr BR.out BR.out.size hr3 (fun k hk => by rw [hk]; exact GE.out))
      have S3 := Aside0.mk (Nat.le_trans SR.out hr3.size)
      clear hf3 hr3
      go_wp2_with fail
      go_roundg (l.length - (i + 1))
      case measure => have := hr.out; omega
      case rel => exact ⟨i + 1, layM M x false, by rfl, ⟨by omega⟩, F3, ⟨by have := layM_len M x false; have := HM.out; omega⟩, B3, S3⟩
    · have hi1 : decide ((i : Int) < (l.length : Int)) = false := decide_eq_false (by omega)
      have HML := Aside0.mk (show M.length ≤ 100000 by have := HM.out; have := HL.out; have := hr.out; omega)
      clear hr HM
      go_wp2_with fail
      refine (All_calls _ _ g b M FR.out HML.out).mono ?_
      rintro e w3 ⟨v3, rfl, hR3, hb3⟩
      obtain ⟨A3, c3, rfl⟩ := len_row hR3
      have C3 := Aside0.mk (Kd.R_reads' hR3).2.2
      have F3 := Aside0.mk (FR.out.below hb3)
      have B3 := Aside0.mk (below_step BR.out hb3)
      clear hR3 hb3
      go_wp2_with fail
      refine (Due_calls _ _ g b M F3.out HML.out now).mono ?_
      rintro e w4 ⟨v4, rfl, hR4, hb4⟩
      obtain ⟨A4, c4, rfl⟩ := len_row hR4
      have C4 := Aside0.mk (Kd.R_reads' hR4).2.2
      have F4 := Aside0.mk (F3.out.below hb4)
      have B4 := Aside0.mk (below_step B3.out hb4)
      have C43 := Aside0.mk (Kd.C_below C3.out hb4)
      clear hR4 hb4
      go_wp2_with fail
      refine (Due_calls _ _ g b M F4.out HML.out later).mono ?_
      rintro e w5 ⟨v5, rfl, hR5, hb5⟩
      obtain ⟨A5, c5, rfl⟩ := len_row hR5
      have C5 := Aside0.mk (Kd.R_reads' hR5).2.2
      have B5 := Aside0.mk (below_step B4.out hb5)
      have C54 := Aside0.mk (Kd.C_below C4.out hb5)
      have C53 := Aside0.mk (Kd.C_below C43.out hb5)
      have HFN := Aside0.mk (List.length_filter_le (fun f : S46 => decide (f.f3 ≤ now)) M)
      have HFL := Aside0.mk (List.length_filter_le (fun f : S46 => decide (f.f3 ≤ later)) M)
      have HFF := Aside0.mk (filter_le2 (fun f : S46 => decide (f.f3 ≤ now)) (fun f : S46 => decide (f.f3 ≤ later)) M (fun x hx => decide_eq_true (Int.le_trans (of_decide_eq_true hx) HN.out)))
      clear hR5 hb5
      have hqn : ∃ q : S46 → Bool, q = fun f => decide (f.f3 ≤ now) := ⟨_, rfl⟩
      obtain ⟨qn, hqn⟩ := hqn
      have hql : ∃ q : S46 → Bool, q = fun f => decide (f.f3 ≤ later) := ⟨_, rfl⟩
      obtain ⟨ql, hql⟩ := hql
      rw [← hqn] at HFN HFF C54
      rw [← hql] at HFL HFF C5
      have HQN := Aside0.mk hqn
      have HQL := Aside0.mk hql
      simp only [← hqn, ← hql]
      clear hqn hql
      go_wp2_with fail
      clear hi1 hi
      go_loopg [12, 13, 14] M.length (fun r v12 v13 v14 wr => ∃ (i : Nat), v14 = .int .i64 i ∧ v12 = .int .i64 (((M.take i).filter qn).length : Nat) ∧ v13 = .int .i64 (((M.take i).filter ql).length : Nat) ∧ Aside0 (r + i = M.length) ∧ Aside0 (Below w5.heap.size w5 wr))
      case atStart => exact ⟨0, rfl, rfl, rfl, ⟨by omega⟩, ⟨Below.refl _ _⟩⟩
      case round =>
        obtain ⟨j, rfl, rfl, rfl, hr2, BR2⟩ := hrel
        by_cases hj : j < M.length
        · have hj1 : decide ((j : Int) < (M.length : Int)) = true := decide_eq_true (by omega)
          have hj2 : (j : Int) < (M.length : Int) := by omega
          have hj3 : (0 : Int) ≤ (j : Int) := by omega
          obtain ⟨ad0, hA0, p0, p1, p2, p3, p4, p5, p6, p7⟩ := at_T46 (Kd.C_below C53.out BR2.out) (j : Int) hj3 hj2
          subst hA0
          rw [Int.toNat_natCast] at p0 p1 p2 p3 p4 p5 p6 p7
          have HG := Aside0.mk (rd_get hj)
          generalize rd_T46 M (j : Int) = x at *
          have HN1 := Aside0.mk (filter_next qn M j x HG.out)
          have HN2 := Aside0.mk (filter_next ql M j x HG.out)
          have HK1 := Aside0.mk (List.length_filter_le qn (M.take j))
          have HK2 := Aside0.mk (List.length_filter_le ql (M.take j))
          have HT := Aside0.mk (List.length_take_le' j M)
          by_cases hx : x.f3 ≤ now
          · have hxq : qn x = true := by rw [HQN.out]; exact decide_eq_true hx
            have hxl : ql x = true := by rw [HQL.out]; exact decide_eq_true (Int.le_trans hx HN.out)
            have hx1 : decide (x.f3 ≤ now) = true := decide_eq_true hx
            have hx2 : decide (x.f3 ≤ later) = true := decide_eq_true (Int.le_trans hx HN.out)
            have HE1 := Aside0.mk hxq
            have HE2 := Aside0.mk hxl
            have hk1 := filter_lt qn M j x HG.out hxq
            have hk2 := filter_lt ql M j x HG.out hxl
            obtain ⟨ad1, hA1, q0, q1, q2, q3, q4, q5, q6, q7⟩ := at_T46 (Kd.C_below C54.out BR2.out) (((M.take j).filter qn).length : Int) (by omega) (by omega)
            obtain ⟨ad2, hA2, r0, r1, r2, r3, r4, r5, r6, r7⟩ := at_T46 (Kd.C_below C5.out BR2.out) (((M.take j).filter ql).length : Int) (by omega) (by omega)
            subst hA1
            subst hA2
            rw [Int.toNat_natCast, rd_of (filter_at qn M j x HG.out hxq)] at q0 q1 q2 q3 q4 q5 q6 q7
            rw [Int.toNat_natCast, rd_of (filter_at ql M j x HG.out hxl)] at r0 r1 r2 r3 r4 r5 r6 r7
            clear hxq hxl
            generalize hkk : ((M.take j).filter qn).length = k at *
            generalize hll : ((M.take j).filter ql).length = m at *
            generalize hnn : (M.filter qn).length = nq at *
            generalize hmm : (M.filter ql).length = nl at *
            have hge1 : decide ((k : Int) ≥ (nq : Int)) = false := decide_eq_false (by omega)
            have hge2 : decide ((m : Int) ≥ (nl : Int)) = false := decide_eq_false (by omega)
            have hk3 : (k : Int) < (nq : Int) := by omega
            have hm3 : (m : Int) < (nl : Int) := by omega
            have hk0 : (0 : Int) ≤ (k : Int) := by omega
            have hm0 : (0 : Int) ≤ (m : Int) := by omega
            go_upto_region 21 with fail
            refine start_ (n := 15) (S := fun w' => w'.cell? (ad0.add (j * 8)) = some (.int .i64 x.f0) ∧ w'.cell? ⟨(ad0.add (j * 8)).block, (ad0.add (j * 8)).off + 1, none⟩ = some (.int .u32 x.f1.f0) ∧ w'.cell? ⟨(ad0.add (j * 8)).block, (ad0.add (j * 8)).off + 2, none⟩ = some (.int .i64 x.f1.f1) ∧ w'.cell? ⟨(ad0.add (j * 8)).block, (ad0.add (j * 8)).off + 3, none⟩ = some (.int .u32 x.f2.f0) ∧ w'.cell? ⟨(ad0.add (j * 8)).block, (ad0.add (j * 8)).off + 4, none⟩ = some (.int .i64 x.f2.f1) ∧ w'.cell? ⟨(ad0.add (j * 8)).block, (ad0.add (j * 8)).off + 5, none⟩ = some (.int .i64 x.f3) ∧ w'.cell? ⟨(ad0.add (j * 8)).block, (ad0.add (j * 8)).off + 6, none⟩ = some (.int .i64 x.f4) ∧ w'.cell? ⟨(ad0.add (j * 8)).block, (ad0.add (j * 8)).off + 7, none⟩ = some (.int .i64 x.f5) ∧ w'.cell? (ad1.add (k * 8)) = some (.int .i64 x.f0) ∧ w'.cell? ⟨(ad1.add (k * 8)).block, (ad1.add (k * 8)).off + 1, none⟩ = some (.int .u32 x.f1.f0) ∧ w'.cell? ⟨(ad1.add (k * 8)).block, (ad1.add (k * 8)).off + 2, none⟩ = some (.int .i64 x.f1.f1) ∧ w'.cell? ⟨(ad1.add (k * 8)).block, (ad1.add (k * 8)).off + 3, none⟩ = some (.int .u32 x.f2.f0) ∧ w'.cell? ⟨(ad1.add (k * 8)).block, (ad1.add (k * 8)).off + 4, none⟩ = some (.int .i64 x.f2.f1) ∧ w'.cell? ⟨(ad1.add (k * 8)).block, (ad1.add (k * 8)).off + 5, none⟩ = some (.int .i64 x.f3) ∧ w'.cell? ⟨(ad1.add (k * 8)).block, (ad1.add (k * 8)).off + 6, none⟩ = some (.int .i64 x.f4) ∧ w'.cell? ⟨(ad1.add (k * 8)).block, (ad1.add (k * 8)).off + 7, none⟩ = some (.int .i64 x.f5)) (ds := []) #[false, false, false, false, false, false, false, false, false, false, false, false, false, false, false] (by kernel_rfl) rfl rfl ⟨p0, p1, p2, p3, p4, p5, p6, p7, q0, q1, q2, q3, q4, q5, q6, q7⟩ (fun hHeld => ?_)
            refine pure_ (i := 0) (N := some 61) (v := ?_) (a' := ?_) #[true, false, false, false, false, false, false, false, false, false, false, false, false, false, false] rfl rfl (by kernel_rfl) (fun _ _ _ h => h) (Or.inl ⟨by rfl, ?_⟩) ?_ ?_
            rotate_left
            · intro w'
              go_simp
              with_reducible rfl
            rotate_left
            · simp only [Act.put, List.setIfInBounds_toArray, List.set_cons_zero, List.set_cons_succ, i64_w, i32_w]
              rfl
            refine pure_ (i := 1) (N := some 62) (v := ?_) (a' := ?_) #[true, true, false, false, false, false, false, false, false, false, false, false, false, false, false] rfl rfl (by kernel_rfl) (fun _ _ _ h => h) (Or.inl ⟨by rfl, ?_⟩) ?_ ?_
            rotate_left
            · intro w'
              go_simp
              with_reducible rfl
            rotate_left
            · simp only [Act.put, List.setIfInBounds_toArray, List.set_cons_zero, List.set_cons_succ, i64_w, i32_w]
              rfl
            refine pure_ (i := 2) (N := some 63) (v := ?_) (a' := ?_) #[true, true, true, false, false, false, false, false, false, false, false, false, false, false, false] rfl rfl (by kernel_rfl) (fun _ _ _ h => h) (Or.inl ⟨by rfl, ?_⟩) ?_ ?_
            rotate_left
            · intro w'
              go_simp
              with_reducible rfl
            rotate_left
            · simp only [Act.put, List.setIfInBounds_toArray, List.set_cons_zero, List.set_cons_succ, i64_w, i32_w]
              rfl
            refine pure_ (i := 3) (N := some 64) (v := (.bool false)) (a' := ?aa_2) #[true, true, true, true, false, false, false, false, false, false, false, false, false, false, false] rfl rfl (by kernel_rfl) (fun _ _ _ h => h) ?hy_2 ?ha_2 ?h_2
            case hy_2 => exact Or.inl ⟨by rfl, fun w' => by go_simp⟩
            case ha_2 => simp only [Act.put, List.setIfInBounds_toArray, List.set_cons_zero, List.set_cons_succ, i64_w, i32_w]; rfl
            refine pure_ (i := 4) (N := some 65) (v := ?_) (a' := ?_) #[true, true, true, true, true, false, false, false, false, false, false, false, false, false, false] rfl rfl (by kernel_rfl) (fun _ _ _ h => h) (Or.inl ⟨by rfl, ?_⟩) ?_ ?_
            rotate_left
            · intro w'
              go_simp
              with_reducible rfl
            rotate_left
            · simp only [Act.put, List.setIfInBounds_toArray, List.set_cons_zero, List.set_cons_succ, i64_w, i32_w]
              rfl
            refine pure_ (i := 5) (N := some 66) (v := ?_) (a' := ?_) #[true, true, true, true, true, true, false, false, false, false, false, false, false, false, false] rfl rfl (by kernel_rfl) (fun _ _ _ h => h) (Or.inl ⟨by rfl, ?_⟩) ?_ ?_
            rotate_left
            · intro w'
              go_simp
              with_reducible rfl
            rotate_left
            · simp only [Act.put, List.setIfInBounds_toArray, List.set_cons_zero, List.set_cons_succ, i64_w, i32_w]
              rfl
            refine pure_ (i := 6) (N := some 67) (v := ?_) (a' := ?_) #[true, true, true, true, true, true, true, false, false, false, false, false, false, false, false] rfl rfl (by kernel_rfl) (fun _ _ _ h => h) (Or.inl ⟨by rfl, ?_⟩) ?_ ?_
            rotate_left
            · intro w'
              go_simp
              with_reducible rfl
            rotate_left
            · simp only [Act.put, List.setIfInBounds_toArray, List.set_cons_zero, List.set_cons_succ, i64_w, i32_w]
              rfl
            refine pure_ (i := 7) (N := some 68) (v := ?_) (a' := ?_) #[true, true, true, true, true, true, true, true, false, false, false, false, false, false, false] rfl rfl (by kernel_rfl) (fun _ _ _ h => h) (Or.inl ⟨by rfl, ?_⟩) ?_ ?_
            rotate_left
            · intro w'
              go_simp
              with_reducible rfl
            rotate_left
            · simp only [Act.put, List.setIfInBounds_toArray, List.set_cons_zero, List.set_cons_succ, i64_w, i32_w]
              rfl
            refine pure_ (i := 9) (N := some 70) (v := ?_) (a' := ?_) #[true, true, true, true, true, true, true, true, false, true, false, false, false, false, false] rfl rfl (by kernel_rfl) (fun _ _ _ h => h) (Or.inl ⟨by rfl, ?_⟩) ?_ ?_
            rotate_left
            · intro w'
              go_simp
              with_reducible rfl
            rotate_left
            · simp only [Act.put, List.setIfInBounds_toArray, List.set_cons_zero, List.set_cons_succ, i64_w, i32_w]
              rfl
            refine pure_ (i := 10) (N := some 71) (v := ?_) (a' := ?_) #[true, true, true, true, true, true, true, true, false, true, true, false, false, false, false] rfl rfl (by kernel_rfl) (fun _ _ _ h => h) (Or.inl ⟨by rfl, ?_⟩) ?_ ?_
            rotate_left
            · intro w'
              go_simp
              with_reducible rfl
            rotate_left
            · simp only [Act.put, List.setIfInBounds_toArray, List.set_cons_zero, List.set_cons_succ, i64_w, i32_w]
              rfl
            refine pure_ (i := 11) (N := some 72) (v := ?_) (a' := ?_) #[true, true, true, true, true, true, true, true, false, true, true, true, false, false, false] rfl rfl (by kernel_rfl) (fun _ _ _ h => h) (Or.inl ⟨by rfl, ?_⟩) ?_ ?_
            rotate_left
            · intro w'
              go_simp
              with_reducible rfl
            rotate_left
            · simp only [Act.put, List.setIfInBounds_toArray, List.set_cons_zero, List.set_cons_succ, i64_w, i32_w]
              rfl
            refine take_ (i := 8) (N := some 69) (v := ?_) (a' := ?_) #[true, true, true, true, true, true, true, true, true, true, true, true, false, false, false] rfl rfl (by kernel_rfl) (fun _ _ _ h => h) (Or.inl ⟨by rfl, ?_⟩) hHeld ?_ ?_
            rotate_left
            · rintro w' ⟨s0, s1, s2, s3, s4, s5, s6, s7, s8, s9, s10, s11, s12, s13, s14, s15⟩
              go_simp
              with_reducible rfl
            rotate_left
            · simp only [Act.put, List.setIfInBounds_toArray, List.set_cons_zero, List.set_cons_succ, i64_w, i32_w]
              rfl
            refine take_ (i := 12) (N := some 73) (v := ?_) (a' := ?_) #[true, true, true, true, true, true, true, true, true, true, true, true, true, false, false] rfl rfl (by kernel_rfl) (fun _ _ _ h => h) (Or.inl ⟨by rfl, ?_⟩) hHeld ?_ ?_
            rotate_left
            · rintro w' ⟨s0, s1, s2, s3, s4, s5, s6, s7, s8, s9, s10, s11, s12, s13, s14, s15⟩
              go_simp
              with_reducible rfl
            rotate_left
            · simp only [Act.put, List.setIfInBounds_toArray, List.set_cons_zero, List.set_cons_succ, i64_w, i32_w]
              rfl
            refine pure_ (i := 13) (N := some 74) (v := (.bool false)) (a' := ?aa_1) #[true, true, true, true, true, true, true, true, true, true, true, true, true, true, false] rfl rfl (by kernel_rfl) (fun _ _ _ h => h) ?hy_1 ?ha_1 ?h_1
            case hy_1 => exact Or.inl ⟨by rfl, fun w' => neq_run _ (by rfl) (by rfl) (by rfl) w'⟩
            case ha_1 => simp only [Act.put, List.setIfInBounds_toArray, List.set_cons_zero, List.set_cons_succ, i64_w, i32_w]; rfl
            refine pure_ (i := 14) (N := some 75) (v := ?_) (a' := ?_) #[true, true, true, true, true, true, true, true, true, true, true, true, true, true, true] rfl rfl (by kernel_rfl) (fun _ _ _ h => h) (Or.inl ⟨by rfl, ?_⟩) ?_ ?_
            rotate_left
            · intro w'
              go_simp
              with_reducible rfl
            rotate_left
            · simp only [Act.put, List.setIfInBounds_toArray, List.set_cons_zero, List.set_cons_succ, i64_w, i32_w]
              rfl
            refine done_ (by kernel_rfl) ?_
            go_upto_region 25 with fail
            refine start_ (n := 15) (S := fun w' => w'.cell? (ad0.add (j * 8)) = some (.int .i64 x.f0) ∧ w'.cell? ⟨(ad0.add (j * 8)).block, (ad0.add (j * 8)).off + 1, none⟩ = some (.int .u32 x.f1.f0) ∧ w'.cell? ⟨(ad0.add (j * 8)).block, (ad0.add (j * 8)).off + 2, none⟩ = some (.int .i64 x.f1.f1) ∧ w'.cell? ⟨(ad0.add (j * 8)).block, (ad0.add (j * 8)).off + 3, none⟩ = some (.int .u32 x.f2.f0) ∧ w'.cell? ⟨(ad0.add (j * 8)).block, (ad0.add (j * 8)).off + 4, none⟩ = some (.int .i64 x.f2.f1) ∧ w'.cell? ⟨(ad0.add (j * 8)).block, (ad0.add (j * 8)).off + 5, none⟩ = some (.int .i64 x.f3) ∧ w'.cell? ⟨(ad0.add (j * 8)).block, (ad0.add (j * 8)).off + 6, none⟩ = some (.int .i64 x.f4) ∧ w'.cell? ⟨(ad0.add (j * 8)).block, (ad0.add (j * 8)).off + 7, none⟩ = some (.int .i64 x.f5) ∧ w'.cell? (ad2.add (m * 8)) = some (.int .i64 x.f0) ∧ w'.cell? ⟨(ad2.add (m * 8)).block, (ad2.add (m * 8)).off + 1, none⟩ = some (.int .u32 x.f1.f0) ∧ w'.cell? ⟨(ad2.add (m * 8)).block, (ad2.add (m * 8)).off + 2, none⟩ = some (.int .i64 x.f1.f1) ∧ w'.cell? ⟨(ad2.add (m * 8)).block, (ad2.add (m * 8)).off + 3, none⟩ = some (.int .u32 x.f2.f0) ∧ w'.cell? ⟨(ad2.add (m * 8)).block, (ad2.add (m * 8)).off + 4, none⟩ = some (.int .i64 x.f2.f1) ∧ w'.cell? ⟨(ad2.add (m * 8)).block, (ad2.add (m * 8)).off + 5, none⟩ = some (.int .i64 x.f3) ∧ w'.cell? ⟨(ad2.add (m * 8)).block, (ad2.add (m * 8)).off + 6, none⟩ = some (.int .i64 x.f4) ∧ w'.cell? ⟨(ad2.add (m * 8)).block, (ad2.add (m * 8)).off + 7, none⟩ = some (.int .i64 x.f5)) (ds := []) #[false, false, false, false, false, false, false, false, false, false, false, false, false, false, false] (by kernel_rfl) rfl rfl ⟨p0, p1, p2, p3, p4, p5, p6, p7, r0, r1, r2, r3, r4, r5, r6, r7⟩ (fun hHeld => ?_)
            refine pure_ (i := 0) (N := some 85) (v := ?_) (a' := ?_) #[true, false, false, false, false, false, false, false, false, false, false, false, false, false, false] rfl rfl (by kernel_rfl) (fun _ _ _ h => h) (Or.inl ⟨by rfl, ?_⟩) ?_ ?_
            rotate_left
            · intro w'
              go_simp
              with_reducible rfl
            rotate_left
            · simp only [Act.put, List.setIfInBounds_toArray, List.set_cons_zero, List.set_cons_succ, i64_w, i32_w]
              rfl
            refine pure_ (i := 1) (N := some 86) (v := ?_) (a' := ?_) #[true, true, false, false, false, false, false, false, false, false, false, false, false, false, false] rfl rfl (by kernel_rfl) (fun _ _ _ h => h) (Or.inl ⟨by rfl, ?_⟩) ?_ ?_
            rotate_left
            · intro w'
              go_simp
              with_reducible rfl
            rotate_left
            · simp only [Act.put, List.setIfInBounds_toArray, List.set_cons_zero, List.set_cons_succ, i64_w, i32_w]
              rfl
            refine pure_ (i := 2) (N := some 87) (v := ?_) (a' := ?_) #[true, true, true, false, false, false, false, false, false, false, false, false, false, false, false] rfl rfl (by kernel_rfl) (fun _ _ _ h => h) (Or.inl ⟨by rfl, ?_⟩) ?_ ?_
            rotate_left
            · intro w'
              go_simp
              with_reducible rfl
            rotate_left
            · simp only [Act.put, List.setIfInBounds_toArray, List.set_cons_zero, List.set_cons_succ, i64_w, i32_w]
              rfl
            refine pure_ (i := 3) (N := some 88) (v := (.bool false)) (a' := ?aa_4) #[true, true, true, true, false, false, false, false, false, false, false, false, false, false, false] rfl rfl (by kernel_rfl) (fun _ _ _ h => h) ?hy_4 ?ha_4 ?h_4
            case hy_4 => exact Or.inl ⟨by rfl, fun w' => by go_simp⟩
            case ha_4 => simp only [Act.put, List.setIfInBounds_toArray, List.set_cons_zero, List.set_cons_succ, i64_w, i32_w]; rfl
            refine pure_ (i := 4) (N := some 89) (v := ?_) (a' := ?_) #[true, true, true, true, true, false, false, false, false, false, false, false, false, false, false] rfl rfl (by kernel_rfl) (fun _ _ _ h => h) (Or.inl ⟨by rfl, ?_⟩) ?_ ?_
            rotate_left
            · intro w'
              go_simp
              with_reducible rfl
            rotate_left
            · simp only [Act.put, List.setIfInBounds_toArray, List.set_cons_zero, List.set_cons_succ, i64_w, i32_w]
              rfl
            refine pure_ (i := 5) (N := some 90) (v := ?_) (a' := ?_) #[true, true, true, true, true, true, false, false, false, false, false, false, false, false, false] rfl rfl (by kernel_rfl) (fun _ _ _ h => h) (Or.inl ⟨by rfl, ?_⟩) ?_ ?_
            rotate_left
            · intro w'
              go_simp
              with_reducible rfl
            rotate_left
            · simp only [Act.put, List.setIfInBounds_toArray, List.set_cons_zero, List.set_cons_succ, i64_w, i32_w]
              rfl
            refine pure_ (i := 6) (N := some 91) (v := ?_) (a' := ?_) #[true, true, true, true, true, true, true, false, false, false, false, false, false, false, false] rfl rfl (by kernel_rfl) (fun _ _ _ h => h) (Or.inl ⟨by rfl, ?_⟩) ?_ ?_
            rotate_left
            · intro w'
              go_simp
              with_reducible rfl
            rotate_left
            · simp only [Act.put, List.setIfInBounds_toArray, List.set_cons_zero, List.set_cons_succ, i64_w, i32_w]
              rfl
            refine pure_ (i := 7) (N := some 92) (v := ?_) (a' := ?_) #[true, true, true, true, true, true, true, true, false, false, false, false, false, false, false] rfl rfl (by kernel_rfl) (fun _ _ _ h => h) (Or.inl ⟨by rfl, ?_⟩) ?_ ?_
            rotate_left
            · intro w'
              go_simp
              with_reducible rfl
            rotate_left
            · simp only [Act.put, List.setIfInBounds_toArray, List.set_cons_zero, List.set_cons_succ, i64_w, i32_w]
              rfl
            refine pure_ (i := 9) (N := some 94) (v := ?_) (a' := ?_) #[true, true, true, true, true, true, true, true, false, true, false, false, false, false, false] rfl rfl (by kernel_rfl) (fun _ _ _ h => h) (Or.inl ⟨by rfl, ?_⟩) ?_ ?_
            rotate_left
            · intro w'
              go_simp
              with_reducible rfl
            rotate_left
            · simp only [Act.put, List.setIfInBounds_toArray, List.set_cons_zero, List.set_cons_succ, i64_w, i32_w]
              rfl
            refine pure_ (i := 10) (N := some 95) (v := ?_) (a' := ?_) #[true, true, true, true, true, true, true, true, false, true, true, false, false, false, false] rfl rfl (by kernel_rfl) (fun _ _ _ h => h) (Or.inl ⟨by rfl, ?_⟩) ?_ ?_
            rotate_left
            · intro w'
              go_simp
              with_reducible rfl
            rotate_left
            · simp only [Act.put, List.setIfInBounds_toArray, List.set_cons_zero, List.set_cons_succ, i64_w, i32_w]
              rfl
            refine pure_ (i := 11) (N := some 96) (v := ?_) (a' := ?_) #[true, true, true, true, true, true, true, true, false, true, true, true, false, false, false] rfl rfl (by kernel_rfl) (fun _ _ _ h => h) (Or.inl ⟨by rfl, ?_⟩) ?_ ?_
            rotate_left
            · intro w'
              go_simp
              with_reducible rfl
            rotate_left
            · simp only [Act.put, List.setIfInBounds_toArray, List.set_cons_zero, List.set_cons_succ, i64_w, i32_w]
              rfl
            refine take_ (i := 8) (N := some 93) (v := ?_) (a' := ?_) #[true, true, true, true, true, true, true, true, true, true, true, true, false, false, false] rfl rfl (by kernel_rfl) (fun _ _ _ h => h) (Or.inl ⟨by rfl, ?_⟩) hHeld ?_ ?_
            rotate_left
            · rintro w' ⟨s0, s1, s2, s3, s4, s5, s6, s7, s8, s9, s10, s11, s12, s13, s14, s15⟩
              go_simp
              with_reducible rfl
            rotate_left
            · simp only [Act.put, List.setIfInBounds_toArray, List.set_cons_zero, List.set_cons_succ, i64_w, i32_w]
              rfl
            refine take_ (i := 12) (N := some 97) (v := ?_) (a' := ?_) #[true, true, true, true, true, true, true, true, true, true, true, true, true, false, false] rfl rfl (by kernel_rfl) (fun _ _ _ h => h) (Or.inl ⟨by rfl, ?_⟩) hHeld ?_ ?_
            rotate_left
            · rintro w' ⟨s0, s1, s2, s3, s4, s5, s6, s7, s8, s9, s10, s11, s12, s13, s14, s15⟩
              go_simp
              with_reducible rfl
            rotate_left
            · simp only [Act.put, List.setIfInBounds_toArray, List.set_cons_zero, List.set_cons_succ, i64_w, i32_w]
              rfl
            refine pure_ (i := 13) (N := some 98) (v := (.bool false)) (a' := ?aa_3) #[true, true, true, true, true, true, true, true, true, true, true, true, true, true, false] rfl rfl (by kernel_rfl) (fun _ _ _ h => h) ?hy_3 ?ha_3 ?h_3
            case hy_3 => exact Or.inl ⟨by rfl, fun w' => neq_run _ (by rfl) (by rfl) (by rfl) w'⟩
            case ha_3 => simp only [Act.put, List.setIfInBounds_toArray, List.set_cons_zero, List.set_cons_succ, i64_w, i32_w]; rfl
            refine pure_ (i := 14) (N := some 99) (v := ?_) (a' := ?_) #[true, true, true, true, true, true, true, true, true, true, true, true, true, true, true] rfl rfl (by kernel_rfl) (fun _ _ _ h => h) (Or.inl ⟨by rfl, ?_⟩) ?_ ?_
            rotate_left
            · intro w'
              go_simp
              with_reducible rfl
            rotate_left
            · simp only [Act.put, List.setIfInBounds_toArray, List.set_cons_zero, List.set_cons_succ, i64_w, i32_w]
              rfl
            refine done_ (by kernel_rfl) ?_
            go_wp2_with fail
            go_roundg (M.length - (j + 1))
            case measure => have := hr2.out; omega
            case rel => exact ⟨j + 1, by first | rfl | (have := HML.out; rw [show wrap64 ((j : Int) + 1) = ((j + 1 : Nat) : Int) from by unfold wrap64; omega]), by have := HML.out; have := HK1.out; have := HT.out; rw [HN1.out, HE1.out]; first | rfl | (rw [show wrap64 ((k : Int) + 1) = ((k + 1 : Nat) : Int) from by unfold wrap64; omega]; rfl), by have := HML.out; have := HK2.out; have := HT.out; rw [HN2.out, HE2.out]; first | rfl | (rw [show wrap64 ((m : Int) + 1) = ((m + 1 : Nat) : Int) from by unfold wrap64; omega]; rfl), ⟨by omega⟩, ⟨BR2.out.drew.drew⟩⟩
          · have hxq : qn x = false := by rw [HQN.out]; exact decide_eq_false hx
            have hx1 : decide (x.f3 ≤ now) = false := decide_eq_false hx
            have HE1 := Aside0.mk hxq
            clear hxq
            by_cases hy : x.f3 ≤ later
            · have hxl : ql x = true := by rw [HQL.out]; exact decide_eq_true hy
              have hx2 : decide (x.f3 ≤ later) = true := decide_eq_true hy
              have HE2 := Aside0.mk hxl
              have hk2 := filter_lt ql M j x HG.out hxl
              obtain ⟨ad2, hA2, r0, r1, r2, r3, r4, r5, r6, r7⟩ := at_T46 (Kd.C_below C5.out BR2.out) (((M.take j).filter ql).length : Int) (by omega) (by omega)
              subst hA2
              rw [Int.toNat_natCast, rd_of (filter_at ql M j x HG.out hxl)] at r0 r1 r2 r3 r4 r5 r6 r7
              clear hxl
              generalize hll : ((M.take j).filter ql).length = m at *
              generalize hmm : (M.filter ql).length = nl at *
              have hge2 : decide ((m : Int) ≥ (nl : Int)) = false := decide_eq_false (by omega)
              have hm3 : (m : Int) < (nl : Int) := by omega
              have hm0 : (0 : Int) ≤ (m : Int) := by omega
              go_upto_region 25 with fail
              refine start_ (n := 15) (S := fun w' => w'.cell? (ad0.add (j * 8)) = some (.int .i64 x.f0) ∧ w'.cell? ⟨(ad0.add (j * 8)).block, (ad0.add (j * 8)).off + 1, none⟩ = some (.int .u32 x.f1.f0) ∧ w'.cell? ⟨(ad0.add (j * 8)).block, (ad0.add (j * 8)).off + 2, none⟩ = some (.int .i64 x.f1.f1) ∧ w'.cell? ⟨(ad0.add (j * 8)).block, (ad0.add (j * 8)).off + 3, none⟩ = some (.int .u32 x.f2.f0) ∧ w'.cell? ⟨(ad0.add (j * 8)).block, (ad0.add (j * 8)).off + 4, none⟩ = some (.int .i64 x.f2.f1) ∧ w'.cell? ⟨(ad0.add (j * 8)).block, (ad0.add (j * 8)).off + 5, none⟩ = some (.int .i64 x.f3) ∧ w'.cell? ⟨(ad0.add (j * 8)).block, (ad0.add (j * 8)).off + 6, none⟩ = some (.int .i64 x.f4) ∧ w'.cell? ⟨(ad0.add (j * 8)).block, (ad0.add (j * 8)).off + 7, none⟩ = some (.int .i64 x.f5) ∧ w'.cell? (ad2.add (m * 8)) = some (.int .i64 x.f0) ∧ w'.cell? ⟨(ad2.add (m * 8)).block, (ad2.add (m * 8)).off + 1, none⟩ = some (.int .u32 x.f1.f0) ∧ w'.cell? ⟨(ad2.add (m * 8)).block, (ad2.add (m * 8)).off + 2, none⟩ = some (.int .i64 x.f1.f1) ∧ w'.cell? ⟨(ad2.add (m * 8)).block, (ad2.add (m * 8)).off + 3, none⟩ = some (.int .u32 x.f2.f0) ∧ w'.cell? ⟨(ad2.add (m * 8)).block, (ad2.add (m * 8)).off + 4, none⟩ = some (.int .i64 x.f2.f1) ∧ w'.cell? ⟨(ad2.add (m * 8)).block, (ad2.add (m * 8)).off + 5, none⟩ = some (.int .i64 x.f3) ∧ w'.cell? ⟨(ad2.add (m * 8)).block, (ad2.add (m * 8)).off + 6, none⟩ = some (.int .i64 x.f4) ∧ w'.cell? ⟨(ad2.add (m * 8)).block, (ad2.add (m * 8)).off + 7, none⟩ = some (.int .i64 x.f5)) (ds := []) #[false, false, false, false, false, false, false, false, false, false, false, false, false, false, false] (by kernel_rfl) rfl rfl ⟨p0, p1, p2, p3, p4, p5, p6, p7, r0, r1, r2, r3, r4, r5, r6, r7⟩ (fun hHeld => ?_)
              refine pure_ (i := 0) (N := some 85) (v := ?_) (a' := ?_) #[true, false, false, false, false, false, false, false, false, false, false, false, false, false, false] rfl rfl (by kernel_rfl) (fun _ _ _ h => h) (Or.inl ⟨by rfl, ?_⟩) ?_ ?_
              rotate_left
              · intro w'
                go_simp
                with_reducible rfl
              rotate_left
              · simp only [Act.put, List.setIfInBounds_toArray, List.set_cons_zero, List.set_cons_succ, i64_w, i32_w]
                rfl
              refine pure_ (i := 1) (N := some 86) (v := ?_) (a' := ?_) #[true, true, false, false, false, false, false, false, false, false, false, false, false, false, false] rfl rfl (by kernel_rfl) (fun _ _ _ h => h) (Or.inl ⟨by rfl, ?_⟩) ?_ ?_
              rotate_left
              · intro w'
                go_simp
                with_reducible rfl
              rotate_left
              · simp only [Act.put, List.setIfInBounds_toArray, List.set_cons_zero, List.set_cons_succ, i64_w, i32_w]
                rfl
              refine pure_ (i := 2) (N := some 87) (v := ?_) (a' := ?_) #[true, true, true, false, false, false, false, false, false, false, false, false, false, false, false] rfl rfl (by kernel_rfl) (fun _ _ _ h => h) (Or.inl ⟨by rfl, ?_⟩) ?_ ?_
              rotate_left
              · intro w'
                go_simp
                with_reducible rfl
              rotate_left
              · simp only [Act.put, List.setIfInBounds_toArray, List.set_cons_zero, List.set_cons_succ, i64_w, i32_w]
                rfl
              refine pure_ (i := 3) (N := some 88) (v := (.bool false)) (a' := ?aa_6) #[true, true, true, true, false, false, false, false, false, false, false, false, false, false, false] rfl rfl (by kernel_rfl) (fun _ _ _ h => h) ?hy_6 ?ha_6 ?h_6
              case hy_6 => exact Or.inl ⟨by rfl, fun w' => by go_simp⟩
              case ha_6 => simp only [Act.put, List.setIfInBounds_toArray, List.set_cons_zero, List.set_cons_succ, i64_w, i32_w]; rfl
              refine pure_ (i := 4) (N := some 89) (v := ?_) (a' := ?_) #[true, true, true, true, true, false, false, false, false, false, false, false, false, false, false] rfl rfl (by kernel_rfl) (fun _ _ _ h => h) (Or.inl ⟨by rfl, ?_⟩) ?_ ?_
              rotate_left
              · intro w'
                go_simp
                with_reducible rfl
              rotate_left
              · simp only [Act.put, List.setIfInBounds_toArray, List.set_cons_zero, List.set_cons_succ, i64_w, i32_w]
                rfl
              refine pure_ (i := 5) (N := some 90) (v := ?_) (a' := ?_) #[true, true, true, true, true, true, false, false, false, false, false, false, false, false, false] rfl rfl (by kernel_rfl) (fun _ _ _ h => h) (Or.inl ⟨by rfl, ?_⟩) ?_ ?_
              rotate_left
              · intro w'
                go_simp
                with_reducible rfl
              rotate_left
              · simp only [Act.put, List.setIfInBounds_toArray, List.set_cons_zero, List.set_cons_succ, i64_w, i32_w]
                rfl
              refine pure_ (i := 6) (N := some 91) (v := ?_) (a' := ?_) #[true, true, true, true, true, true, true, false, false, false, false, false, false, false, false] rfl rfl (by kernel_rfl) (fun _ _ _ h => h) (Or.inl ⟨by rfl, ?_⟩) ?_ ?_
              rotate_left
              · intro w'
                go_simp
                with_reducible rfl
              rotate_left
              · simp only [Act.put, List.setIfInBounds_toArray, List.set_cons_zero, List.set_cons_succ, i64_w, i32_w]
                rfl
              refine pure_ (i := 7) (N := some 92) (v := ?_) (a' := ?_) #[true, true, true, true, true, true, true, true, false, false, false, false, false, false, false] rfl rfl (by kernel_rfl) (fun _ _ _ h => h) (Or.inl ⟨by rfl, ?_⟩) ?_ ?_
              rotate_left
              · intro w'
                go_simp
                with_reducible rfl
              rotate_left
              · simp only [Act.put, List.setIfInBounds_toArray, List.set_cons_zero, List.set_cons_succ, i64_w, i32_w]
                rfl
              refine pure_ (i := 9) (N := some 94) (v := ?_) (a' := ?_) #[true, true, true, true, true, true, true, true, false, true, false, false, false, false, false] rfl rfl (by kernel_rfl) (fun _ _ _ h => h) (Or.inl ⟨by rfl, ?_⟩) ?_ ?_
              rotate_left
              · intro w'
                go_simp
                with_reducible rfl
              rotate_left
              · simp only [Act.put, List.setIfInBounds_toArray, List.set_cons_zero, List.set_cons_succ, i64_w, i32_w]
                rfl
              refine pure_ (i := 10) (N := some 95) (v := ?_) (a' := ?_) #[true, true, true, true, true, true, true, true, false, true, true, false, false, false, false] rfl rfl (by kernel_rfl) (fun _ _ _ h => h) (Or.inl ⟨by rfl, ?_⟩) ?_ ?_
              rotate_left
              · intro w'
                go_simp
                with_reducible rfl
              rotate_left
              · simp only [Act.put, List.setIfInBounds_toArray, List.set_cons_zero, List.set_cons_succ, i64_w, i32_w]
                rfl
              refine pure_ (i := 11) (N := some 96) (v := ?_) (a' := ?_) #[true, true, true, true, true, true, true, true, false, true, true, true, false, false, false] rfl rfl (by kernel_rfl) (fun _ _ _ h => h) (Or.inl ⟨by rfl, ?_⟩) ?_ ?_
              rotate_left
              · intro w'
                go_simp
                with_reducible rfl
              rotate_left
              · simp only [Act.put, List.setIfInBounds_toArray, List.set_cons_zero, List.set_cons_succ, i64_w, i32_w]
                rfl
              refine take_ (i := 8) (N := some 93) (v := ?_) (a' := ?_) #[true, true, true, true, true, true, true, true, true, true, true, true, false, false, false] rfl rfl (by kernel_rfl) (fun _ _ _ h => h) (Or.inl ⟨by rfl, ?_⟩) hHeld ?_ ?_
              rotate_left
              · rintro w' ⟨s0, s1, s2, s3, s4, s5, s6, s7, s8, s9, s10, s11, s12, s13, s14, s15⟩
                go_simp
                with_reducible rfl
              rotate_left
              · simp only [Act.put, List.setIfInBounds_toArray, List.set_cons_zero, List.set_cons_succ, i64_w, i32_w]
                rfl
              refine take_ (i := 12) (N := some 97) (v := ?_) (a' := ?_) #[true, true, true, true, true, true, true, true, true, true, true, true, true, false, false] rfl rfl (by kernel_rfl) (fun _ _ _ h => h) (Or.inl ⟨by rfl, ?_⟩) hHeld ?_ ?_
              rotate_left
              · rintro w' ⟨s0, s1, s2, s3, s4, s5, s6, s7, s8, s9, s10, s11, s12, s13, s14, s15⟩
                go_simp
                with_reducible rfl
              rotate_left
              · simp only [Act.put, List.setIfInBounds_toArray, List.set_cons_zero, List.set_cons_succ, i64_w, i32_w]
                rfl
              refine pure_ (i := 13) (N := some 98) (v := (.bool false)) (a' := ?aa_5) #[true, true, true, true, true, true, true, true, true, true, true, true, true, true, false] rfl rfl (by kernel_rfl) (fun _ _ _ h => h) ?hy_5 ?ha_5 ?h_5
              case hy_5 => exact Or.inl ⟨by rfl, fun w' => neq_run _ (by rfl) (by rfl) (by rfl) w'⟩
              case ha_5 => simp only [Act.put, List.setIfInBounds_toArray, List.set_cons_zero, List.set_cons_succ, i64_w, i32_w]; rfl
              refine pure_ (i := 14) (N := some 99) (v := ?_) (a' := ?_) #[true, true, true, true, true, true, true, true, true, true, true, true, true, true, true] rfl rfl (by kernel_rfl) (fun _ _ _ h => h) (Or.inl ⟨by rfl, ?_⟩) ?_ ?_
              rotate_left
              · intro w'
                go_simp
                with_reducible rfl
              rotate_left
              · simp only [Act.put, List.setIfInBounds_toArray, List.set_cons_zero, List.set_cons_succ, i64_w, i32_w]
                rfl
              refine done_ (by kernel_rfl) ?_
              go_wp2_with fail
              go_roundg (M.length - (j + 1))
              case measure => have := hr2.out; omega
              case rel => exact ⟨j + 1, by first | rfl | (have := HML.out; rw [show wrap64 ((j : Int) + 1) = ((j + 1 : Nat) : Int) from by unfold wrap64; omega]), by rw [HN1.out, HE1.out]; rfl, by have := HML.out; have := HK2.out; have := HT.out; rw [HN2.out, HE2.out]; first | rfl | (rw [show wrap64 ((m : Int) + 1) = ((m + 1 : Nat) : Int) from by unfold wrap64; omega]; rfl), ⟨by omega⟩, ⟨BR2.out.drew⟩⟩
            · have hxl : ql x = false := by rw [HQL.out]; exact decide_eq_false hy
              have hx2 : decide (x.f3 ≤ later) = false := decide_eq_false hy
              have HE2 := Aside0.mk hxl
              clear hxl
              go_wp2_with fail
              go_roundg (M.length - (j + 1))
              case measure => have := hr2.out; omega
              case rel => exact ⟨j + 1, by first | rfl | (have := HML.out; rw [show wrap64 ((j : Int) + 1) = ((j + 1 : Nat) : Int) from by unfold wrap64; omega]), by rw [HN1.out, HE1.out]; rfl, by rw [HN2.out, HE2.out]; rfl, ⟨by omega⟩, BR2⟩
        · have hj1 : decide ((j : Int) < (M.length : Int)) = false := decide_eq_false (by omega)
          have hjl : j = M.length := by have := hr2.out; omega
          rw [filter_all qn M j hjl, filter_all ql M j hjl]
          have e1 : (((M.filter qn).length : Int) == ((M.filter qn).length : Int)) = true := by simp
          have e2 : (((M.filter ql).length : Int) == ((M.filter ql).length : Int)) = true := by simp
          have e3 : decide (((M.filter qn).length : Int) ≤ ((M.filter ql).length : Int)) = true := decide_eq_true (by have := HFF.out; omega)
          have E3 := Aside0.mk e3
          go_wp2_with fail
          go_ret
          exact ⟨by rw [show (decide ((M.filter qn).length ≤ (M.filter ql).length)) = true from decide_eq_true HFF.out]; rfl, below_step B5.out BR2.out⟩
end Go.Proofs.Ytkpaibkkigfahaa.Fl
