/- The document's list of sessions: Of. The document's list of sessions: Put. The document's list of sessions: Drop. The document's list of sessions: Set. -/
import Derived.Test.YtkpaibkkigfahaaRfA
namespace Go.Proofs.Ytkpaibkkigfahaa.Fl
open Go.RowKit Go.Proofs.YtkpaibkkigfahaaW.PrintWords Go.Proofs.YtkpaibkkigfahaaW.PrintLast Go.Proofs.YtkpaibkkigfahaaW.PrintMore Go.Proofs.Ytkpaibkkigfahaa.Bs Go.Proofs.Ytkpaibkkigfahaa.Fr Go.Proofs.Ytkpaibkkigfahaa.Mp Go.Proofs.Ytkpaibkkigfahaa.Srt
open Go.Proofs.Ytkpaibkkigfahaa.PFlowPlays Go.Proofs.Ytkpaibkkigfahaa.FlP
set_option linter.unusedVariables false
set_option linter.unusedSimpArgs false
theorem eql29_run (x0 y0 x1 y1 : Int) {o : Oper} {a : Act} {p q : Operand} {b : Bool} (hb : b = (x0 == y0 && (x1 == y1))) (ho : o.op = .binOp .eql 29 p q 29) (hp : a.eval p = .agg #[.int .u32 x0, .int .i64 x1]) (hq : a.eval q = .agg #[.int .u32 y0, .int .i64 y1]) (w : World) :
    (execOp a.eval o).run Try.prog w = .ok (.value (.bool b)) w := by
  have h := eql29 x0 y0 x1 y1 w
  rw [← hb] at h
  unfold execOp
  simp [ho, hp, hq, h, Result.andThen, eqGuard]
set_option maxHeartbeats 4000000 in
set_option maxRecDepth 100000 in
theorem ROf_calls (w : World) (base g : Nat) (M : List S46) (h : RF w base g M) (hM : M.length ≤ 100000) (p ia ip : Int) :
    Calls Try.prog 65 #[.pointer (some ⟨g, 0, none⟩), .int .i64 p, .agg #[.int .u32 ia, .int .i64 ip]] w fun e w' => ∃ v, e = .returned v ∧ k46.R 46 w' w.heap.size (fun _ => True) v (M.filter (fun f => f.f0 == p && (f.f1.f0 == ia && (f.f1.f1 == ip)))) ∧ Below w.heap.size w w' := by
  obtain ⟨A, c, hcell, hC, _⟩ := h.look
  have HB := Aside0.mk (below_alloc (Below.refl w.heap.size w) (E1 ia ip))
  have HCELL := Aside0.mk (pw_cell_below HB.out hcell)
  have HC := Aside0.mk (Kd.C_below hC HB.out)
  have Z6 := Aside0.mk (blk_new w (E1 ia ip))
  have HML := Aside0.mk hM
  clear hcell hC hM h
  obtain ⟨q, hq⟩ : ∃ q : S46 → Bool, q = fun f => f.f0 == p && (f.f1.f0 == ia && (f.f1.f1 == ip)) := ⟨_, rfl⟩
  have HQ := Aside0.mk hq
  rw [← hq]
  clear hq
  go_enter Try.func65, Try.ntmps65
  go_wp2_with fail
  unfold E1 at HB HCELL HC Z6
  generalize w.alloc (.cells #[.int .u32 ia, .int .i64 ip] 29) = w2 at *
  go_loopg [7, 8] M.length (fun r v7 v8 wr => ∃ (i : Nat), v8 = .int .i64 i ∧ Aside0 (k46.R 46 wr w2.heap.size (fun _ => True) v7 ((M.take i).filter q)) ∧ Aside0 (r + i = M.length) ∧ Aside0 (Below w2.heap.size w2 wr))
  case atStart => exact ⟨0, rfl, ⟨by simpa using Kd.R_nil _ _ _ _ _⟩, ⟨by omega⟩, ⟨Below.refl _ _⟩⟩
  case round =>
    obtain ⟨i, rfl, RR, hr, hb2⟩ := hrel
    have kg : wr.cell? ⟨g, 0, none⟩ = some (.slice A M.length c) := pw_cell_below hb2.out HCELL.out
    by_cases hi : i < M.length
    · have hi1 : decide ((i : Int) < (M.length : Int)) = true := decide_eq_true (by omega)
      have hi2 : (i : Int) < (M.length : Int) := by omega
      have hi3 : (0 : Int) ≤ (i : Int) := by omega
      obtain ⟨ad0, hA0, p0, p1, p2, p3, p4, p5, p6, p7⟩ := at_T46 (Kd.C_below HC.out hb2.out) (i : Int) hi3 hi2
      subst hA0
      rw [Int.toNat_natCast] at p0 p1 p2 p3 p4 p5 p6 p7
      have HG := Aside0.mk (rd_get hi)
      generalize rd_T46 M (i : Int) = x at *
      have HK1 := Aside0.mk (List.length_filter_le q (M.take i))
      have HT := Aside0.mk (List.length_take_le' i M)
      have q0 : wr.cell? ⟨w.heap.size, 0, none⟩ = some (.int .u32 ia) := blk_cell (blk_below Z6.out hb2.out) 0
      have q1 : wr.cell? ⟨w.heap.size, 1, none⟩ = some (.int .i64 ip) := blk_cell (blk_below Z6.out hb2.out) 1
      obtain ⟨bI, hbI⟩ : ∃ b, b = (x.f1.f0 == ia && (x.f1.f1 == ip)) := ⟨_, rfl⟩
      have HBI := Aside0.mk hbI
      clear hbI
      by_cases hx : x.f0 = p
      · have c0 : (x.f0 == p) = true := by simp [hx]
        have HQX : Aside0 (q x = bI) := ⟨by rw [HQ.out]; show (x.f0 == p && (x.f1.f0 == ia && (x.f1.f1 == ip))) = bI; rw [c0, ← HBI.out]; rfl⟩
        subst hx
        go_upto_region 5 with fail
        refine start_ (n := 22) (S := fun w' => w'.cell? ⟨g, 0, none⟩ = some (.slice (some ad0) M.length c) ∧ w'.cell? (ad0.add (i * 8)) = some (.int .i64 x.f0) ∧ w'.cell? ⟨(ad0.add (i * 8)).block, (ad0.add (i * 8)).off + 1, none⟩ = some (.int .u32 x.f1.f0) ∧ w'.cell? ⟨(ad0.add (i * 8)).block, (ad0.add (i * 8)).off + 2, none⟩ = some (.int .i64 x.f1.f1) ∧ w'.cell? ⟨w.heap.size, 0, none⟩ = some (.int .u32 ia) ∧ w'.cell? ⟨w.heap.size, 1, none⟩ = some (.int .i64 ip)) (ds := []) #[false, false, false, false, false, false, false, false, false, false, false, false, false, false, false, false, false, false, false, false, false, false] (by kernel_rfl) rfl rfl ⟨kg, p0, p1, p2, q0, q1⟩ (fun hHeld => ?_)
        refine pure_ (i := 0) (N := some 18) (v := ?_) (a' := ?_) #[true, false, false, false, false, false, false, false, false, false, false, false, false, false, false, false, false, false, false, false, false, false] rfl rfl (by kernel_rfl) (fun _ _ _ h => h) (Or.inl ⟨by rfl, ?_⟩) ?_ ?_
        rotate_left
        · intro w'
          go_simp
          with_reducible rfl
        rotate_left
        · simp only [Act.put, List.setIfInBounds_toArray, List.set_cons_zero, List.set_cons_succ, i64_w, i32_w]
          rfl
        refine pure_ (i := 1) (N := some 19) (v := ?_) (a' := ?_) #[true, true, false, false, false, false, false, false, false, false, false, false, false, false, false, false, false, false, false, false, false, false] rfl rfl (by kernel_rfl) (fun _ _ _ h => h) (Or.inl ⟨by rfl, ?_⟩) ?_ ?_
        rotate_left
        · intro w'
          go_simp
          with_reducible rfl
        rotate_left
        · simp only [Act.put, List.setIfInBounds_toArray, List.set_cons_zero, List.set_cons_succ, i64_w, i32_w]
          rfl
        refine pure_ (i := 2) (N := some 20) (v := ?_) (a' := ?_) #[true, true, true, false, false, false, false, false, false, false, false, false, false, false, false, false, false, false, false, false, false, false] rfl rfl (by kernel_rfl) (fun _ _ _ h => h) (Or.inl ⟨by rfl, ?_⟩) ?_ ?_
        rotate_left
        · intro w'
          go_simp
          with_reducible rfl
        rotate_left
        · simp only [Act.put, List.setIfInBounds_toArray, List.set_cons_zero, List.set_cons_succ, i64_w, i32_w]
          rfl
        refine pure_ (i := 4) (N := some 22) (v := ?_) (a' := ?_) #[true, true, true, false, true, false, false, false, false, false, false, false, false, false, false, false, false, false, false, false, false, false] rfl rfl (by kernel_rfl) (fun _ _ _ h => h) (Or.inl ⟨by rfl, ?_⟩) ?_ ?_
        rotate_left
        · intro w'
          go_simp
          with_reducible rfl
        rotate_left
        · simp only [Act.put, List.setIfInBounds_toArray, List.set_cons_zero, List.set_cons_succ, i64_w, i32_w]
          rfl
        refine pure_ (i := 8) (N := some 26) (v := ?_) (a' := ?_) #[true, true, true, false, true, false, false, false, true, false, false, false, false, false, false, false, false, false, false, false, false, false] rfl rfl (by kernel_rfl) (fun _ _ _ h => h) (Or.inl ⟨by rfl, ?_⟩) ?_ ?_
        rotate_left
        · intro w'
          go_simp
          with_reducible rfl
        rotate_left
        · simp only [Act.put, List.setIfInBounds_toArray, List.set_cons_zero, List.set_cons_succ, i64_w, i32_w]
          rfl
        refine take_ (i := 3) (N := some 21) (v := ?_) (a' := ?_) #[true, true, true, true, true, false, false, false, true, false, false, false, false, false, false, false, false, false, false, false, false, false] rfl rfl (by kernel_rfl) (fun _ _ _ h => h) (Or.inl ⟨by rfl, ?_⟩) hHeld ?_ ?_
        rotate_left
        · rintro w' ⟨s0, s1, s2, s3, s4, s5⟩
          go_simp
          with_reducible rfl
        rotate_left
        · simp only [Act.put, List.setIfInBounds_toArray, List.set_cons_zero, List.set_cons_succ, i64_w, i32_w]
          rfl
        refine pure_ (i := 5) (N := some 23) (v := ?_) (a' := ?_) #[true, true, true, true, true, true, false, false, true, false, false, false, false, false, false, false, false, false, false, false, false, false] rfl rfl (by kernel_rfl) (fun _ _ _ h => h) (Or.inl ⟨by rfl, ?_⟩) ?_ ?_
        rotate_left
        · intro w'
          go_simp
          with_reducible rfl
        rotate_left
        · simp only [Act.put, List.setIfInBounds_toArray, List.set_cons_zero, List.set_cons_succ, i64_w, i32_w]
          rfl
        refine pure_ (i := 6) (N := some 24) (v := ?_) (a' := ?_) #[true, true, true, true, true, true, true, false, true, false, false, false, false, false, false, false, false, false, false, false, false, false] rfl rfl (by kernel_rfl) (fun _ _ _ h => h) (Or.inl ⟨by rfl, ?_⟩) ?_ ?_
        rotate_left
        · intro w'
          go_simp
          with_reducible rfl
        rotate_left
        · simp only [Act.put, List.setIfInBounds_toArray, List.set_cons_zero, List.set_cons_succ, i64_w, i32_w]
          rfl
        refine take_ (i := 7) (N := some 25) (v := ?_) (a' := ?_) #[true, true, true, true, true, true, true, true, true, false, false, false, false, false, false, false, false, false, false, false, false, false] rfl rfl (by kernel_rfl) (fun _ _ _ h => h) (Or.inl ⟨by rfl, ?_⟩) hHeld ?_ ?_
        rotate_left
        · rintro w' ⟨s0, s1, s2, s3, s4, s5⟩
          go_simp
          with_reducible rfl
        rotate_left
        · simp only [Act.put, List.setIfInBounds_toArray, List.set_cons_zero, List.set_cons_succ, i64_w, i32_w]
          rfl
        refine pure_ (i := 9) (N := some 27) (v := ?_) (a' := ?_) #[true, true, true, true, true, true, true, true, true, true, false, false, false, false, false, false, false, false, false, false, false, false] rfl rfl (by kernel_rfl) (fun _ _ _ h => h) (Or.inl ⟨by rfl, ?_⟩) ?_ ?_
        rotate_left
        · intro w'
          go_simp
          with_reducible rfl
        rotate_left
        · simp only [Act.put, List.setIfInBounds_toArray, List.set_cons_zero, List.set_cons_succ, i64_w, i32_w]
          rfl
        refine pure_ (i := 10) (N := some 28) (v := ?_) (a' := ?_) #[true, true, true, true, true, true, true, true, true, true, true, false, false, false, false, false, false, false, false, false, false, false] rfl rfl (by kernel_rfl) (fun _ _ _ h => h) (Or.inl ⟨by rfl, ?_⟩) ?_ ?_
        rotate_left
        · intro w'
          go_simp
          with_reducible rfl
        rotate_left
        · simp only [Act.put, List.setIfInBounds_toArray, List.set_cons_zero, List.set_cons_succ, i64_w, i32_w]
          rfl
        refine pure_ (i := 11) (N := some 29) (v := ?_) (a' := ?_) #[true, true, true, true, true, true, true, true, true, true, true, true, false, false, false, false, false, false, false, false, false, false] rfl rfl (by kernel_rfl) (fun _ _ _ h => h) (Or.inl ⟨by rfl, ?_⟩) ?_ ?_
        rotate_left
        · intro w'
          go_simp
          with_reducible rfl
        rotate_left
        · simp only [Act.put, List.setIfInBounds_toArray, List.set_cons_zero, List.set_cons_succ, i64_w, i32_w]
          rfl
        refine pure_ (i := 12) (N := some 30) (v := ?_) (a' := ?_) #[true, true, true, true, true, true, true, true, true, true, true, true, true, false, false, false, false, false, false, false, false, false] rfl rfl (by kernel_rfl) (fun _ _ _ h => h) (Or.inl ⟨by rfl, ?_⟩) ?_ ?_
        rotate_left
        · intro w'
          go_simp
          with_reducible rfl
        rotate_left
        · simp only [Act.put, List.setIfInBounds_toArray, List.set_cons_zero, List.set_cons_succ, i64_w, i32_w]
          rfl
        refine pure_ (i := 13) (N := some 31) (v := ?_) (a' := ?_) #[true, true, true, true, true, true, true, true, true, true, true, true, true, true, false, false, false, false, false, false, false, false] rfl rfl (by kernel_rfl) (fun _ _ _ h => h) (Or.inl ⟨by rfl, ?_⟩) ?_ ?_
        rotate_left
        · intro w'
          go_simp
          with_reducible rfl
        rotate_left
        · simp only [Act.put, List.setIfInBounds_toArray, List.set_cons_zero, List.set_cons_succ, i64_w, i32_w]
          rfl
        refine pure_ (i := 15) (N := some 33) (v := ?_) (a' := ?_) #[true, true, true, true, true, true, true, true, true, true, true, true, true, true, false, true, false, false, false, false, false, false] rfl rfl (by kernel_rfl) (fun _ _ _ h => h) (Or.inl ⟨by rfl, ?_⟩) ?_ ?_
        rotate_left
        · intro w'
          go_simp
          with_reducible rfl
        rotate_left
        · simp only [Act.put, List.setIfInBounds_toArray, List.set_cons_zero, List.set_cons_succ, i64_w, i32_w]
          rfl
        refine take_ (i := 14) (N := some 32) (v := ?_) (a' := ?_) #[true, true, true, true, true, true, true, true, true, true, true, true, true, true, true, true, false, false, false, false, false, false] rfl rfl (by kernel_rfl) (fun _ _ _ h => h) (Or.inl ⟨by rfl, ?_⟩) hHeld ?_ ?_
        rotate_left
        · rintro w' ⟨s0, s1, s2, s3, s4, s5⟩
          go_simp
          with_reducible rfl
        rotate_left
        · simp only [Act.put, List.setIfInBounds_toArray, List.set_cons_zero, List.set_cons_succ, i64_w, i32_w]
          rfl
        refine pure_ (i := 16) (N := some 34) (v := ?_) (a' := ?_) #[true, true, true, true, true, true, true, true, true, true, true, true, true, true, true, true, true, false, false, false, false, false] rfl rfl (by kernel_rfl) (fun _ _ _ h => h) (Or.inl ⟨by rfl, ?_⟩) ?_ ?_
        rotate_left
        · intro w'
          go_simp
          with_reducible rfl
        rotate_left
        · simp only [Act.put, List.setIfInBounds_toArray, List.set_cons_zero, List.set_cons_succ, i64_w, i32_w]
          rfl
        refine pure_ (i := 17) (N := some 35) (v := ?_) (a' := ?_) #[true, true, true, true, true, true, true, true, true, true, true, true, true, true, true, true, true, true, false, false, false, false] rfl rfl (by kernel_rfl) (fun _ _ _ h => h) (Or.inl ⟨by rfl, ?_⟩) ?_ ?_
        rotate_left
        · intro w'
          go_simp
          with_reducible rfl
        rotate_left
        · simp only [Act.put, List.setIfInBounds_toArray, List.set_cons_zero, List.set_cons_succ, i64_w, i32_w]
          rfl
        refine take_ (i := 18) (N := some 36) (v := ?_) (a' := ?_) #[true, true, true, true, true, true, true, true, true, true, true, true, true, true, true, true, true, true, true, false, false, false] rfl rfl (by kernel_rfl) (fun _ _ _ h => h) (Or.inl ⟨by rfl, ?_⟩) hHeld ?_ ?_
        rotate_left
        · rintro w' ⟨s0, s1, s2, s3, s4, s5⟩
          go_simp
          with_reducible rfl
        rotate_left
        · simp only [Act.put, List.setIfInBounds_toArray, List.set_cons_zero, List.set_cons_succ, i64_w, i32_w]
          rfl
        refine take_ (i := 19) (N := some 37) (v := ?_) (a' := ?_) #[true, true, true, true, true, true, true, true, true, true, true, true, true, true, true, true, true, true, true, true, false, false] rfl rfl (by kernel_rfl) (fun _ _ _ h => h) (Or.inl ⟨by rfl, ?_⟩) hHeld ?_ ?_
        rotate_left
        · rintro w' ⟨s0, s1, s2, s3, s4, s5⟩
          go_simp
          with_reducible rfl
        rotate_left
        · simp only [Act.put, List.setIfInBounds_toArray, List.set_cons_zero, List.set_cons_succ, i64_w, i32_w]
          rfl
        refine pure_ (i := 20) (N := some 38) (v := (.bool bI)) (a' := ?aa_1) #[true, true, true, true, true, true, true, true, true, true, true, true, true, true, true, true, true, true, true, true, true, false] rfl rfl (by kernel_rfl) (fun _ _ _ h => h) ?hy_1 ?ha_1 ?h_1
        case hy_1 => exact Or.inl ⟨by rfl, fun w' => eql29_run _ _ _ _ HBI.out (by rfl) (by rfl) (by rfl) w'⟩
        case ha_1 => simp only [Act.put, List.setIfInBounds_toArray, List.set_cons_zero, List.set_cons_succ, i64_w, i32_w]; rfl
        refine pure_ (i := 21) (N := some 39) (v := ?_) (a' := ?_) #[true, true, true, true, true, true, true, true, true, true, true, true, true, true, true, true, true, true, true, true, true, true] rfl rfl (by kernel_rfl) (fun _ _ _ h => h) (Or.inl ⟨by rfl, ?_⟩) ?_ ?_
        rotate_left
        · intro w'
          go_simp
          with_reducible rfl
        rotate_left
        · simp only [Act.put, List.setIfInBounds_toArray, List.set_cons_zero, List.set_cons_succ, i64_w, i32_w]
          rfl
        refine done_ (by kernel_rfl) ?_
        clear q0 q1
        have RRd : Aside0 (k46.R 46 wr.drew w2.heap.size (fun _ => True) _ ((M.take i).filter q)) := ⟨RR.out⟩
        cases bI with
        | true =>
          have HN1 := Aside0.mk (filter_snoc q M i x HG.out HQX.out)
          go_wp2_with ((with_reducible refine gate_builtin (b := .append) (xs := #[.tmp 40, .tmp 48]) rfl ?_); at_builtin; refine Kd.R_append k46 (w0 := w2) w2.heap.size rfl (.tmp 40) (.tmp 48) 41 46 (.agg #[.int .i64 0, .int .u32 0, .int .i64 0, .int .u32 0, .int .i64 0, .int .i64 0, .int .i64 0, .int .i64 0]) 64 rfl Try.underlying41 info46 rfl (by decide) (by decide) _ ((M.take i).filter q) x (encF x) (fun _ => True) (fun _ => False) rfl rfl (k46_mkM _ _ _ _) (fun _ hk => hk.elim) (fun _ _ => trivial) RRd.out hb2.out.drew hb2.out.drew.size (by have := HML.out; have := HK1.out; have := HT.out; omega) ?_; intro v9 w9 hr9 hb9 hg9 hat9; rw [← HN1.out] at hr9; have R9 := Aside0.mk hr9; have B9 := Aside0.mk hb9; clear hr9 hb9 hg9 hat9)
          go_roundg (M.length - (i + 1))
          case measure => have := hr.out; omega
          case rel => exact ⟨i + 1, by first | rfl | (have := HML.out; rw [show wrap64 ((i : Int) + 1) = ((i + 1 : Nat) : Int) from by unfold wrap64; omega]), R9, ⟨by omega⟩, B9⟩
        | false =>
          have HN1 := Aside0.mk (filter_same q M i x HG.out HQX.out)
          go_wp2_with fail
          go_roundg (M.length - (i + 1))
          case measure => have := hr.out; omega
          case rel => exact ⟨i + 1, by first | rfl | (have := HML.out; rw [show wrap64 ((i : Int) + 1) = ((i + 1 : Nat) : Int) from by unfold wrap64; omega]), ⟨by rw [HN1.out]; exact RR.out⟩, ⟨by omega⟩, ⟨hb2.out.drew⟩⟩
      · have c0 : (x.f0 == p) = false := beq_eq_false_iff_ne.mpr hx
        have HQX : Aside0 (q x = false) := ⟨by rw [HQ.out]; show (x.f0 == p && (x.f1.f0 == ia && (x.f1.f1 == ip))) = false; rw [c0]; rfl⟩
        clear hx
        have HN1 := Aside0.mk (filter_same q M i x HG.out HQX.out)
        go_upto_region 5 with fail
        refine start_ (n := 22) (S := fun w' => w'.cell? ⟨g, 0, none⟩ = some (.slice (some ad0) M.length c) ∧ w'.cell? (ad0.add (i * 8)) = some (.int .i64 x.f0) ∧ w'.cell? ⟨(ad0.add (i * 8)).block, (ad0.add (i * 8)).off + 1, none⟩ = some (.int .u32 x.f1.f0) ∧ w'.cell? ⟨(ad0.add (i * 8)).block, (ad0.add (i * 8)).off + 2, none⟩ = some (.int .i64 x.f1.f1) ∧ w'.cell? ⟨w.heap.size, 0, none⟩ = some (.int .u32 ia) ∧ w'.cell? ⟨w.heap.size, 1, none⟩ = some (.int .i64 ip)) (ds := []) #[false, false, false, false, false, false, false, false, false, false, false, false, false, false, false, false, false, false, false, false, false, false] (by kernel_rfl) rfl rfl ⟨kg, p0, p1, p2, q0, q1⟩ (fun hHeld => ?_)
        refine pure_ (i := 0) (N := some 18) (v := ?_) (a' := ?_) #[true, false, false, false, false, false, false, false, false, false, false, false, false, false, false, false, false, false, false, false, false, false] rfl rfl (by kernel_rfl) (fun _ _ _ h => h) (Or.inl ⟨by rfl, ?_⟩) ?_ ?_
        rotate_left
        · intro w'
          go_simp
          with_reducible rfl
        rotate_left
        · simp only [Act.put, List.setIfInBounds_toArray, List.set_cons_zero, List.set_cons_succ, i64_w, i32_w]
          rfl
        refine pure_ (i := 1) (N := some 19) (v := ?_) (a' := ?_) #[true, true, false, false, false, false, false, false, false, false, false, false, false, false, false, false, false, false, false, false, false, false] rfl rfl (by kernel_rfl) (fun _ _ _ h => h) (Or.inl ⟨by rfl, ?_⟩) ?_ ?_
        rotate_left
        · intro w'
          go_simp
          with_reducible rfl
        rotate_left
        · simp only [Act.put, List.setIfInBounds_toArray, List.set_cons_zero, List.set_cons_succ, i64_w, i32_w]
          rfl
        refine pure_ (i := 2) (N := some 20) (v := ?_) (a' := ?_) #[true, true, true, false, false, false, false, false, false, false, false, false, false, false, false, false, false, false, false, false, false, false] rfl rfl (by kernel_rfl) (fun _ _ _ h => h) (Or.inl ⟨by rfl, ?_⟩) ?_ ?_
        rotate_left
        · intro w'
          go_simp
          with_reducible rfl
        rotate_left
        · simp only [Act.put, List.setIfInBounds_toArray, List.set_cons_zero, List.set_cons_succ, i64_w, i32_w]
          rfl
        refine pure_ (i := 4) (N := some 22) (v := ?_) (a' := ?_) #[true, true, true, false, true, false, false, false, false, false, false, false, false, false, false, false, false, false, false, false, false, false] rfl rfl (by kernel_rfl) (fun _ _ _ h => h) (Or.inl ⟨by rfl, ?_⟩) ?_ ?_
        rotate_left
        · intro w'
          go_simp
          with_reducible rfl
        rotate_left
        · simp only [Act.put, List.setIfInBounds_toArray, List.set_cons_zero, List.set_cons_succ, i64_w, i32_w]
          rfl
        refine pure_ (i := 8) (N := some 26) (v := ?_) (a' := ?_) #[true, true, true, false, true, false, false, false, true, false, false, false, false, false, false, false, false, false, false, false, false, false] rfl rfl (by kernel_rfl) (fun _ _ _ h => h) (Or.inl ⟨by rfl, ?_⟩) ?_ ?_
        rotate_left
        · intro w'
          go_simp
          with_reducible rfl
        rotate_left
        · simp only [Act.put, List.setIfInBounds_toArray, List.set_cons_zero, List.set_cons_succ, i64_w, i32_w]
          rfl
        refine take_ (i := 3) (N := some 21) (v := ?_) (a' := ?_) #[true, true, true, true, true, false, false, false, true, false, false, false, false, false, false, false, false, false, false, false, false, false] rfl rfl (by kernel_rfl) (fun _ _ _ h => h) (Or.inl ⟨by rfl, ?_⟩) hHeld ?_ ?_
        rotate_left
        · rintro w' ⟨s0, s1, s2, s3, s4, s5⟩
          go_simp
          with_reducible rfl
        rotate_left
        · simp only [Act.put, List.setIfInBounds_toArray, List.set_cons_zero, List.set_cons_succ, i64_w, i32_w]
          rfl
        refine pure_ (i := 5) (N := some 23) (v := ?_) (a' := ?_) #[true, true, true, true, true, true, false, false, true, false, false, false, false, false, false, false, false, false, false, false, false, false] rfl rfl (by kernel_rfl) (fun _ _ _ h => h) (Or.inl ⟨by rfl, ?_⟩) ?_ ?_
        rotate_left
        · intro w'
          go_simp
          with_reducible rfl
        rotate_left
        · simp only [Act.put, List.setIfInBounds_toArray, List.set_cons_zero, List.set_cons_succ, i64_w, i32_w]
          rfl
        refine pure_ (i := 6) (N := some 24) (v := ?_) (a' := ?_) #[true, true, true, true, true, true, true, false, true, false, false, false, false, false, false, false, false, false, false, false, false, false] rfl rfl (by kernel_rfl) (fun _ _ _ h => h) (Or.inl ⟨by rfl, ?_⟩) ?_ ?_
        rotate_left
        · intro w'
          go_simp
          with_reducible rfl
        rotate_left
        · simp only [Act.put, List.setIfInBounds_toArray, List.set_cons_zero, List.set_cons_succ, i64_w, i32_w]
          rfl
        refine take_ (i := 7) (N := some 25) (v := ?_) (a' := ?_) #[true, true, true, true, true, true, true, true, true, false, false, false, false, false, false, false, false, false, false, false, false, false] rfl rfl (by kernel_rfl) (fun _ _ _ h => h) (Or.inl ⟨by rfl, ?_⟩) hHeld ?_ ?_
        rotate_left
        · rintro w' ⟨s0, s1, s2, s3, s4, s5⟩
          go_simp
          with_reducible rfl
        rotate_left
        · simp only [Act.put, List.setIfInBounds_toArray, List.set_cons_zero, List.set_cons_succ, i64_w, i32_w]
          rfl
        refine pure_ (i := 9) (N := some 27) (v := ?_) (a' := ?_) #[true, true, true, true, true, true, true, true, true, true, false, false, false, false, false, false, false, false, false, false, false, false] rfl rfl (by kernel_rfl) (fun _ _ _ h => h) (Or.inl ⟨by rfl, ?_⟩) ?_ ?_
        rotate_left
        · intro w'
          go_simp
          with_reducible rfl
        rotate_left
        · simp only [Act.put, List.setIfInBounds_toArray, List.set_cons_zero, List.set_cons_succ, i64_w, i32_w]
          rfl
        refine pure_ (i := 10) (N := some 28) (v := ?_) (a' := ?_) #[true, true, true, true, true, true, true, true, true, true, true, false, false, false, false, false, false, false, false, false, false, false] rfl rfl (by kernel_rfl) (fun _ _ _ h => h) (Or.inl ⟨by rfl, ?_⟩) ?_ ?_
        rotate_left
        · intro w'
          go_simp
          with_reducible rfl
        rotate_left
        · simp only [Act.put, List.setIfInBounds_toArray, List.set_cons_zero, List.set_cons_succ, i64_w, i32_w]
          rfl
        refine pure_ (i := 11) (N := some 29) (v := undef) (a' := ?_) #[true, true, true, true, true, true, true, true, true, true, true, true, false, false, false, false, false, false, false, false, false, false] rfl rfl (by kernel_rfl) (fun _ _ _ h => h) (Or.inr ⟨by rfl, rfl⟩) ?_ ?_
        rotate_left
        · simp only [Act.put, List.setIfInBounds_toArray, List.set_cons_zero, List.set_cons_succ, i64_w, i32_w]
          rfl
        refine pure_ (i := 12) (N := some 30) (v := undef) (a' := ?_) #[true, true, true, true, true, true, true, true, true, true, true, true, true, false, false, false, false, false, false, false, false, false] rfl rfl (by kernel_rfl) (fun _ _ _ h => h) (Or.inr ⟨by rfl, rfl⟩) ?_ ?_
        rotate_left
        · simp only [Act.put, List.setIfInBounds_toArray, List.set_cons_zero, List.set_cons_succ, i64_w, i32_w]
          rfl
        refine pure_ (i := 13) (N := some 31) (v := undef) (a' := ?_) #[true, true, true, true, true, true, true, true, true, true, true, true, true, true, false, false, false, false, false, false, false, false] rfl rfl (by kernel_rfl) (fun _ _ _ h => h) (Or.inr ⟨by rfl, rfl⟩) ?_ ?_
        rotate_left
        · simp only [Act.put, List.setIfInBounds_toArray, List.set_cons_zero, List.set_cons_succ, i64_w, i32_w]
          rfl
        refine pure_ (i := 14) (N := some 32) (v := undef) (a' := ?_) #[true, true, true, true, true, true, true, true, true, true, true, true, true, true, true, false, false, false, false, false, false, false] rfl rfl (by kernel_rfl) (fun _ _ _ h => h) (Or.inr ⟨by rfl, rfl⟩) ?_ ?_
        rotate_left
        · simp only [Act.put, List.setIfInBounds_toArray, List.set_cons_zero, List.set_cons_succ, i64_w, i32_w]
          rfl
        refine pure_ (i := 15) (N := some 33) (v := undef) (a' := ?_) #[true, true, true, true, true, true, true, true, true, true, true, true, true, true, true, true, false, false, false, false, false, false] rfl rfl (by kernel_rfl) (fun _ _ _ h => h) (Or.inr ⟨by rfl, rfl⟩) ?_ ?_
        rotate_left
        · simp only [Act.put, List.setIfInBounds_toArray, List.set_cons_zero, List.set_cons_succ, i64_w, i32_w]
          rfl
        refine pure_ (i := 16) (N := some 34) (v := undef) (a' := ?_) #[true, true, true, true, true, true, true, true, true, true, true, true, true, true, true, true, true, false, false, false, false, false] rfl rfl (by kernel_rfl) (fun _ _ _ h => h) (Or.inr ⟨by rfl, rfl⟩) ?_ ?_
        rotate_left
        · simp only [Act.put, List.setIfInBounds_toArray, List.set_cons_zero, List.set_cons_succ, i64_w, i32_w]
          rfl
        refine pure_ (i := 17) (N := some 35) (v := undef) (a' := ?_) #[true, true, true, true, true, true, true, true, true, true, true, true, true, true, true, true, true, true, false, false, false, false] rfl rfl (by kernel_rfl) (fun _ _ _ h => h) (Or.inr ⟨by rfl, rfl⟩) ?_ ?_
        rotate_left
        · simp only [Act.put, List.setIfInBounds_toArray, List.set_cons_zero, List.set_cons_succ, i64_w, i32_w]
          rfl
        refine pure_ (i := 18) (N := some 36) (v := undef) (a' := ?_) #[true, true, true, true, true, true, true, true, true, true, true, true, true, true, true, true, true, true, true, false, false, false] rfl rfl (by kernel_rfl) (fun _ _ _ h => h) (Or.inr ⟨by rfl, rfl⟩) ?_ ?_
        rotate_left
        · simp only [Act.put, List.setIfInBounds_toArray, List.set_cons_zero, List.set_cons_succ, i64_w, i32_w]
          rfl
        refine pure_ (i := 19) (N := some 37) (v := undef) (a' := ?_) #[true, true, true, true, true, true, true, true, true, true, true, true, true, true, true, true, true, true, true, true, false, false] rfl rfl (by kernel_rfl) (fun _ _ _ h => h) (Or.inr ⟨by rfl, rfl⟩) ?_ ?_
        rotate_left
        · simp only [Act.put, List.setIfInBounds_toArray, List.set_cons_zero, List.set_cons_succ, i64_w, i32_w]
          rfl
        refine pure_ (i := 20) (N := some 38) (v := undef) (a' := ?_) #[true, true, true, true, true, true, true, true, true, true, true, true, true, true, true, true, true, true, true, true, true, false] rfl rfl (by kernel_rfl) (fun _ _ _ h => h) (Or.inr ⟨by rfl, rfl⟩) ?_ ?_
        rotate_left
        · simp only [Act.put, List.setIfInBounds_toArray, List.set_cons_zero, List.set_cons_succ, i64_w, i32_w]
          rfl
        refine pure_ (i := 21) (N := some 39) (v := ?_) (a' := ?_) #[true, true, true, true, true, true, true, true, true, true, true, true, true, true, true, true, true, true, true, true, true, true] rfl rfl (by kernel_rfl) (fun _ _ _ h => h) (Or.inl ⟨by rfl, ?_⟩) ?_ ?_
        rotate_left
        · intro w'
          go_simp
          with_reducible rfl
        rotate_left
        · simp only [Act.put, List.setIfInBounds_toArray, List.set_cons_zero, List.set_cons_succ, i64_w, i32_w]
          rfl
        refine done_ (by kernel_rfl) ?_
        go_wp2_with fail
        go_roundg (M.length - (i + 1))
        case measure => have := hr.out; omega
        case rel => exact ⟨i + 1, by first | rfl | (have := HML.out; rw [show wrap64 ((i : Int) + 1) = ((i + 1 : Nat) : Int) from by unfold wrap64; omega]), ⟨by rw [HN1.out]; exact RR.out⟩, ⟨by omega⟩, ⟨hb2.out.drew⟩⟩
    · have hi1 : decide ((i : Int) < (M.length : Int)) = false := decide_eq_false (by omega)
      have hil : i = M.length := by have := hr.out; omega
      have hR := RR.out
      rw [filter_all q M i hil] at hR
      have HR := Aside0.mk hR
      clear hil hR RR
      go_wp2_with fail
      go_ret
      exact ⟨_, rfl, Kd.R_lower HR.out HB.out.size, below_step HB.out hb2.out⟩
end Go.Proofs.Ytkpaibkkigfahaa.Fl
namespace Go.Proofs.Ytkpaibkkigfahaa.Fl
open Go.RowKit Go.Proofs.YtkpaibkkigfahaaW.PrintWords Go.Proofs.YtkpaibkkigfahaaW.PrintLast Go.Proofs.YtkpaibkkigfahaaW.PrintMore Go.Proofs.Ytkpaibkkigfahaa.Bs Go.Proofs.Ytkpaibkkigfahaa.Fr Go.Proofs.Ytkpaibkkigfahaa.Mp Go.Proofs.Ytkpaibkkigfahaa.Srt
open Go.Proofs.Ytkpaibkkigfahaa.PFlowPlays Go.Proofs.Ytkpaibkkigfahaa.FlP
set_option linter.unusedVariables false
set_option linter.unusedSimpArgs false
theorem RCheck_calls (f : S46) (w : World) : Calls Try.prog 33 #[valF f] w fun e w' => e = .returned (.int .i64 (chk f)) ∧ Below w.heap.size w w' := bailiwickref18_CheckFlow.calls _ _ _ _ _ _ _ _ _ w (checkF_f f)
theorem KM46 {w w' : World} {base : Nat} {ok : Nat → Prop} {x : S46} {cs : List Value} (h : k46.K w x cs) : k46.M w' base ok x cs := by obtain rfl := k46_open h; exact k46_mkM _ _ _ _
/-- Of a list only its own block and its row were written, beside what is new. -/
def RFr (w w' : World) (g : Nat) : Prop := ∃ F : Nat → Prop, Fr w w' F ∧ ∀ k, F k → k = g ∨ ∃ v, w.heap[g]? = some (.cells #[v] 57 (0, 0)) ∧ own v k
theorem RFr.no {w w' : World} {g : Nat} (h : Below w.heap.size w w') : RFr w w' g := ⟨fun _ => False, Fr.of_below h _, fun _ h => h.elim⟩
theorem RFr.below {w w' : World} {base g : Nat} {M : List S46} (h : RF w base g M) (k : RFr w w' g) (hB : base ≤ w.heap.size) : Below base w w' := by
  obtain ⟨F, hf, hs⟩ := k
  obtain ⟨v', hv', hr, _⟩ := h.row
  refine hf.to hB (fun k hk => ?_)
  rcases hs k hk with rfl | ⟨v, hv, ho⟩
  · exact h.ge
  · rw [hv'] at hv
    injection hv with hv
    injection hv with hv
    injection hv with hv
    injection hv with hv
    subst hv
    exact R_ge hr ho
theorem RFr.blk {w w' : World} {g q : Nat} {o : Obj} {v : Value} (k : RFr w w' g) (hq : w.heap[q]? = some o) (hne : q ≠ g) (hv : w.heap[g]? = some (.cells #[v] 57 (0, 0))) (hn : ¬ own v q) : w'.heap[q]? = some o := by
  obtain ⟨F, hf, hs⟩ := k
  refine hf.blk hq (fun hF => ?_)
  rcases hs q hF with h | ⟨v', hv', ho⟩
  · exact hne h
  · rw [hv] at hv'
    injection hv' with hv'
    injection hv' with hv'
    injection hv' with hv'
    injection hv' with hv'
    subst hv'
    exact hn ho
theorem RF.mark {w : World} {base g : Nat} {M : List S46} (h : RF w base g M) : ∃ v, w.heap[g]? = some (.cells #[v] 57 (0, 0)) ∧ ∀ q, w.heap.size ≤ q → ¬ own v q := by
  obtain ⟨v, hv, hr, _⟩ := h.row
  exact ⟨v, hv, fun q hq ho => by have := R_lt' hr ho; omega⟩
set_option maxHeartbeats 4000000 in
set_option maxRecDepth 100000 in
theorem RPut_calls (w : World) (base g : Nat) (M : List S46) (h : RF w base g M) (hM : M.length ≤ 10000) (hs : Srt M) (f : S46) (hbase : base ≤ w.heap.size) :
    Calls Try.prog 28 #[.pointer (some ⟨g, 0, none⟩), valF f] w fun e w' => e = .returned (.int .i64 (layE M f false 10)) ∧ RF w' base g (layM M f false) ∧ RFr w w' g := by
  have B1 := Aside0.mk (below_alloc (Below.refl w.heap.size w) (BX f))
  have H1 := Aside0.mk (h.below B1.out)
  have X1 := Aside0.mk (blk_new w (BX f))
  have HML := Aside0.mk hM
  have HPH := Aside0.mk (place_has (k := keyF f) hs)
  have HBA := Aside0.mk hbase
  have HCK := Aside0.mk (RCheck_calls f (w.alloc (BX f)))
  have HLE : Aside0 (layE M f false 10 = if chk f = 0 then (if hasM M (keyF f) = false then 0 else 10) else 1) := ⟨rfl⟩
  have HLM : Aside0 (layM M f false = if chk f = 0 ∧ hasM M (keyF f) = false then upM M f else M) := ⟨rfl⟩
  clear h hM hs hbase
  unfold valF BX at HCK
  unfold BX at B1 H1 X1
  unfold valF
  go_enter Try.func28, Try.ntmps28
  go_wp2_with fail
  refine HCK.out.mono ?_
  rintro e w2 ⟨rfl, hb2⟩
  have B2 := Aside0.mk (below_step B1.out hb2)
  have H2 := Aside0.mk (H1.out.below hb2)
  have X2 := Aside0.mk (blk_below X1.out hb2)
  clear hb2
  rcases chk_cases f with hc | hc
  · rw [hc]
    have HC := Aside0.mk hc
    clear hc
    have c0 : w2.cell? ⟨w.heap.size, 0, none⟩ = some (.int .i64 f.f0) := blk_cell X2.out 0
    have c1 : w2.cell? ⟨w.heap.size, 1, none⟩ = some (.int .u32 f.f1.f0) := blk_cell X2.out 1
    have c2 : w2.cell? ⟨w.heap.size, 2, none⟩ = some (.int .i64 f.f1.f1) := blk_cell X2.out 2
    have c3 : w2.cell? ⟨w.heap.size, 3, none⟩ = some (.int .u32 f.f2.f0) := blk_cell X2.out 3
    have c4 : w2.cell? ⟨w.heap.size, 4, none⟩ = some (.int .i64 f.f2.f1) := blk_cell X2.out 4
    go_wp2_with fail
    refine (place_calls _ base g M H2.out (Nat.le_trans HML.out (by decide)) f.f0 f.f1.f0 f.f1.f1 f.f2.f0 f.f2.f1).mono ?_
    rintro e w3 ⟨rfl, hb3⟩
    have B3 := Aside0.mk (below_step B2.out hb3)
    have H3 := Aside0.mk (H2.out.below hb3)
    have X3 := Aside0.mk (blk_below X2.out hb3)
    clear hb3 c0 c1 c2 c3 c4
    have hh := HPH.out
    have hins := place_ins f M
    have hle := place_le (keyF f) M
    rw [show (f.f0, f.f1.f0, f.f1.f1, f.f2.f0, f.f2.f1) = keyF f from rfl]
    generalize hi : (placeM (keyF f) M).1 = i at *
    generalize hbb : (placeM (keyF f) M).2 = b at *
    have HH := Aside0.mk hh
    have HINS := Aside0.mk hins
    have HIL := Aside0.mk hle
    clear hh hins hi hbb hle
    cases b with
    | true =>
      go_wp2_with fail
      go_ret
      exact ⟨by rw [HLE.out, HC.out, ← HH.out.1]; rfl, by rw [HLM.out, if_neg (by rw [← HH.out.1]; simp)]; exact H3.out, RFr.no B3.out⟩
    | false =>
      obtain ⟨v, hg, hr, hne⟩ := H3.out.row
      obtain ⟨A, c, rfl⟩ := len_row hr
      have HCC := Aside0.mk (Kd.R_reads' hr)
      have kg : w3.cell? ⟨g, 0, none⟩ = some (.slice A M.length c) := blk_cell hg 0
      have HG := Aside0.mk hg
      clear hg hr hne
      have hil2 : (i : Int) ≤ (M.length : Int) := by have := HIL.out; omega
      have hlc : M.length ≤ c := HCC.out.2.1
      have hic : i ≤ c := by have := HIL.out; omega
      have KG := Aside0.mk kg
      have HTK : Aside0 (k46.C w3 A i (M.take i)) := ⟨by have h_ := Kd.C_take HCC.out.2.2 HIL.out; rw [List.length_take, Nat.min_eq_left HIL.out] at h_; exact h_⟩
      have HDR : ∀ W, Below w3.heap.size w3 W → k46.C W (if c = i then A else A.map (·.add (i * 8))) (M.length - i) (M.drop i) := fun W hW => Kd.C_below (by have h_ := Kd.C_drop (c := c) HCC.out.2.2 HIL.out hlc; rw [List.length_drop] at h_; exact h_) hW
      go_wp2_with (first
        | ((with_reducible refine gate_builtin (b := .append) (xs := #[.tmp 26, .tmp 32]) rfl ?_); at_builtin; refine Kd.R_append_rows k46 (Rr := k46.K w3) (w0 := w3) w3.heap.size rfl (.tmp 26) (.tmp 32) 41 46 (.agg #[.int .i64 0, .int .u32 0, .int .i64 0, .int .u32 0, .int .i64 0, .int .i64 0, .int .i64 0, .int .i64 0]) 64 rfl Try.underlying41 info46 rfl (by decide) (by decide) (.slice none 0 0) [] (M.take i) A i c (fun _ => True) (fun _ => False) rfl rfl (Kd.R_nil _ _ _ _ _) HTK.out (fun x cs hK => KM46 hK) (fun _ hk => hk.elim) (fun _ _ => trivial) (Below.refl _ _) (Nat.le_refl _) (by have := HML.out; have := HIL.out; simp; omega) ?_; intro v5 w5 ho hb hg9 hat; rw [List.nil_append] at ho; have R5 := Aside0.mk ho; have B5 := Aside0.mk hb; have X5 := Aside0.mk (blk_below X3.out hb); have c0 : w5.cell? ⟨w.heap.size, 0, none⟩ = some (.int .i64 f.f0) := blk_cell X5.out 0; have c1 : w5.cell? ⟨w.heap.size, 1, none⟩ = some (.int .u32 f.f1.f0) := blk_cell X5.out 1; have c2 : w5.cell? ⟨w.heap.size, 2, none⟩ = some (.int .i64 f.f1.f1) := blk_cell X5.out 2; have c3 : w5.cell? ⟨w.heap.size, 3, none⟩ = some (.int .u32 f.f2.f0) := blk_cell X5.out 3; have c4 : w5.cell? ⟨w.heap.size, 4, none⟩ = some (.int .i64 f.f2.f1) := blk_cell X5.out 4; have c5 : w5.cell? ⟨w.heap.size, 5, none⟩ = some (.int .i64 f.f3) := blk_cell X5.out 5; have c6 : w5.cell? ⟨w.heap.size, 6, none⟩ = some (.int .i64 f.f4) := blk_cell X5.out 6; have c7 : w5.cell? ⟨w.heap.size, 7, none⟩ = some (.int .i64 f.f5) := blk_cell X5.out 7; have kg5 : w5.cell? ⟨g, 0, none⟩ = some (.slice A M.length c) := pw_cell_below hb KG.out; clear ho hb hg9 hat kg)
        | ((with_reducible refine gate_builtin (b := .append) (xs := #[.tmp 34, .tmp 36]) rfl ?_); at_builtin; refine Kd.R_append k46 (w0 := w3) w3.heap.size rfl (.tmp 34) (.tmp 36) 41 46 (.agg #[.int .i64 0, .int .u32 0, .int .i64 0, .int .u32 0, .int .i64 0, .int .i64 0, .int .i64 0, .int .i64 0]) 64 rfl Try.underlying41 info46 rfl (by decide) (by decide) _ (M.take i) f (encF f) (fun _ => True) (fun _ => False) rfl rfl (k46_mkM _ _ _ _) (fun _ hk => hk.elim) (fun _ _ => trivial) R5.out B5.out B5.out.size (by have := HML.out; have := HIL.out; rw [List.length_take]; omega) ?_; intro v6 w6 hr6 hb6 hg6 hat6; have R6 := Aside0.mk hr6; have B6 := Aside0.mk hb6; have kg6 : w6.cell? ⟨g, 0, none⟩ = some (.slice A M.length c) := pw_cell_below hb6 KG.out; clear hr6 hb6 hg6 hat6 kg5 c0 c1 c2 c3 c4 c5 c6 c7)
        | ((with_reducible refine gate_builtin (b := .append) (xs := #[.tmp 39, .tmp 45]) rfl ?_); at_builtin; refine Kd.R_append_rows k46 (Rr := k46.K w6) (w0 := w3) w3.heap.size rfl (.tmp 39) (.tmp 45) 41 46 (.agg #[.int .i64 0, .int .u32 0, .int .i64 0, .int .u32 0, .int .i64 0, .int .i64 0, .int .i64 0, .int .i64 0]) 64 rfl Try.underlying41 info46 rfl (by decide) (by decide) v6 (M.take i ++ [f]) (M.drop i) (if c = i then A else A.map (·.add (i * 8))) (M.length - i) (c - i) (fun _ => True) (fun _ => False) rfl rfl R6.out (HDR w6 B6.out) (fun x cs hK => KM46 hK) (fun _ hk => hk.elim) (fun _ _ => trivial) B6.out B6.out.size (by have := HML.out; have := HIL.out; simp; omega) ?_; intro v7 w7 hr7 hb7 hg7 hat7; obtain ⟨A7, c7, hv7⟩ := Kd.R_slice hr7; obtain ⟨n7, hn7⟩ : ∃ n7, n7 = (M.take i ++ [f] ++ M.drop i).length := ⟨_, rfl⟩; rw [← hn7] at hv7; subst hv7; clear hn7; have R7 := Aside0.mk hr7; have B7 := Aside0.mk hb7; have kg7 : w7.cell? ⟨g, 0, none⟩ = some (.slice A M.length c) := pw_cell_below hb7 KG.out; have fg7 : w7.frozen? ⟨g, 0, none⟩ = false := blk_frozen (blk_below HG.out hb7) 0; clear hr7 hb7 hg7 hat7 kg6))
      all_goals
        go_ret
        have hgl : g < w3.heap.size := blk_lt HG.out
        have hup : layM M f false = M.take i ++ [f] ++ M.drop i := by
          rw [HLM.out, if_pos ⟨HC.out, HH.out.1.symm⟩]
          unfold upM
          rw [has_del HH.out.1.symm, ← HINS.out]
          simp
        refine ⟨by rw [HLE.out, HC.out, ← HH.out.1]; rfl, ?_, ?_⟩
        · rw [hup]
          exact ⟨⟨_, blk_put (blk_below HG.out B7.out) 0 _ rfl, Kd.R_lower (R_fr R7.out rfl (Fr.set (F := fun k => k = g) (Fr.refl w7 _) (.inl rfl) _) (fun k hk he => by have := R_ge R7.out hk; omega)) (by have := H3.out.ge; omega), fun k hk he => by have := R_ge R7.out hk; omega⟩, H3.out.ge⟩
        · exact ⟨fun k => k = g, (Fr.of_below (below_step B3.out B7.out) (fun k => k = g)).set (.inl rfl) _, fun _ h => .inl h⟩
  · rw [hc]
    have HC := Aside0.mk hc
    clear hc
    go_wp2_with fail
    go_ret
    exact ⟨by rw [HLE.out, HC.out]; rfl, by rw [HLM.out, if_neg (by rw [HC.out]; rintro ⟨h, _⟩; omega)]; exact H2.out, RFr.no B2.out⟩
end Go.Proofs.Ytkpaibkkigfahaa.Fl
namespace Go.Proofs.Ytkpaibkkigfahaa.Fl
open Go.RowKit Go.Proofs.YtkpaibkkigfahaaW.PrintWords Go.Proofs.YtkpaibkkigfahaaW.PrintLast Go.Proofs.YtkpaibkkigfahaaW.PrintMore Go.Proofs.Ytkpaibkkigfahaa.Bs Go.Proofs.Ytkpaibkkigfahaa.Fr Go.Proofs.Ytkpaibkkigfahaa.Mp Go.Proofs.Ytkpaibkkigfahaa.Srt
open Go.Proofs.Ytkpaibkkigfahaa.PFlowPlays Go.Proofs.Ytkpaibkkigfahaa.FlP
set_option linter.unusedVariables false
set_option linter.unusedSimpArgs false
set_option maxHeartbeats 4000000 in
set_option maxRecDepth 100000 in
theorem RDrop_calls (w : World) (base g : Nat) (M : List S46) (h : RF w base g M) (hM : M.length ≤ 10000) (hs : Srt M) (p ia ip fa fp : Int) (hbase : base ≤ w.heap.size) :
    Calls Try.prog 31 #[.pointer (some ⟨g, 0, none⟩), .int .i64 p, .agg #[.int .u32 ia, .int .i64 ip], .agg #[.int .u32 fa, .int .i64 fp]] w fun e w' => e = .returned (.bool (hasM M (p, ia, ip, fa, fp))) ∧ RF w' base g (delM M (p, ia, ip, fa, fp)) ∧ RFr w w' g := by
  have B1 := Aside0.mk (((Below.refl w.heap.size w).alloc (Nat.le_refl _) (E1 ia ip)).alloc (by simp) (E1 fa fp))
  have H1 := Aside0.mk (h.below B1.out)
  have HML := Aside0.mk hM
  have HPH := Aside0.mk (place_has (k := (p, ia, ip, fa, fp)) hs)
  have HDEL := Aside0.mk (fun hh => place_del (k := (p, ia, ip, fa, fp)) hs hh)
  have HBA := Aside0.mk hbase
  have HPL := Aside0.mk (place_calls _ base g M H1.out (Nat.le_trans hM (by decide)) p ia ip fa fp)
  clear h hM hs hbase
  go_enter Try.func31, Try.ntmps31
  go_wp2_with fail
  refine HPL.out.mono ?_
  rintro e w3 ⟨rfl, hb3⟩
  have B3 := Aside0.mk (below_step B1.out hb3)
  have H3 := Aside0.mk (H1.out.below hb3)
  clear hb3 HPL B1 H1
  have hh := HPH.out
  have hle := place_le (p, ia, ip, fa, fp) M
  have hdel := HDEL.out
  generalize hi : (placeM (p, ia, ip, fa, fp) M).1 = i at *
  generalize hbb : (placeM (p, ia, ip, fa, fp) M).2 = b at *
  have HH := Aside0.mk hh
  have HDL := Aside0.mk hdel
  clear hh hi hbb hle hdel HPH HDEL
  cases b with
  | false =>
    go_wp2_with fail
    go_ret
    exact ⟨by rw [← HH.out.1]; rfl, by rw [has_del HH.out.1.symm]; exact H3.out, RFr.no B3.out⟩
  | true =>
    obtain ⟨y, hy⟩ := has_get HH.out.1.symm
    have hget := HH.out.2 HH.out.1.symm
    rw [hy] at hget
    have HIL := Aside0.mk (List.getElem?_eq_some_iff.1 hget).1
    clear hget hy
    obtain ⟨v, hg, hr, hne⟩ := H3.out.row
    obtain ⟨A, c, rfl⟩ := len_row hr
    have HCC := Aside0.mk (Kd.R_reads' hr)
    have kg : w3.cell? ⟨g, 0, none⟩ = some (.slice A M.length c) := blk_cell hg 0
    have HG := Aside0.mk hg
    clear hg hr hne
    have hil2 : (i : Int) < (M.length : Int) := by have := HIL.out; omega
    have hml : M.length ≤ 10000 := HML.out
    have hlc : M.length ≤ c := HCC.out.2.1
    have hic : i + 1 ≤ c := by have := HIL.out; omega
    have KG := Aside0.mk kg
    have HTK : Aside0 (k46.C w3 A i (M.take i)) := ⟨by have h_ := Kd.C_take HCC.out.2.2 (Nat.le_of_lt HIL.out); rw [List.length_take, Nat.min_eq_left (Nat.le_of_lt HIL.out)] at h_; exact h_⟩
    have HDR : ∀ W, Below w3.heap.size w3 W → k46.C W (if c = i + 1 then A else A.map (·.add ((i + 1) * 8))) (M.length - (i + 1)) (M.drop (i + 1)) := fun W hW => Kd.C_below (by have h_ := Kd.C_drop (c := c) HCC.out.2.2 HIL.out hlc; rw [List.length_drop] at h_; exact h_) hW
    go_wp2_with (first
      | ((with_reducible refine gate_builtin (b := .append) (xs := #[.tmp 21, .tmp 27]) rfl ?_); at_builtin; refine Kd.R_append_rows k46 (Rr := k46.K w3) (w0 := w3) w3.heap.size rfl (.tmp 21) (.tmp 27) 41 46 (.agg #[.int .i64 0, .int .u32 0, .int .i64 0, .int .u32 0, .int .i64 0, .int .i64 0, .int .i64 0, .int .i64 0]) 64 rfl Try.underlying41 info46 rfl (by decide) (by decide) (.slice none 0 0) [] (M.take i) A i c (fun _ => True) (fun _ => False) rfl rfl (Kd.R_nil _ _ _ _ _) HTK.out (fun x cs hK => KM46 hK) (fun _ hk => hk.elim) (fun _ _ => trivial) (Below.refl _ _) (Nat.le_refl _) (by have := HML.out; have := HIL.out; simp; omega) ?_; intro v5 w5 ho hb hg9 hat; rw [List.nil_append] at ho; have R5 := Aside0.mk ho; have B5 := Aside0.mk hb; have kg5 : w5.cell? ⟨g, 0, none⟩ = some (.slice A M.length c) := pw_cell_below hb KG.out; clear ho hb hg9 hat kg)
      | ((with_reducible refine gate_builtin (b := .append) (xs := #[.tmp 30, .tmp 37]) rfl ?_); at_builtin; refine Kd.R_append_rows k46 (Rr := k46.K w5) (w0 := w3) w3.heap.size rfl (.tmp 30) (.tmp 37) 41 46 (.agg #[.int .i64 0, .int .u32 0, .int .i64 0, .int .u32 0, .int .i64 0, .int .i64 0, .int .i64 0, .int .i64 0]) 64 rfl Try.underlying41 info46 rfl (by decide) (by decide) v5 (M.take i) (M.drop (i + 1)) (if c = i + 1 then A else A.map (·.add ((i + 1) * 8))) (M.length - (i + 1)) (c - (i + 1)) (fun _ => True) (fun _ => False) rfl rfl R5.out (HDR w5 B5.out) (fun x cs hK => KM46 hK) (fun _ hk => hk.elim) (fun _ _ => trivial) B5.out B5.out.size (by have := HML.out; have := HIL.out; simp; omega) ?_; intro v7 w7 hr7 hb7 hg7 hat7; obtain ⟨A7, c7, hv7⟩ := Kd.R_slice hr7; obtain ⟨n7, hn7⟩ : ∃ n7, n7 = (M.take i ++ M.drop (i + 1)).length := ⟨_, rfl⟩; rw [← hn7] at hv7; subst hv7; clear hn7; have R7 := Aside0.mk hr7; have B7 := Aside0.mk hb7; have kg7 : w7.cell? ⟨g, 0, none⟩ = some (.slice A M.length c) := pw_cell_below hb7 KG.out; have fg7 : w7.frozen? ⟨g, 0, none⟩ = false := blk_frozen (blk_below HG.out hb7) 0; clear hr7 hb7 hg7 hat7 kg5))
    all_goals
      go_ret
      have hgl : g < w3.heap.size := blk_lt HG.out
      refine ⟨by rw [← HH.out.1]; rfl, ?_, ?_⟩
      · rw [← HDL.out HH.out.1.symm]
        exact ⟨⟨_, blk_put (blk_below HG.out B7.out) 0 _ rfl, Kd.R_lower (R_fr R7.out rfl (Fr.set (F := fun k => k = g) (Fr.refl w7 _) (.inl rfl) _) (fun k hk he => by have := R_ge R7.out hk; omega)) (by have := H3.out.ge; omega), fun k hk he => by have := R_ge R7.out hk; omega⟩, H3.out.ge⟩
      · exact ⟨fun k => k = g, (Fr.of_below (below_step B3.out B7.out) (fun k => k = g)).set (.inl rfl) _, fun _ h => .inl h⟩
end Go.Proofs.Ytkpaibkkigfahaa.Fl
namespace Go.Proofs.Ytkpaibkkigfahaa.Fl
open Go.RowKit Go.Proofs.YtkpaibkkigfahaaW.PrintWords Go.Proofs.YtkpaibkkigfahaaW.PrintLast Go.Proofs.YtkpaibkkigfahaaW.PrintMore Go.Proofs.Ytkpaibkkigfahaa.Bs Go.Proofs.Ytkpaibkkigfahaa.Fr Go.Proofs.Ytkpaibkkigfahaa.Mp Go.Proofs.Ytkpaibkkigfahaa.Srt
open Go.Proofs.Ytkpaibkkigfahaa.PFlowPlays Go.Proofs.Ytkpaibkkigfahaa.FlP
set_option linter.unusedVariables false
set_option linter.unusedSimpArgs false
/-- An element of a row is written whole. -/
theorem set_row {w : World} {base r i c : Nat} {M : List S46} (h : k46.R 46 w base (fun _ => True) (.slice (some ⟨r, 0, none⟩) M.length c) M) (hi : i < M.length) (f : S46) :
    w.there r (i * 8) 8 ∧ k46.R 46 (w.setCells r (i * 8) (encF f)) base (fun _ => True) (.slice (some ⟨r, 0, none⟩) M.length c) (M.set i f) := by
  obtain ⟨cl, hcl, hM, hc, hf⟩ := Kd.R_elem h z46 i (by omega) (by omega)
  have hS := (Kd.R_seg (okp := fun _ => False) h (i : Int) (by omega) (by omega) (c := cl) (seg := encF f) (j := 0) hcl (fun j u hj => hc j u hj) (by show 0 + 8 ≤ 8; omega) (x' := f) (by
    have : cl.take 0 ++ encF f ++ cl.drop (0 + (encF f).length) = encF f := by
      rw [List.take_zero, List.nil_append, List.drop_of_length_le (by rw [hcl]; show 8 ≤ 0 + 8; omega), List.append_nil]
    rw [this]
    exact k46_mkM _ _ _ _) (fun _ hk => hk.elim)).1
  refine ⟨fun j hj => ⟨?_, hf _⟩, by simp only [Int.toNat_natCast, Nat.add_zero] at hS; exact hS⟩
  have hj2 : j < cl.length := by rw [hcl]; exact hj
  have := hc j _ (List.getElem?_eq_getElem hj2)
  have h8 : w.cell? ⟨r, i * 8 + j, none⟩ = some cl[j] := this
  rw [h8]
  rfl
set_option maxHeartbeats 4000000 in
set_option maxRecDepth 100000 in
theorem RSet_calls (w : World) (base g : Nat) (M : List S46) (h : RF w base g M) (hM : M.length ≤ 10000) (hs : Srt M) (f : S46) (hbase : base ≤ w.heap.size) :
    Calls Try.prog 30 #[.pointer (some ⟨g, 0, none⟩), valF f] w fun e w' => e = .returned (.int .i64 (layE M f true 9)) ∧ RF w' base g (layM M f true) ∧ RFr w w' g := by
  have B1 := Aside0.mk (below_alloc (Below.refl w.heap.size w) (BX f))
  have H1 := Aside0.mk (h.below B1.out)
  have X1 := Aside0.mk (blk_new w (BX f))
  have HML := Aside0.mk hM
  have HPH := Aside0.mk (place_has (k := keyF f) hs)
  have HBA := Aside0.mk hbase
  have HGL := Aside0.mk h.lt
  have HPS := Aside0.mk (fun hh => place_set (f := f) hs hh)
  have HCK := Aside0.mk (RCheck_calls f (w.alloc (BX f)))
  have HLE : Aside0 (layE M f true 9 = if chk f = 0 then (if hasM M (keyF f) = true then 0 else 9) else 1) := ⟨rfl⟩
  have HLM : Aside0 (layM M f true = if chk f = 0 ∧ hasM M (keyF f) = true then upM M f else M) := ⟨rfl⟩
  clear h hM hs hbase
  unfold valF BX at HCK
  unfold BX at B1 H1 X1
  unfold valF
  go_enter Try.func30, Try.ntmps30
  go_wp2_with fail
  refine HCK.out.mono ?_
  rintro e w2 ⟨rfl, hb2⟩
  have B2 := Aside0.mk (below_step B1.out hb2)
  have H2 := Aside0.mk (H1.out.below hb2)
  have X2 := Aside0.mk (blk_below X1.out hb2)
  clear hb2
  rcases chk_cases f with hc | hc
  · rw [hc]
    have HC := Aside0.mk hc
    clear hc
    have c0 : w2.cell? ⟨w.heap.size, 0, none⟩ = some (.int .i64 f.f0) := blk_cell X2.out 0
    have c1 : w2.cell? ⟨w.heap.size, 1, none⟩ = some (.int .u32 f.f1.f0) := blk_cell X2.out 1
    have c2 : w2.cell? ⟨w.heap.size, 2, none⟩ = some (.int .i64 f.f1.f1) := blk_cell X2.out 2
    have c3 : w2.cell? ⟨w.heap.size, 3, none⟩ = some (.int .u32 f.f2.f0) := blk_cell X2.out 3
    have c4 : w2.cell? ⟨w.heap.size, 4, none⟩ = some (.int .i64 f.f2.f1) := blk_cell X2.out 4
    go_wp2_with fail
    refine (place_calls _ base g M H2.out (Nat.le_trans HML.out (by decide)) f.f0 f.f1.f0 f.f1.f1 f.f2.f0 f.f2.f1).mono ?_
    rintro e w3 ⟨rfl, hb3⟩
    have B3 := Aside0.mk (below_step B2.out hb3)
    have H3 := Aside0.mk (H2.out.below hb3)
    have X3 := Aside0.mk (blk_below X2.out hb3)
    clear hb3 c0 c1 c2 c3 c4
    have hh := HPH.out
    have hins := HPS.out
    have hle := place_le (keyF f) M
    rw [show (f.f0, f.f1.f0, f.f1.f1, f.f2.f0, f.f2.f1) = keyF f from rfl]
    generalize hi : (placeM (keyF f) M).1 = i at *
    generalize hbb : (placeM (keyF f) M).2 = b at *
    have HH := Aside0.mk hh
    have HINS := Aside0.mk hins
    have HIL := Aside0.mk hle
    clear hh hins hi hbb hle HPS
    cases b with
    | false =>
      go_wp2_with fail
      go_ret
      exact ⟨by rw [HLE.out, HC.out, ← HH.out.1]; rfl, by rw [HLM.out, if_neg (by rw [← HH.out.1]; simp)]; exact H3.out, RFr.no B3.out⟩
    | true =>
      obtain ⟨y, hy⟩ := has_get HH.out.1.symm
      have hget := HH.out.2 HH.out.1.symm
      rw [hy] at hget
      have HIL := Aside0.mk (List.getElem?_eq_some_iff.1 hget).1
      clear hget hy
      obtain ⟨v, hg, hr, hne⟩ := H3.out.row
      obtain ⟨r, c, cur, rfl, hrb, _, _, _, _, _⟩ := pod_cells pod46 hr (by have := HIL.out; omega)
      have HR := Aside0.mk hr
      have HRB := Aside0.mk hrb
      have HNE := Aside0.mk (hne r rfl)
      have HSR := Aside0.mk (set_row (w := w3.drew) (Kd.R_drew hr) HIL.out f)
      have HG := Aside0.mk hg
      have kg : w3.drew.cell? ⟨g, 0, none⟩ = some (.slice (some ⟨r, 0, none⟩) M.length c) := blk_cell hg 0
      clear hg hr hne hrb
      have hil2 : (i : Int) < (M.length : Int) := by have := HIL.out; omega
      have hi3 : (0 : Int) ≤ (i : Int) := by omega
      have hml : M.length ≤ 10000 := HML.out
      have c0 : w3.drew.cell? ⟨w.heap.size, 0, none⟩ = some (.int .i64 f.f0) := blk_cell X3.out 0
      have c1 : w3.drew.cell? ⟨w.heap.size, 1, none⟩ = some (.int .u32 f.f1.f0) := blk_cell X3.out 1
      have c2 : w3.drew.cell? ⟨w.heap.size, 2, none⟩ = some (.int .i64 f.f1.f1) := blk_cell X3.out 2
      have c3 : w3.drew.cell? ⟨w.heap.size, 3, none⟩ = some (.int .u32 f.f2.f0) := blk_cell X3.out 3
      have c4 : w3.drew.cell? ⟨w.heap.size, 4, none⟩ = some (.int .i64 f.f2.f1) := blk_cell X3.out 4
      have c5 : w3.drew.cell? ⟨w.heap.size, 5, none⟩ = some (.int .i64 f.f3) := blk_cell X3.out 5
      have c6 : w3.drew.cell? ⟨w.heap.size, 6, none⟩ = some (.int .i64 f.f4) := blk_cell X3.out 6
      have c7 : w3.drew.cell? ⟨w.heap.size, 7, none⟩ = some (.int .i64 f.f5) := blk_cell X3.out 7
      go_upto_region 7 with fail
      refine start_ (n := 8) (S := fun w' => w'.cell? ⟨g, 0, none⟩ = some (.slice (some ⟨r, 0, none⟩) M.length c) ∧ w'.cell? ⟨w.heap.size, 0, none⟩ = some (.int .i64 f.f0) ∧ w'.cell? ⟨w.heap.size, 1, none⟩ = some (.int .u32 f.f1.f0) ∧ w'.cell? ⟨w.heap.size, 2, none⟩ = some (.int .i64 f.f1.f1) ∧ w'.cell? ⟨w.heap.size, 3, none⟩ = some (.int .u32 f.f2.f0) ∧ w'.cell? ⟨w.heap.size, 4, none⟩ = some (.int .i64 f.f2.f1) ∧ w'.cell? ⟨w.heap.size, 5, none⟩ = some (.int .i64 f.f3) ∧ w'.cell? ⟨w.heap.size, 6, none⟩ = some (.int .i64 f.f4) ∧ w'.cell? ⟨w.heap.size, 7, none⟩ = some (.int .i64 f.f5)) (ds := [7]) #[false, false, false, false, false, false, false, false] (by kernel_rfl) rfl rfl ⟨kg, c0, c1, c2, c3, c4, c5, c6, c7⟩ (fun hHeld => ?_)
      refine pure_ (i := 0) (N := some 26) (v := ?_) (a' := ?_) #[true, false, false, false, false, false, false, false] rfl rfl (by kernel_rfl) (fun _ _ _ h => h) (Or.inl ⟨by rfl, ?_⟩) ?_ ?_
      rotate_left
      · intro w'
        go_simp
        with_reducible rfl
      rotate_left
      · simp only [Act.put, List.setIfInBounds_toArray, List.set_cons_zero, List.set_cons_succ, i64_w, i32_w]
        rfl
      refine pure_ (i := 1) (N := some 27) (v := ?_) (a' := ?_) #[true, true, false, false, false, false, false, false] rfl rfl (by kernel_rfl) (fun _ _ _ h => h) (Or.inl ⟨by rfl, ?_⟩) ?_ ?_
      rotate_left
      · intro w'
        go_simp
        with_reducible rfl
      rotate_left
      · simp only [Act.put, List.setIfInBounds_toArray, List.set_cons_zero, List.set_cons_succ, i64_w, i32_w]
        rfl
      refine pure_ (i := 2) (N := some 28) (v := ?_) (a' := ?_) #[true, true, true, false, false, false, false, false] rfl rfl (by kernel_rfl) (fun _ _ _ h => h) (Or.inl ⟨by rfl, ?_⟩) ?_ ?_
      rotate_left
      · intro w'
        go_simp
        with_reducible rfl
      rotate_left
      · simp only [Act.put, List.setIfInBounds_toArray, List.set_cons_zero, List.set_cons_succ, i64_w, i32_w]
        rfl
      refine pure_ (i := 4) (N := some 30) (v := ?_) (a' := ?_) #[true, true, true, false, true, false, false, false] rfl rfl (by kernel_rfl) (fun _ _ _ h => h) (Or.inl ⟨by rfl, ?_⟩) ?_ ?_
      rotate_left
      · intro w'
        go_simp
        with_reducible rfl
      rotate_left
      · simp only [Act.put, List.setIfInBounds_toArray, List.set_cons_zero, List.set_cons_succ, i64_w, i32_w]
        rfl
      refine take_ (i := 3) (N := some 29) (v := ?_) (a' := ?_) #[true, true, true, true, true, false, false, false] rfl rfl (by kernel_rfl) (fun _ _ _ h => h) (Or.inl ⟨by rfl, ?_⟩) hHeld ?_ ?_
      rotate_left
      · rintro w' ⟨s0, s1, s2, s3, s4, s5, s6, s7, s8⟩
        go_simp
        with_reducible rfl
      rotate_left
      · simp only [Act.put, List.setIfInBounds_toArray, List.set_cons_zero, List.set_cons_succ, i64_w, i32_w]
        rfl
      refine take_ (i := 5) (N := some 31) (v := ?_) (a' := ?_) #[true, true, true, true, true, true, false, false] rfl rfl (by kernel_rfl) (fun _ _ _ h => h) (Or.inl ⟨by rfl, ?_⟩) hHeld ?_ ?_
      rotate_left
      · rintro w' ⟨s0, s1, s2, s3, s4, s5, s6, s7, s8⟩
        go_simp
        with_reducible rfl
      rotate_left
      · simp only [Act.put, List.setIfInBounds_toArray, List.set_cons_zero, List.set_cons_succ, i64_w, i32_w]
        rfl
      refine pure_ (i := 6) (N := some 32) (v := ?_) (a' := ?_) #[true, true, true, true, true, true, true, false] rfl rfl (by kernel_rfl) (fun _ _ _ h => h) (Or.inl ⟨by rfl, ?_⟩) ?_ ?_
      rotate_left
      · intro w'
        go_simp
        with_reducible rfl
      rotate_left
      · simp only [Act.put, List.setIfInBounds_toArray, List.set_cons_zero, List.set_cons_succ, i64_w, i32_w]
        rfl
      refine last_ (i := 7) (N := none) #[true, true, true, true, true, true, true, true] rfl rfl (by kernel_rfl) (by decide) (fun K hK => ?_)
      refine skip_ (w1 := w3.drew.setCells r (i * 8) (encF f)) (by rfl) rfl ?_ ?_
      · exact run_store_mid 46 (.tmp 32) (.tmp 31) rfl r (i * 8) (encF f).toArray (by go_simp) rfl HSR.out.1 info46s (all_oneCell_toArray (fun v hv => pod46.one f v hv))
      refine hK.out _ _ ?_
      clear hK K
      refine done_ (by kernel_rfl) ?_
      go_wp2_with fail
      go_ret
      have hup : layM M f true = M.set i f := by
        rw [HLM.out, if_pos ⟨HC.out, HH.out.1.symm⟩, HINS.out HH.out.1.symm]
      have hfr := Fr.setCells (w := w3) (w1 := w3.drew) (F := fun k => k = r) ((Fr.refl w3 _).drew) (.inl rfl) (i * 8) (encF f)
      refine ⟨by rw [HLE.out, HC.out, ← HH.out.1]; rfl, ?_, ?_⟩
      · rw [hup]
        exact ⟨⟨_, hfr.blk HG.out (fun he => HNE.out he.symm), (by have h_ := HSR.out.2; rw [show M.length = (M.set i f).length by simp] at h_; simpa using h_), fun k hk he => by have hk2 : some r = some k := hk; injection hk2 with hk2; exact HNE.out (by rw [hk2, he])⟩, H3.out.ge⟩
      · exact ⟨fun k => k = r, (Fr.of_below B3.out (fun k => k = r)).trans hfr (fun k hk => .inl hk), fun k hk => .inr ⟨_, by rw [← B3.out.block g HGL.out]; exact HG.out, by rw [hk]; rfl⟩⟩
  · rw [hc]
    have HC := Aside0.mk hc
    clear hc
    go_wp2_with fail
    go_ret
    exact ⟨by rw [HLE.out, HC.out]; rfl, by rw [HLM.out, if_neg (by rw [HC.out]; rintro ⟨h, _⟩; omega)]; exact H2.out, RFr.no B2.out⟩
end Go.Proofs.Ytkpaibkkigfahaa.Fl
