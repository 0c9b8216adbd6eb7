/- Two lists of sessions that are one are told the same. -/
import Derived.Test.YtkpaibkkigfahaaFl8
namespace Go.Proofs.Ytkpaibkkigfahaa.Fl
open Go.RowKit Go.Proofs.YtkpaibkkigfahaaW.PrintWords Go.Proofs.YtkpaibkkigfahaaW.PrintLast Go.Proofs.YtkpaibkkigfahaaW.PrintMore Go.Proofs.Ytkpaibkkigfahaa.Bs Go.Proofs.Ytkpaibkkigfahaa.Fr Go.Proofs.Ytkpaibkkigfahaa.Mp Go.Proofs.Ytkpaibkkigfahaa.Srt
open Go.Proofs.Ytkpaibkkigfahaa.PFlowPlays Go.Proofs.Ytkpaibkkigfahaa.FlP
set_option linter.unusedVariables false
set_option linter.unusedSimpArgs false

theorem neq46 (x : S46) (w : World) : (binOp BinOp.neq 46 (.agg #[.int .i64 x.f0, .int .u32 x.f1.f0, .int .i64 x.f1.f1, .int .u32 x.f2.f0, .int .i64 x.f2.f1, .int .i64 x.f3, .int .i64 x.f4, .int .i64 x.f5]) (.agg #[.int .i64 x.f0, .int .u32 x.f1.f0, .int .i64 x.f1.f1, .int .u32 x.f2.f0, .int .i64 x.f2.f1, .int .i64 x.f3, .int .i64 x.f4, .int .i64 x.f5])).run Try.prog w = .ok (.bool false) w := by
  rw [run_neq_struct, show (10000 : Nat) = 9997 + 3 from rfl, eqA46]
  simp [Result.andThen]
theorem neq_run (x : S46) {o : Oper} {a : Act} {p q : Operand} (ho : o.op = .binOp .neq 46 p q 46) (hp : a.eval p = .agg #[.int .i64 x.f0, .int .u32 x.f1.f0, .int .i64 x.f1.f1, .int .u32 x.f2.f0, .int .i64 x.f2.f1, .int .i64 x.f3, .int .i64 x.f4, .int .i64 x.f5]) (hq : a.eval q = .agg #[.int .i64 x.f0, .int .u32 x.f1.f0, .int .i64 x.f1.f1, .int .u32 x.f2.f0, .int .i64 x.f2.f1, .int .i64 x.f3, .int .i64 x.f4, .int .i64 x.f5]) (w : World) :
    (execOp a.eval o).run Try.prog w = .ok (.value (.bool false)) w := by
  have h := neq46 x w
  unfold execOp
  simp [ho, hp, hq, h, Result.andThen, eqGuard]
set_option maxHeartbeats 2000000 in
set_option maxRecDepth 100000 in
theorem same_calls (w : World) (A0 A1 : Option Addr) (c0 c1 : Nat) (l : List S46) (hl : l.length ≤ 1000000) (h0 : k46.C w A0 l.length l) (h1 : k46.C w A1 l.length l) :
    Calls Try.prog 25 #[.slice A0 l.length c0, .slice A1 l.length c1] w fun e w' => e = .returned (.bool true) ∧ Below w.heap.size w w' := by
  have H0 := Aside0.mk h0
  have H1 := Aside0.mk h1
  have HL := Aside0.mk hl
  have hne : ((l.length : Int) != (l.length : Int)) = false := by simp
  clear h0 h1 hl
  go_enter Try.func25, Try.ntmps25
  go_wp2_with fail
  clear hne
  go_loopg [5] l.length (fun r v5 wr => ∃ (i : Nat), v5 = .int .i64 i ∧ Aside0 (r + i = l.length) ∧ Aside0 (Below w.heap.size w wr))
  case atStart => exact ⟨0, rfl, ⟨by omega⟩, ⟨Below.refl _ _⟩⟩
  case round =>
    obtain ⟨i, rfl, hr, hb⟩ := hrel
    by_cases hi : i < l.length
    · have hi1 : decide ((i : Int) < (l.length : Int)) = true := decide_eq_true (by omega)
      have hi2 : (i : Int) < (l.length : Int) := by omega
      have hi3 : (0 : Int) ≤ (i : Int) := by omega
      obtain ⟨ad0, hA0, p0, p1, p2, p3, p4, p5, p6, p7⟩ := at_T46 (Kd.C_below H0.out hb.out) (i : Int) hi3 hi2
      obtain ⟨ad1, hA1, q0, q1, q2, q3, q4, q5, q6, q7⟩ := at_T46 (Kd.C_below H1.out hb.out) (i : Int) hi3 hi2
      subst hA0
      subst hA1
      rw [Int.toNat_natCast] at p0 p1 p2 p3 p4 p5 p6 p7 q0 q1 q2 q3 q4 q5 q6 q7
      generalize rd_T46 l (i : Int) = x at *
      go_upto_region 6 with fail
      refine start_ (n := 9) (S := fun w' => w'.cell? (ad0.add (i * 8)) = some (.int .i64 x.f0) ∧ w'.cell? ⟨(ad0.add (i * 8)).block, (ad0.add (i * 8)).off + 1, none⟩ = some (.int .u32 x.f1.f0) ∧ w'.cell? ⟨(ad0.add (i * 8)).block, (ad0.add (i * 8)).off + 2, none⟩ = some (.int .i64 x.f1.f1) ∧ w'.cell? ⟨(ad0.add (i * 8)).block, (ad0.add (i * 8)).off + 3, none⟩ = some (.int .u32 x.f2.f0) ∧ w'.cell? ⟨(ad0.add (i * 8)).block, (ad0.add (i * 8)).off + 4, none⟩ = some (.int .i64 x.f2.f1) ∧ w'.cell? ⟨(ad0.add (i * 8)).block, (ad0.add (i * 8)).off + 5, none⟩ = some (.int .i64 x.f3) ∧ w'.cell? ⟨(ad0.add (i * 8)).block, (ad0.add (i * 8)).off + 6, none⟩ = some (.int .i64 x.f4) ∧ w'.cell? ⟨(ad0.add (i * 8)).block, (ad0.add (i * 8)).off + 7, none⟩ = some (.int .i64 x.f5) ∧ w'.cell? (ad1.add (i * 8)) = some (.int .i64 x.f0) ∧ w'.cell? ⟨(ad1.add (i * 8)).block, (ad1.add (i * 8)).off + 1, none⟩ = some (.int .u32 x.f1.f0) ∧ w'.cell? ⟨(ad1.add (i * 8)).block, (ad1.add (i * 8)).off + 2, none⟩ = some (.int .i64 x.f1.f1) ∧ w'.cell? ⟨(ad1.add (i * 8)).block, (ad1.add (i * 8)).off + 3, none⟩ = some (.int .u32 x.f2.f0) ∧ w'.cell? ⟨(ad1.add (i * 8)).block, (ad1.add (i * 8)).off + 4, none⟩ = some (.int .i64 x.f2.f1) ∧ w'.cell? ⟨(ad1.add (i * 8)).block, (ad1.add (i * 8)).off + 5, none⟩ = some (.int .i64 x.f3) ∧ w'.cell? ⟨(ad1.add (i * 8)).block, (ad1.add (i * 8)).off + 6, none⟩ = some (.int .i64 x.f4) ∧ w'.cell? ⟨(ad1.add (i * 8)).block, (ad1.add (i * 8)).off + 7, none⟩ = some (.int .i64 x.f5)) (ds := []) #[false, false, false, false, false, false, false, false, false] (by kernel_rfl) rfl rfl ⟨p0, p1, p2, p3, p4, p5, p6, p7, q0, q1, q2, q3, q4, q5, q6, q7⟩ (fun hHeld => ?_)
      refine pure_ (i := 0) (N := some 17) (v := ?_) (a' := ?_) #[true, false, false, false, false, false, false, false, false] rfl rfl (by kernel_rfl) (fun _ _ _ h => h) (Or.inl ⟨by rfl, ?_⟩) ?_ ?_
      rotate_left
      · intro w'
        go_simp
        with_reducible rfl
      rotate_left
      · simp only [Act.put, List.setIfInBounds_toArray, List.set_cons_zero, List.set_cons_succ, i64_w, i32_w]
        rfl
      refine pure_ (i := 1) (N := some 18) (v := ?_) (a' := ?_) #[true, true, false, false, false, false, false, false, false] rfl rfl (by kernel_rfl) (fun _ _ _ h => h) (Or.inl ⟨by rfl, ?_⟩) ?_ ?_
      rotate_left
      · intro w'
        go_simp
        with_reducible rfl
      rotate_left
      · simp only [Act.put, List.setIfInBounds_toArray, List.set_cons_zero, List.set_cons_succ, i64_w, i32_w]
        rfl
      refine pure_ (i := 2) (N := some 19) (v := ?_) (a' := ?_) #[true, true, true, false, false, false, false, false, false] rfl rfl (by kernel_rfl) (fun _ _ _ h => h) (Or.inl ⟨by rfl, ?_⟩) ?_ ?_
      rotate_left
      · intro w'
        go_simp
        with_reducible rfl
      rotate_left
      · simp only [Act.put, List.setIfInBounds_toArray, List.set_cons_zero, List.set_cons_succ, i64_w, i32_w]
        rfl
      refine pure_ (i := 4) (N := some 21) (v := ?_) (a' := ?_) #[true, true, true, false, true, false, false, false, false] rfl rfl (by kernel_rfl) (fun _ _ _ h => h) (Or.inl ⟨by rfl, ?_⟩) ?_ ?_
      rotate_left
      · intro w'
        go_simp
        with_reducible rfl
      rotate_left
      · simp only [Act.put, List.setIfInBounds_toArray, List.set_cons_zero, List.set_cons_succ, i64_w, i32_w]
        rfl
      refine pure_ (i := 5) (N := some 22) (v := ?_) (a' := ?_) #[true, true, true, false, true, true, false, false, false] rfl rfl (by kernel_rfl) (fun _ _ _ h => h) (Or.inl ⟨by rfl, ?_⟩) ?_ ?_
      rotate_left
      · intro w'
        go_simp
        with_reducible rfl
      rotate_left
      · simp only [Act.put, List.setIfInBounds_toArray, List.set_cons_zero, List.set_cons_succ, i64_w, i32_w]
        rfl
      refine pure_ (i := 6) (N := some 23) (v := ?_) (a' := ?_) #[true, true, true, false, true, true, true, false, false] rfl rfl (by kernel_rfl) (fun _ _ _ h => h) (Or.inl ⟨by rfl, ?_⟩) ?_ ?_
      rotate_left
      · intro w'
        go_simp
        with_reducible rfl
      rotate_left
      · simp only [Act.put, List.setIfInBounds_toArray, List.set_cons_zero, List.set_cons_succ, i64_w, i32_w]
        rfl
      refine take_ (i := 3) (N := some 20) (v := ?_) (a' := ?_) #[true, true, true, true, true, true, true, false, false] rfl rfl (by kernel_rfl) (fun _ _ _ h => h) (Or.inl ⟨by rfl, ?_⟩) hHeld ?_ ?_
      rotate_left
      · rintro w' ⟨s0, s1, s2, s3, s4, s5, s6, s7, s8, s9, s10, s11, s12, s13, s14, s15⟩
        go_simp
        with_reducible rfl
      rotate_left
      · simp only [Act.put, List.setIfInBounds_toArray, List.set_cons_zero, List.set_cons_succ, i64_w, i32_w]
        rfl
      refine take_ (i := 7) (N := some 24) (v := ?_) (a' := ?_) #[true, true, true, true, true, true, true, true, false] rfl rfl (by kernel_rfl) (fun _ _ _ h => h) (Or.inl ⟨by rfl, ?_⟩) hHeld ?_ ?_
      rotate_left
      · rintro w' ⟨s0, s1, s2, s3, s4, s5, s6, s7, s8, s9, s10, s11, s12, s13, s14, s15⟩
        go_simp
        with_reducible rfl
      rotate_left
      · simp only [Act.put, List.setIfInBounds_toArray, List.set_cons_zero, List.set_cons_succ, i64_w, i32_w]
        rfl
      refine pure_ (i := 8) (N := some 25) (v := (.bool false)) (a' := ?aa_1) #[true, true, true, true, true, true, true, true, true] rfl rfl (by kernel_rfl) (fun _ _ _ h => h) ?hy_1 ?ha_1 ?h_1
      case hy_1 => exact Or.inl ⟨by rfl, fun w' => neq_run _ (by rfl) (by rfl) (by rfl) w'⟩
      case ha_1 => simp only [Act.put, List.setIfInBounds_toArray, List.set_cons_zero, List.set_cons_succ, i64_w, i32_w]; rfl
      refine done_ (by kernel_rfl) ?_
      go_wp2_with fail
      go_roundg (l.length - (i + 1))
      case measure => have := hr.out; omega
      case rel => exact ⟨i + 1, by have := HL.out; rw [show wrap64 ((i : Int) + 1) = ((i + 1 : Nat) : Int) from by unfold wrap64; omega], ⟨by omega⟩, ⟨hb.out.drew⟩⟩
    · have hi1 : decide ((i : Int) < (l.length : Int)) = false := decide_eq_false (by omega)
      go_wp2_with fail
      go_ret
      exact ⟨rfl, hb.out⟩
end Go.Proofs.Ytkpaibkkigfahaa.Fl
