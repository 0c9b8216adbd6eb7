/- ask.Mapped: is an address in 16 bytes one of IPv4? -/
import Derived.Test.YtpjkbokojlpjoaaAsk4
namespace Go.Proofs.Ytpjkbokojlpjoaa.Ak
open Go.RowKit Go.Proofs.YtpjkbokojlpjoaaW.PrintWords Go.Proofs.YtpjkbokojlpjoaaW.PrintLast Go.Proofs.YtpjkbokojlpjoaaW.PrintMore Go.Proofs.Ytpjkbokojlpjoaa.Bs Go.Proofs.Ytpjkbokojlpjoaa.Fr Go.Proofs.Ytpjkbokojlpjoaa.Oct
set_option linter.unusedVariables false
set_option linter.unusedSimpArgs false

def mapB (l : List Int) : Bool := decide (l.take 12 = pre12)
def mapV (l : List Int) : Int := if mapB l = true then beN (l.drop 12) else 0
theorem wrap_u32 (x : Int) (h : 0 ≤ x ∧ x < 4294967296) : x % 4294967296 = x := by omega
theorem beN4 (l : List Int) (h : Byt l) (hl : l.length = 16) : 0 ≤ beN (l.drop 12) ∧ beN (l.drop 12) < 4294967296 := by
  have h1 := beN_range (h.drop 12)
  rw [List.length_drop, hl] at h1
  exact h1
theorem get12 (l : List Int) (hl : l.length = 16) : getV l 12 4 = beN (l.drop 12) ∧ mayB l.length 12 4 = true := by
  have h : mayB l.length 12 4 = true := by rw [hl]; rfl
  refine ⟨?_, h⟩
  unfold getV
  rw [if_pos h]
  congr 1
  exact List.take_of_length_le (by rw [List.length_drop, hl]; decide)
theorem C_arr {w : World} {g : Nat} {t : TypeId} {l : List Int} (hb : w.heap[g]? = some (.cells (encs (Value.int .u8) l).toArray t (0, 0))) (hl : l.length ≤ 9223372036854775807) : Kd.C (Kd.int .u8) w (some ⟨g, 0, none⟩) l.length l :=
  (Kd.R_reads' (R_blk (enc := Value.int .u8) (h1 := fun _ => rfl) (base := 0) hb (Nat.zero_le _) hl)).2.2
theorem range_take {w : World} {g : Nat} {t : TypeId} {l : List Int} (hb : w.heap[g]? = some (.cells (encs (Value.int .u8) l).toArray t (0, 0))) (n : Nat) : w.rangeAt g 0 (encs (Value.int .u8) (l.take n)) := fun j v hv => by
  refine range_blk hb j v ?_
  unfold encs at hv ⊢
  rw [List.map_take, List.getElem?_take] at hv
  split at hv
  · exact hv
  · cases hv
theorem get16_calls (n c : Nat) (l : List Int) (w : World) (hl : l.length = 16) (hC : Kd.C (Kd.int .u8) w (some ⟨n, 0, none⟩) l.length l) (hB : Byt l) :
    Calls Try.prog 32 #[.slice (some ⟨n, 0, none⟩) 16 16, .int .i64 12, .int .i64 4] w fun e w' => e = .returned (.tuple #[.int .u64 (getV l 12 4), .bool (mayB l.length 12 4)]) ∧ w = w' := by
  have h := Get_calls (some ⟨n, 0, none⟩) 16 l 12 4 w hC (by omega) (by omega) hB
  rw [hl] at h
  rw [hl]
  exact h
theorem info26 : (Try.prog.info? 26).map (·.size) = some 12 := by kernel_rfl
theorem take12_wide : (wideL 0).take 12 = pre12 := rfl
theorem neq_at {a : Act} {o : Oper} (w : World) (l m : List Int) (x y : Operand) (ho : o.op = Op.binOp .neq 26 x y 26) (hx : a.eval x = .agg (encs (Value.int .u8) l).toArray) (hy : a.eval y = .agg (encs (Value.int .u8) m).toArray) (hl : l.length = 12) (hm : m.length = 12) :
    (execOp a.eval o).run Try.prog w = .ok (.value (.bool (!decide (l = m)))) w := by
  have h := neq_bytes Try.underlying26 l m w hl hm
  have hg := run_eqGuard_agg (P := Try.prog) (w := w) .neq 26 x y (encs (Value.int .u8) l).toArray (encs (Value.int .u8) m).toArray Try.eqGuardType26
  unfold execOp
  simp [ho, hx, hy, h, hg, Result.andThen]
theorem sap12 (g c : Nat) (w : World) : (Instr.arrayAt 26 (.slice (some ⟨g, 0, none⟩) 12 c)).run Try.prog w = .ok (.pointer (some ⟨g, 0, none⟩)) w := by
  simp [Instr.arrayAt, go_sem]
set_option maxHeartbeats 1000000 in
set_option maxRecDepth 100000 in
theorem Mapped_calls (l : List Int) (hl : l.length = 16) (hB : Byt l) (w : World) : Calls Try.prog 12 #[arr l] w fun e w' => e = .returned (.tuple #[.int .u32 (mapV l), .bool (mapB l)]) ∧ Below w.heap.size w w' := by
  have B0 := Aside0.mk (below_alloc (Below.refl w.heap.size w) (.cells (encs (Value.int .u8) l).toArray 25))
  have X0 := Aside0.mk (blk_new w (.cells (encs (Value.int .u8) l).toArray 25))
  obtain ⟨bb, hbb⟩ : ∃ bb, bb = mapB l := ⟨_, rfl⟩
  have HBB := Aside0.mk hbb
  have HB := Aside0.mk hB
  have HL := Aside0.mk hl
  clear hbb hB hl
  unfold arr
  go_enter Try.func12, Try.ntmps12
  go_wp2_with fail
  refine (Wide_calls 0 _).mono ?_
  rintro e w1 ⟨rfl, hb1⟩
  have B1 := Aside0.mk (below_step B0.out hb1)
  have X1 := Aside0.mk (blk_alloc (blk_below X0.out hb1) (.cells (encs (Value.int .u8) z16).toArray 25))
  have LT1 : Aside0 (w.heap.size < w1.heap.size) := ⟨blk_lt (blk_below X0.out hb1)⟩
  clear hb1 B0 X0
  have N1 := Aside0.mk (blk_new w1 (.cells (encs (Value.int .u8) z16).toArray 25))
  have BN := Aside0.mk (Below.alloc B1.out B1.out.size (.cells (encs (Value.int .u8) z16).toArray 25))
  unfold arr
  go_upto_region 2 with (refine wp_fill rfl 25 (.tmp 4) (.tmp 7) rfl w1.heap.size _ 25 (encs (Value.int .u8) (wideL 0)) N1.out rfl rfl rfl (by rw [info25]; rfl) (one_u8 _) ?_; intro w2 hx2 hf2; have X2 := Aside0.mk hx2; have F2 := Aside0.mk hf2; clear hx2 hf2)
  have B2 := Aside0.mk (below_fr BN.out BN.out.size F2.out (fun k hk => by rw [hk]; exact B1.out.size))
  have Y2 := Aside0.mk (F2.out.blk X1.out (by have := LT1.out; omega))
  generalize w1.heap.size = g1 at *
  clear B1 X1 N1 BN F2
  have GY : Aside0 (w2.rangeAt w.heap.size 0 (encs (Value.int .u8) (l.take 12))) := ⟨range_take Y2.out 12⟩
  have GX : Aside0 (w2.rangeAt g1 0 (encs (Value.int .u8) pre12)) := ⟨range_take X2.out 12⟩
  have HT : Aside0 ((l.take 12).length = 12) := ⟨by rw [List.length_take, HL.out]; rfl⟩
  have hsap := sap12
  refine start_ (n := 7) (S := fun w' => w'.rangeAt w.heap.size 0 (encs (Value.int .u8) (l.take 12)) ∧ w'.rangeAt g1 0 (encs (Value.int .u8) pre12)) (ds := []) #[false, false, false, false, false, false, false] (by kernel_rfl) rfl rfl ⟨GY.out, GX.out⟩ (fun hHeld => ?_)
  refine pure_ (i := 0) (N := some 8) (v := ?_) (a' := ?_) #[true, false, false, false, false, false, false] rfl rfl (by kernel_rfl) (fun _ _ _ h => h) (Or.inl ⟨by rfl, ?_⟩) ?_ ?_
  rotate_left
  · intro w'
    go_simp
    with_reducible rfl
  rotate_left
  · simp only [Act.put, List.setIfInBounds_toArray, List.set_cons_zero, List.set_cons_succ, i64_w, i32_w]
    rfl
  refine pure_ (i := 1) (N := some 9) (v := ?_) (a' := ?_) #[true, true, false, false, false, false, false] rfl rfl (by kernel_rfl) (fun _ _ _ h => h) (Or.inl ⟨by rfl, ?_⟩) ?_ ?_
  rotate_left
  · intro w'
    go_simp
    with_reducible rfl
  rotate_left
  · simp only [Act.put, List.setIfInBounds_toArray, List.set_cons_zero, List.set_cons_succ, i64_w, i32_w]
    rfl
  refine pure_ (i := 3) (N := some 11) (v := ?_) (a' := ?_) #[true, true, false, true, false, false, false] rfl rfl (by kernel_rfl) (fun _ _ _ h => h) (Or.inl ⟨by rfl, ?_⟩) ?_ ?_
  rotate_left
  · intro w'
    go_simp
    with_reducible rfl
  rotate_left
  · simp only [Act.put, List.setIfInBounds_toArray, List.set_cons_zero, List.set_cons_succ, i64_w, i32_w]
    rfl
  refine pure_ (i := 4) (N := some 12) (v := ?_) (a' := ?_) #[true, true, false, true, true, false, false] rfl rfl (by kernel_rfl) (fun _ _ _ h => h) (Or.inl ⟨by rfl, ?_⟩) ?_ ?_
  rotate_left
  · intro w'
    go_simp
    with_reducible rfl
  rotate_left
  · simp only [Act.put, List.setIfInBounds_toArray, List.set_cons_zero, List.set_cons_succ, i64_w, i32_w]
    rfl
  refine take_ (i := 2) (N := some 10) (v := (.agg (encs (Value.int .u8) (l.take 12)).toArray)) (a' := ?aa_1) #[true, true, true, true, true, false, false] rfl rfl (by kernel_rfl) (fun _ _ _ h => h) ?hy_1 hHeld ?ha_1 ?h_1
  case hy_1 => exact yieldsIf_load_mid (by rfl) 26 (.tmp 9) rfl w.heap.size 0 rfl (encs (Value.int .u8) (l.take 12)) _ (fun w' s => s.1) Try.underlying26 rfl (by rw [encs_length, HT.out]; exact info26)
  case ha_1 => simp only [Act.put, List.setIfInBounds_toArray, List.set_cons_zero, List.set_cons_succ, i64_w, i32_w]; rfl
  refine take_ (i := 5) (N := some 13) (v := (.agg (encs (Value.int .u8) pre12).toArray)) (a' := ?aa_2) #[true, true, true, true, true, true, false] rfl rfl (by kernel_rfl) (fun _ _ _ h => h) ?hy_2 hHeld ?ha_2 ?h_2
  case hy_2 => exact yieldsIf_load_mid (by rfl) 26 (.tmp 12) rfl g1 0 rfl (encs (Value.int .u8) pre12) _ (fun w' s => s.2) Try.underlying26 rfl (by rw [encs_length]; exact info26)
  case ha_2 => simp only [Act.put, List.setIfInBounds_toArray, List.set_cons_zero, List.set_cons_succ, i64_w, i32_w]; rfl
  refine pure_ (i := 6) (N := some 14) (v := (.bool (!decide (l.take 12 = pre12)))) (a' := ?aa_3) #[true, true, true, true, true, true, true] rfl rfl (by kernel_rfl) (fun _ _ _ h => h) ?hy_3 ?ha_3 ?h_3
  case hy_3 => exact Or.inl ⟨by rfl, fun w' => neq_at w' (l.take 12) pre12 (.tmp 10) (.tmp 13) rfl rfl rfl HT.out rfl⟩
  case ha_3 => simp only [Act.put, List.setIfInBounds_toArray, List.set_cons_zero, List.set_cons_succ, i64_w, i32_w]; rfl
  refine done_ (by kernel_rfl) ?_
  clear hsap
  cases bb with
  | false =>
    have HV : Aside0 (mapV l = 0) := ⟨by unfold mapV; rw [← HBB.out]; rfl⟩
    rw [show (!decide (l.take 12 = pre12)) = true by rw [show decide (l.take 12 = pre12) = mapB l from rfl, ← HBB.out]; rfl]
    go_wp2
    go_ret2
    exact ⟨by rw [HV.out, ← HBB.out]; rfl, B2.out.drew⟩
  | true =>
    have HV : Aside0 (mapV l = beN (l.drop 12)) := ⟨by unfold mapV; rw [← HBB.out]; rfl⟩
    have HG := Aside0.mk (get12 l HL.out)
    have HR := beN4 l HB.out HL.out
    have CY : Aside0 (Kd.C (Kd.int .u8) w2.drew (some ⟨w.heap.size, 0, none⟩) l.length l) := ⟨C_arr (blk_drew Y2.out) (by rw [HL.out]; decide)⟩
    rw [show (!decide (l.take 12 = pre12)) = false by rw [show decide (l.take 12 = pre12) = mapB l from rfl, ← HBB.out]; rfl]
    go_wp2_with fail
    refine (get16_calls w.heap.size 16 l w2.drew HL.out CY.out HB.out).mono ?_
    rintro e w3 ⟨rfl, rfl⟩
    rw [HG.out.1, HG.out.2]
    generalize beN (l.drop 12) = x at *
    have hw := wrap_u32 x HR
    go_wp2
    go_ret2
    exact ⟨by rw [HV.out, ← HBB.out]; rfl, B2.out.drew⟩
end Go.Proofs.Ytpjkbokojlpjoaa.Ak
