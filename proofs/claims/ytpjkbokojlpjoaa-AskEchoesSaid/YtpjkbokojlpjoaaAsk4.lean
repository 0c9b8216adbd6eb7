/- ask.Wide: an address of IPv4 in 16 bytes. -/
import Derived.Test.YtpjkbokojlpjoaaAsk3
import Derived.Test.YtpjkbokojlpjoaaPAskAnswersx1
import Derived.ChangeKeysEq
namespace Go.Proofs.Ytpjkbokojlpjoaa.Ak
open Go.RowKit Go.Proofs.YtpjkbokojlpjoaaW.PrintWords Go.Proofs.YtpjkbokojlpjoaaW.PrintLast Go.Proofs.YtpjkbokojlpjoaaW.PrintMore Go.Proofs.Ytpjkbokojlpjoaa.Bs Go.Proofs.Ytpjkbokojlpjoaa.Fr Go.Proofs.Ytpjkbokojlpjoaa.Oct
open Go.Proofs.Ytpjkbokojlpjoaa.PAskAnswers
set_option linter.unusedVariables false
set_option linter.unusedSimpArgs false

/-! ### '==' on arrays of bytes -/
theorem part_u8 (cs : Array Value) (i : Nat) (x : Value) (w : World) (h : cs[i]? = some x) : (part 5 cs i).run Try.prog w = .ok x w := by simp [part, go_sem, h]
theorem eqIn_u8 (d : Nat) (a b : Int) (w : World) : (Op.equalIn (d + 1) 5 (.int .u8 a) (.int .u8 b)).run Try.prog w = .ok (a == b) w := by simp [Op.equalIn, go_sem]
theorem eqItems_u8 (d : Nat) (xs ys : List Int) (w : World) (h : xs.length = ys.length) : ∀ (m k : Nat), k + m = xs.length → (Op.eqItems (d + 1) 5 1 (encs (Value.int .u8) xs).toArray (encs (Value.int .u8) ys).toArray (List.range' k m)).run Try.prog w = .ok (decide (xs.drop k = ys.drop k)) w := by
  intro m
  induction m with
  | zero =>
    intro k hk
    rw [List.drop_of_length_le (by omega), List.drop_of_length_le (by omega)]
    simp [Op.eqItems]
  | succ m ih =>
    intro k hk
    have hx : k < xs.length := by omega
    have hy : k < ys.length := by omega
    have h1 : (part 5 (encs (Value.int .u8) xs).toArray (k * 1)).run Try.prog w = .ok (.int .u8 xs[k]) w := part_u8 _ _ _ _ (by rw [Nat.mul_one]; unfold encs; simp [hx])
    have h2 : (part 5 (encs (Value.int .u8) ys).toArray (k * 1)).run Try.prog w = .ok (.int .u8 ys[k]) w := part_u8 _ _ _ _ (by rw [Nat.mul_one]; unfold encs; simp [hy])
    rw [List.range'_succ]
    simp only [Op.eqItems, Sem.run_bind, h1, h2, eqIn_u8, Result.andThen_ok]
    rw [List.drop_eq_getElem_cons hx, List.drop_eq_getElem_cons hy]
    by_cases he : xs[k] = ys[k]
    · have hd : decide (xs[k] :: xs.drop (k + 1) = ys[k] :: ys.drop (k + 1)) = decide (xs.drop (k + 1) = ys.drop (k + 1)) := decide_eq_decide.mpr ⟨fun e => (List.cons.inj e).2, fun e => by rw [he, e]⟩
      rw [hd]
      have hb : (xs[k] == ys[k]) = true := by simpa using he
      simp only [hb, Bool.not_true, Bool.false_eq_true, if_false]
      exact ih (k + 1) (by omega)
    · have hb : (xs[k] == ys[k]) = false := by simpa using he
      simp only [hb, Bool.not_false, if_true, Sem.run_pure]
      congr 1
      symm
      apply decide_eq_false
      intro e
      exact he (List.cons.inj e).1
theorem cellsOf_u8 : Try.prog.cellsOf 5 = 1 := by kernel_rfl
theorem eqIn_bytes {t : TypeId} {n : Nat} (hu : Try.prog.underlying t = some (.array n 5)) (d : Nat) (xs ys : List Int) (w : World) (hx : xs.length = n) (hy : ys.length = n) :
    (Op.equalIn (d + 2) t (.agg (encs (Value.int .u8) xs).toArray) (.agg (encs (Value.int .u8) ys).toArray)).run Try.prog w = .ok (decide (xs = ys)) w := by
  obtain ⟨i0, hi, _⟩ := info_parts info_u8
  rw [run_equalIn_array (P := Try.prog) w (d + 1) _ _ hu hi, cellsOf_u8, List.range_eq_range', eqItems_u8 d xs ys w (by rw [hx, hy]) n 0 (by omega)]
  rfl
theorem eql_bytes {t : TypeId} {n : Nat} (hu : Try.prog.underlying t = some (.array n 5)) (xs ys : List Int) (w : World) (hx : xs.length = n) (hy : ys.length = n) :
    (binOp .eql t (.agg (encs (Value.int .u8) xs).toArray) (.agg (encs (Value.int .u8) ys).toArray)).run Try.prog w = .ok (.bool (decide (xs = ys))) w := by
  rw [run_eql_struct, eqIn_bytes hu 9998 xs ys w hx hy]; rfl
theorem neq_bytes {t : TypeId} {n : Nat} (hu : Try.prog.underlying t = some (.array n 5)) (xs ys : List Int) (w : World) (hx : xs.length = n) (hy : ys.length = n) :
    (binOp .neq t (.agg (encs (Value.int .u8) xs).toArray) (.agg (encs (Value.int .u8) ys).toArray)).run Try.prog w = .ok (.bool (!decide (xs = ys))) w := by
  rw [run_neq_struct, eqIn_bytes hu 9998 xs ys w hx hy]; rfl

/-! ### Wide -/
def be4 (a : Int) : List Int := [a / 16777216 % 256, a / 65536 % 256, a / 256 % 256, a % 256]
def pre12 : List Int := [0, 0, 0, 0, 0, 0, 0, 0, 0, 0, 255, 255]
def wideL (a : Int) : List Int := pre12 ++ be4 a
theorem lay_one (a : Int) : ask_lay.f 2 [a] = some (be4 a) := by
  simp [ask_lay.f, ask_lay.l0, rd, wrap64, be4]
theorem lay1_calls (a : Int) (A : Option Addr) (w : World) (h : Kd.C (Kd.int .u32) w A 1 [a]) : Calls Try.prog 33 #[.slice A 1 1] w fun e w' => ∃ v0_ : Value, e = .returned (v0_) ∧ Kd.R (Kd.int .u8) 5 w' w.heap.size (fun _ => True) v0_ (be4 a) ∧ Below w.heap.size w w' :=
  ask_lay.calls 2 A 1 [a] (be4 a) w h (Nat.le_refl _) (lay_one a)
theorem src_of {w : World} {A : Option Addr} {l : List Int} (hC : Kd.C (Kd.int .u8) w A l.length l) (h : 0 < l.length) : ∃ ad, A = some ad ∧ ∀ j v, (encs (Value.int .u8) l)[j]? = some v → w.cell? (ad.add j) = some v := by
  obtain ⟨ad, hA, _⟩ := at_one hC 0 (by omega) (by omega)
  subst hA
  refine ⟨ad, rfl, fun j v hv => ?_⟩
  have hj : j < l.length := by have := (List.getElem?_eq_some_iff.1 hv).1; rwa [encs_length] at this
  obtain ⟨ad', e, hc⟩ := at_one hC j (by omega) (by omega)
  cases e
  rw [Int.toNat_natCast] at hc
  rw [hc]
  unfold encs at hv
  rw [List.getElem?_map, List.getElem?_eq_getElem hj] at hv
  have := Option.some.inj hv
  rw [← this]
  unfold rd
  simp [List.getD_eq_getElem?_getD, List.getElem?_eq_getElem hj]
theorem info5s : (Try.prog.info? 5).map (·.size) = some 1 := by kernel_rfl
theorem info25 : (Try.prog.info? 25).map (·.size) = some 16 := by kernel_rfl
theorem one_u8 (b : List Int) : ∀ v ∈ encs (Value.int .u8) b, v.oneCell' = true := by
  intro v hv
  unfold encs at hv
  obtain ⟨x, _, rfl⟩ := List.mem_map.1 hv
  rfl
def z16 : List Int := [0, 0, 0, 0, 0, 0, 0, 0, 0, 0, 0, 0, 0, 0, 0, 0]
def arr (l : List Int) : Value := .agg (encs (Value.int .u8) l).toArray
def Blk (w : World) (g : Nat) (l : List Int) (t : TypeId) : Prop := w.heap[g]? = some (.cells (encs (Value.int .u8) l).toArray t (0, 0))
/-- Four bytes at the end of sixteen are laid. -/
theorem mid_blk {w : World} {g : Nat} {t : TypeId} {p q : List Int} (hb : w.heap[g]? = some (.cells (encs (Value.int .u8) (p ++ q)).toArray t (0, 0))) (o : Nat) (l : List Int) (ho : p.length = o ∧ q.length = l.length) :
    (w.setCells g o (encs (Value.int .u8) l)).heap[g]? = some (.cells (encs (Value.int .u8) (p ++ l)).toArray t (0, 0)) := by
  obtain ⟨cur, h1, h2, h3⟩ := setCells_row (encs (Value.int .u8) l) o w _ hb (by rw [List.size_toArray, encs_length, encs_length, List.length_append]; omega)
  rw [h1]
  have : cur = (encs (Value.int .u8) (p ++ l)).toArray := by
    apply Array.ext'
    rw [h3]
    unfold encs
    rw [List.map_append, List.map_append, List.take_left' (by simp; exact ho.1), List.drop_of_length_le (by simp; omega)]
    simp
  rw [this]
set_option maxHeartbeats 1000000 in
set_option maxRecDepth 100000 in
theorem Wide_calls (a : Int) (w : World) : Calls Try.prog 13 #[.int .u32 a] w fun e w' => e = .returned (arr (wideL a)) ∧ Below w.heap.size w w' := by
  have hB0 := below_alloc (Below.refl w.heap.size w) (.cells (encs (Value.int .u8) z16).toArray 25)
  have B1 := Aside0.mk (Below.alloc hB0 hB0.size (.cells (encs (Value.int .u8) z16).toArray 25))
  have N1 : Aside0 (((w.alloc (.cells (encs (Value.int .u8) z16).toArray 25)).alloc (.cells (encs (Value.int .u8) z16).toArray 25)).heap[w.heap.size + 1]? = some (.cells (encs (Value.int .u8) z16).toArray 25 (0, 0))) := ⟨by have h := blk_new (w.alloc (.cells (encs (Value.int .u8) z16).toArray 25)) (.cells (encs (Value.int .u8) z16).toArray 25); rw [World.size_alloc] at h; exact h⟩
  have N0 := Aside0.mk (blk_alloc (blk_new w (.cells (encs (Value.int .u8) z16).toArray 25)) (.cells (encs (Value.int .u8) z16).toArray 25))
  clear hB0
  go_enter Try.func13, Try.ntmps13
  go_upto_region 2 with (refine wp_fill rfl 25 (.tmp 3) (.tmp 4) rfl (w.heap.size + 1) _ 25 (encs (Value.int .u8) (pre12 ++ [0, 0, 0, 0])) N1.out rfl rfl rfl (by rw [info25]; rfl) (one_u8 _) ?_; intro w2 hx2 hf2; have X2 := Aside0.mk hx2; have F2 := Aside0.mk hf2; clear hx2 hf2)
  have B2 := Aside0.mk (below_fr B1.out B1.out.size F2.out (fun k hk => by omega))
  have Y2 := Aside0.mk (F2.out.blk N0.out (by omega))
  clear B1 N1 N0 F2
  refine start_ (n := 5) (S := fun w' => True) (ds := []) #[false, false, false, false, false] (by kernel_rfl) rfl rfl (trivial) (fun hHeld => ?_)
  have CL : Aside0 (Kd.C (Kd.int .u32) (w2.alloc (.cells #[.int .u32 a] 23)).drew (some ⟨w2.heap.size, 0, none⟩) 1 [a]) := ⟨Kd.C_below (lit_C (enc := Value.int .u32) (h1 := fun _ => rfl) (e := 23) w2 [a] (by simp)) (Below.refl _ _).drew⟩
  have BL := Aside0.mk (Below.alloc B2.out B2.out.size (.cells #[.int .u32 a] 23)).drew
  have XL := Aside0.mk (blk_drew (blk_alloc X2.out (.cells #[.int .u32 a] 23)))
  have YL := Aside0.mk (blk_drew (blk_alloc Y2.out (.cells #[.int .u32 a] 23)))
  refine pure_ (i := 0) (N := some 5) (v := ?_) (a' := ?_) #[true, false, false, false, false] rfl rfl (by kernel_rfl) (fun _ _ _ h => h) (Or.inl ⟨by rfl, ?_⟩) ?_ ?_
  rotate_left
  · intro w'
    go_simp
    with_reducible rfl
  rotate_left
  · simp only [Act.put, List.setIfInBounds_toArray, List.set_cons_zero, List.set_cons_succ, i64_w, i32_w]
    rfl
  refine pure_ (i := 1) (N := some 6) (v := ?_) (a' := ?_) #[true, true, false, false, false] rfl rfl (by kernel_rfl) (fun _ _ _ h => h) (Or.inl ⟨by rfl, ?_⟩) ?_ ?_
  rotate_left
  · intro w'
    go_simp
    with_reducible rfl
  rotate_left
  · simp only [Act.put, List.setIfInBounds_toArray, List.set_cons_zero, List.set_cons_succ, i64_w, i32_w]
    rfl
  refine one_ (i := 2) (N := some 7) #[true, true, true, false, false] rfl rfl (by kernel_rfl) (by decide) (fun K hK => ?_)
  refine value_ (w1 := ?_) (v := ?_) (by rfl) rfl ?_ ?_
  rotate_left 2
  · go_simp
    constructor
    · rfl
    · rfl
  refine hK.out _ _ (trivial) (fun hHeld => ?_)
  clear hK K
  refine norm_ (a' := ?_) ?_ ?_
  rotate_left
  · show Act.put _ (some 7) _ = _
    simp only [Act.put, List.setIfInBounds_toArray, List.set_cons_zero, List.set_cons_succ, i64_w, i32_w]
    rfl
  refine one_ (i := 3) (N := some 8) #[true, true, true, true, false] rfl rfl (by kernel_rfl) (by decide) (fun K hK => ?_)
  refine goes_ Try.func33 (by kernel_rfl) rfl #[.slice (some ⟨w2.heap.size, 0, none⟩) 1 1] (by rfl) rfl rfl (by simp only [List.map_toArray, List.map_cons, List.map_nil]; rfl) ?_
  with_reducible refine (lay1_calls a _ _ CL.out).mono ?_
  rintro e w4 ⟨v4, rfl, hr4, hb4⟩
  refine ⟨_, rfl, ?_⟩
  obtain ⟨A4, c4, rfl, hl4, hc4⟩ := Kd.R_reads hr4
  have B4 := Aside0.mk (below_step BL.out hb4)
  have X4 := Aside0.mk (blk_below XL.out hb4)
  have Y4 := Aside0.mk (blk_below YL.out hb4)
  have C4 := Aside0.mk hc4
  clear hr4 hb4 hc4 hl4
  obtain ⟨ad4, e4, hs4⟩ := src_of C4.out (by show 0 < 4; decide)
  subst e4
  refine hK.out _ _ (trivial) (fun hHeld => ?_)
  clear hK K
  refine norm_ (a' := ?_) ?_ ?_
  rotate_left
  · show Act.put _ (some 8) _ = _
    simp only [Act.put, List.setIfInBounds_toArray, List.set_cons_zero, List.set_cons_succ, i64_w, i32_w]
    rfl
  refine one_ (i := 4) (N := some 9) #[true, true, true, true, true] rfl rfl (by kernel_rfl) (by decide) (fun K hK => ?_)
  refine value_ (w1 := w4.setCells (w.heap.size + 1) 12 (encs (Value.int .u8) (be4 a))) (v := goInt 4) (by rfl) rfl ?_ ?_
  · exact copy_w 22 22 5 (.tmp 5) (.tmp 8) rfl (w.heap.size + 1) 12 4 4 ad4 4 c4 (encs (Value.int .u8) (be4 a)) rfl rfl Try.underlying22 info5s rfl hs4 (there_blk X4.out 12 4 (by decide)) (one_u8 _)
  refine hK.out _ _ (trivial) (fun hHeld => ?_)
  clear hK K
  refine norm_ (a' := ?_) ?_ ?_
  rotate_left
  · show Act.put _ (some 9) _ = _
    simp only [Act.put, List.setIfInBounds_toArray, List.set_cons_zero, List.set_cons_succ, i64_w, i32_w]
    rfl
  refine done_ (by kernel_rfl) ?_
  have F5 : Aside0 (Fr w4 (w4.setCells (w.heap.size + 1) 12 (encs (Value.int .u8) (be4 a))) (fun k => k = w.heap.size + 1)) := ⟨Fr.setCells (F := fun k => k = w.heap.size + 1) (Fr.refl _ _) (.inl rfl) _ _⟩
  have X5 := Aside0.mk (mid_blk (p := pre12) (q := [0, 0, 0, 0]) X4.out 12 (be4 a) ⟨rfl, rfl⟩)
  have Y5 := Aside0.mk (F5.out.blk Y4.out (by omega))
  have B5 := Aside0.mk (below_fr B4.out B4.out.size F5.out (fun k hk => by omega))
  generalize w4.setCells (w.heap.size + 1) 12 (encs (Value.int .u8) (be4 a)) = w5 at *
  have G5 := Aside0.mk (range_blk X5.out)
  go_wp2_with (first
    | (refine wpList_load_mid rfl 25 (.tmp 3) rfl (w.heap.size + 1) 0 rfl (encs (Value.int .u8) (wideL a)) _ G5.out Try.underlying25 rfl (by rw [info25]; rfl) ?_)
    | (refine wp_fill rfl 25 (.tmp 2) (.tmp 10) rfl w.heap.size _ 25 (encs (Value.int .u8) (wideL a)) Y5.out rfl rfl rfl (by rw [info25]; rfl) (one_u8 _) ?_; intro w6 hx6 hf6; have X6 := Aside0.mk hx6; have F6 := Aside0.mk hf6; clear hx6 hf6))
  refine bodyPost_ret (results_cell_row rfl _ _ w.heap.size 25 _ (0, 0) _ rfl X6.out Try.underlying25 rfl (by rw [info25]; rfl)) rfl ⟨rfl, below_fr B5.out B5.out.size F6.out (fun k hk => by omega)⟩
end Go.Proofs.Ytpjkbokojlpjoaa.Ak
