/- The statement BindBits: for every input it returns true, and what came in reads as before. -/
import Derived.Test.YtkpaibkkigfahaaRows
import Derived.Test.YtkpaibkkigfahaaBd12
import Derived.WalkKit
import Derived.ProofKit
import Derived.OpenShut
import Derived.ShutString
import Derived.ChangeOld
import Derived.Below
import Derived.SizedLaws
import Derived.Lib.SmallJoins
import Derived.Deep.Slices
import Derived.Deep.Fields
import Derived.ChangeSame
import Derived.Test.YtkpaibkkigfahaaWSized
import Derived.Test.YtkpaibkkigfahaaBase
namespace Go.Proofs.Ytkpaibkkigfahaa.bindBits
open Go.ChangeShapes Go.WideShapes Go.ChangeAt Go.RowKit
open Go.ChangeMaps (open_string shut_string)
open Go.Proofs.YtkpaibkkigfahaaW.PrintWords

set_option linter.unusedVariables false
theorem own : ownKnob Try.prog.godebug = none := by kernel_rfl
theorem laidOut : laidOutB Try.prog = true := by kernel_rfl
section
open Go.Joins Go.Deep
variable {H : Type} {enc : TypeId × Value → H} {P : Program} {w : World} {base : Nat} {spare : Nat → Bool} {held : Bool}
theorem open_aggL {r : Reach} {b0 : Nat} {t : TypeId} {fs : Array Field} {v : Value} {d : DataW H} {p : List MemPlace} (hs : P.underlying t = some (.struct fs)) (hone : oneCellFields P fs = true) (hC : P.cellsOf t = fs.size)
    (hv : Value.okWide P w r b0 t v) (h : DataW.Trod enc P w base spare held t v d p) :
    ∃ (l : List Value) (ys : List (DataW H × List MemPlace)) (n : Nat), v = .agg l.toArray ∧ l.length = fs.size ∧
      ∀ (j : Nat) (f : Field), fs[j]? = some f → ∃ (u : Value) (y : DataW H × List MemPlace), l[j]? = some u ∧ ys[j]? = some y ∧ DataW.trod enc P w base spare held n f.type [u] = some y := by
  obtain ⟨cs, rfl, hsz⟩ := okWide_struct hs hv
  obtain ⟨l⟩ := cs
  obtain ⟨fuel, hf⟩ := h
  obtain ⟨xs, n, _, hx, _, hlen, hg⟩ := DataW.trod_struct hs hf
  have hl : l.length = fs.size := by simpa using hsz.trans hC
  refine ⟨l, xs, n, rfl, hl, fun j f hj => ?_⟩
  obtain ⟨ho, hk⟩ := hone_of hone j f hj
  have hjl : j < fs.size := (Array.getElem?_eq_some_iff.1 hj).1
  have h1 := hg j f hj
  rw [ho, hk] at h1
  have hone' : ((Value.agg ⟨l⟩).cells.toList.drop j).take 1 = [l[j]'(by omega)] := by
    show (l.drop j).take 1 = _
    rw [List.drop_eq_getElem_cons (by omega)]
    rfl
  rw [hone'] at h1
  have hxs : xs[j]? = some (xs[j]'(by omega)) := List.getElem?_eq_getElem (by omega)
  exact ⟨_, _, List.getElem?_eq_getElem (by omega), hxs, h1.trans hxs⟩
end

set_option maxHeartbeats 1000000 in
set_option maxRecDepth 100000 in
theorem lifted (os : Os) (started : os.Started) (H : Type) (enc : TypeId × Value → H) :
    ReturnsInHanded {} Try.checked os 4 .any (Rows.bindBitsSpec.pre6 enc Try.prog Try.f4 Rows.bindBitsRow.domain false) (Rows.bindBitsSpec.post enc Try.prog Try.f4 false true false false) := by
  refine returnsInHanded_of_change_sized (C := Try.checked) own started (by kernel_rfl) Try.func4
    (ChangeSpec.witness6 (enc := enc) (C := Try.checked) false ⟨#[], #[.agg #[.int .u32 0, .int .i64 0, .int .i64 0], .agg #[.int .u32 0, .int .i64 0], .int .i64 0], []⟩ 8 (by kernel_rfl) (by kernel_rfl) (by kernel_rfl) (by kernel_rfl)) ?_
  intro W base args ds gs before hval0 hW hcnd hsz0 _
  have hsz : (DataW.weightsEach Try.prog (Try.f4.params.toList ++ Rows.bindBitsSpec.plain.varTypes Try.prog) (ds ++ gs)).all (· ≤ reachBytes) = true := hsz0
  have hval : ∀ (j : Nat) t v, Try.f4.params[j]? = some t → args[j]? = some v → Value.okWide Try.prog W .any base t v := hval0
  have hW' := hW
  obtain ⟨p, q, hA0, hV, rfl, hfz, hnd⟩ := hW
  have hA : DataW.TrodAll enc Try.prog W 0 (fun _ => true) true Try.f4.params.toList args.toList ds p := hA0
  rw [Try.params4] at hA hval hsz
  obtain ⟨v0, vs0, d0, ds0, p0, q0, hargs, rfl, rfl, h0, r0⟩ := trodAll_cons hA
  obtain ⟨v1, vs1, d1, ds1, p1, q1, rfl, rfl, rfl, h1, r1⟩ := trodAll_cons r0
  obtain ⟨v2, vs2, d2, ds2, p2, q2, rfl, rfl, rfl, h2, r2⟩ := trodAll_cons r1
  obtain ⟨rfl, rfl, rfl⟩ := trodAll_nil r2
  obtain rfl : args = #[v0, v1, v2] := by cases args; simp_all
  obtain ⟨rfl, rfl⟩ := trodVars_none hV
  have kk0 := h0
  have lt0 : ∀ x ∈ p0, x.block < W.heap.size := by obtain ⟨m, hm⟩ := kk0; exact DataW.trod_lt m _ _ _ hm
  obtain ⟨l0, ys0, n0, rfl, hl0, hf0⟩ := open_aggL Try.underlying35 (by kernel_rfl) (by kernel_rfl) (hval 0 35 v0 rfl rfl) h0
  obtain ⟨u0_0, y0_0, e0_0, _, t0_0⟩ := hf0 0 _ rfl
  obtain ⟨a0_0, b0_0, _, w0_0⟩ := DataW.trod_int Try.underlying27 t0_0
  obtain rfl : u0_0 = .int .u32 a0_0 := by simpa using b0_0
  obtain ⟨u0_1, y0_1, e0_1, _, t0_1⟩ := hf0 1 _ rfl
  obtain ⟨a0_1, b0_1, _, w0_1⟩ := DataW.trod_int Try.underlying3 t0_1
  obtain rfl : u0_1 = .int .i64 a0_1 := by simpa using b0_1
  obtain ⟨u0_2, y0_2, e0_2, _, t0_2⟩ := hf0 2 _ rfl
  obtain ⟨a0_2, b0_2, _, w0_2⟩ := DataW.trod_int Try.underlying3 t0_2
  obtain rfl : u0_2 = .int .i64 a0_2 := by simpa using b0_2
  obtain rfl : l0 = [.int .u32 a0_0, .int .i64 a0_1, .int .i64 a0_2] := by
    apply List.ext_getElem?
    intro j
    rcases j with _ | j; · simpa using e0_0
    rcases j with _ | j; · simpa using e0_1
    rcases j with _ | j; · simpa using e0_2
    rw [List.getElem?_eq_none (by rw [hl0]; show 3 ≤ _; omega), List.getElem?_eq_none (by simp)]
  have kk1 := h1
  have lt1 : ∀ x ∈ p1, x.block < W.heap.size := by obtain ⟨m, hm⟩ := kk1; exact DataW.trod_lt m _ _ _ hm
  obtain ⟨l1, ys1, n1, rfl, hl1, hf1⟩ := open_aggL Try.underlying29 (by kernel_rfl) (by kernel_rfl) (hval 1 29 v1 rfl rfl) h1
  obtain ⟨u1_0, y1_0, e1_0, _, t1_0⟩ := hf1 0 _ rfl
  obtain ⟨a1_0, b1_0, _, w1_0⟩ := DataW.trod_int Try.underlying27 t1_0
  obtain rfl : u1_0 = .int .u32 a1_0 := by simpa using b1_0
  obtain ⟨u1_1, y1_1, e1_1, _, t1_1⟩ := hf1 1 _ rfl
  obtain ⟨a1_1, b1_1, _, w1_1⟩ := DataW.trod_int Try.underlying3 t1_1
  obtain rfl : u1_1 = .int .i64 a1_1 := by simpa using b1_1
  obtain rfl : l1 = [.int .u32 a1_0, .int .i64 a1_1] := by
    apply List.ext_getElem?
    intro j
    rcases j with _ | j; · simpa using e1_0
    rcases j with _ | j; · simpa using e1_1
    rw [List.getElem?_eq_none (by rw [hl1]; show 2 ≤ _; omega), List.getElem?_eq_none (by simp)]
  have kk2 := h2
  have lt2 : ∀ x ∈ p2, x.block < W.heap.size := by obtain ⟨m, hm⟩ := kk2; exact DataW.trod_lt m _ _ _ hm
  obtain ⟨a2, rfl, _, _, w2⟩ := open_int Try.underlying3 (hval 2 3 v2 rfl rfl) h2
  clear hA0 hval0 hsz0
  refine (Bd.bits_walk' W a0_0 w0_0 a0_1 w0_1 a0_2 w0_2 a1_0 w1_0 a1_1 w1_1 a2 w2).mono fun e W' ⟨he, bel⟩ => ?_
  subst he
  exact ⟨_, rfl, _, _, _, [], _, [], hW', trodAll_mk1 (shut_bool Try.underlying4 _), (trodAll_cons_mk (Below.trod laidOut (by kernel_rfl) (of_decide_eq_true (by kernel_rfl)) kk0 bel lt0) (trodAll_cons_mk (Below.trod laidOut (by kernel_rfl) (of_decide_eq_true (by kernel_rfl)) kk1 bel lt1) (trodAll_cons_mk (Below.trod laidOut (by kernel_rfl) (of_decide_eq_true (by kernel_rfl)) kk2 bel lt2) trodAll_mk0))), rfl, bel.frame _, fun h => by cases h⟩
theorem over : Rows.bindBitsRow.holds Try.pinned (OpenSpec.ofChange Rows.bindBitsSpec) :=
  OpenClaim.holds_of_wide 4 Try.f4 rfl rfl rfl rfl rfl rfl rfl ⟨rfl, rfl, rfl, rfl, rfl⟩ rfl rfl rfl rfl rfl (by kernel_rfl) Try.func4 (by kernel_rfl)
    (of_decide_eq_true (by kernel_rfl)) (by unfold Func.isWrapper; first | (rw [if_pos (by decide +kernel)]; kernel_rfl) | (rw [if_neg (by decide +kernel)]; exact ⟨rfl, rfl⟩))
    (fun os started H enc _ => lifted os started H enc)
theorem proved : Rows.BindBitsSaid := over
#print axioms proved
end Go.Proofs.Ytkpaibkkigfahaa.bindBits
namespace Go.Proofs.Ytkpaibkkigfahaa
/-- The row, under a short name, for the claim. -/
theorem bindBits_holds : Rows.BindBitsSaid := bindBits.proved
end Go.Proofs.Ytkpaibkkigfahaa
