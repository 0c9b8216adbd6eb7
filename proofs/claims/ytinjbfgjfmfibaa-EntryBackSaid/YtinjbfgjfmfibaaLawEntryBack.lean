/- The statement EntryBack: for every input it returns true, and what came in reads as before. -/
import Derived.Test.YtinjbfgjfmfibaaRows
import Derived.Test.YtinjbfgjfmfibaaEntL
import Derived.WalkKit
import Derived.ProofKit
import Derived.OpenShut
import Derived.ShutString
import Derived.ChangeOld
import Derived.Below
import Derived.SizedLaws
import Derived.Lib.SmallJoins
import Derived.Deep.Slices
import Derived.Deep.Fields
import Derived.ChangeSame
import Derived.Test.YtinjbfgjfmfibaaWSized
import Derived.Test.YtinjbfgjfmfibaaBase
namespace Go.Proofs.Ytinjbfgjfmfibaa.entryBack
open Go.ChangeShapes Go.WideShapes Go.ChangeAt Go.RowKit
open Go.ChangeMaps (open_string shut_string)
open Go.Proofs.YtinjbfgjfmfibaaW.PrintWords

set_option linter.unusedVariables false
theorem own : ownKnob Try.prog.godebug = none := by kernel_rfl
theorem laidOut : laidOutB Try.prog = true := by kernel_rfl
section
open Go.Joins Go.Deep
variable {H : Type} {enc : TypeId × Value → H} {P : Program} {w : World} {base : Nat} {spare : Nat → Bool} {held : Bool}
theorem open_aggL {r : Reach} {b0 : Nat} {t : TypeId} {fs : Array Field} {v : Value} {d : DataW H} {p : List MemPlace} (hs : P.underlying t = some (.struct fs)) (hone : oneCellFields P fs = true) (hC : P.cellsOf t = fs.size)
    (hv : Value.okWide P w r b0 t v) (h : DataW.Trod enc P w base spare held t v d p) :
    ∃ (l : List Value) (ys : List (DataW H × List MemPlace)) (n : Nat), v = .agg l.toArray ∧ l.length = fs.size ∧
      ∀ (j : Nat) (f : Field), fs[j]? = some f → ∃ (u : Value) (y : DataW H × List MemPlace), l[j]? = some u ∧ ys[j]? = some y ∧ DataW.trod enc P w base spare held n f.type [u] = some y := by
  obtain ⟨cs, rfl, hsz⟩ := okWide_struct hs hv
  obtain ⟨l⟩ := cs
  obtain ⟨fuel, hf⟩ := h
  obtain ⟨xs, n, _, hx, _, hlen, hg⟩ := DataW.trod_struct hs hf
  have hl : l.length = fs.size := by simpa using hsz.trans hC
  refine ⟨l, xs, n, rfl, hl, fun j f hj => ?_⟩
  obtain ⟨ho, hk⟩ := hone_of hone j f hj
  have hjl : j < fs.size := (Array.getElem?_eq_some_iff.1 hj).1
  have h1 := hg j f hj
  rw [ho, hk] at h1
  have hone' : ((Value.agg ⟨l⟩).cells.toList.drop j).take 1 = [l[j]'(by omega)] := by
    show (l.drop j).take 1 = _
    rw [List.drop_eq_getElem_cons (by omega)]
    rfl
  rw [hone'] at h1
  have hxs : xs[j]? = some (xs[j]'(by omega)) := List.getElem?_eq_getElem (by omega)
  exact ⟨_, _, List.getElem?_eq_getElem (by omega), hxs, h1.trans hxs⟩
end

set_option maxHeartbeats 1000000 in
set_option maxRecDepth 100000 in
theorem lifted (os : Os) (started : os.Started) (H : Type) (enc : TypeId × Value → H) :
    ReturnsInHanded {} Try.checked os 8 .any (Rows.entryBackSpec.pre6 enc Try.prog Try.f8 Rows.entryBackRow.domain false) (Rows.entryBackSpec.post enc Try.prog Try.f8 false true false false) := by
  refine returnsInHanded_of_change_sized (C := Try.checked) own started (by kernel_rfl) Try.func8
    (ChangeSpec.witness6 (enc := enc) (C := Try.checked) false ⟨#[], #[.agg #[.int .i64 0, .int .i64 0, .int .u32 0, .int .u32 0, .int .i64 0]], []⟩ 8 (by kernel_rfl) (by kernel_rfl) (by kernel_rfl) (by kernel_rfl)) ?_
  intro W base args ds gs before hval0 hW hcnd hsz0 _
  have hsz : (DataW.weightsEach Try.prog (Try.f8.params.toList ++ Rows.entryBackSpec.plain.varTypes Try.prog) (ds ++ gs)).all (· ≤ reachBytes) = true := hsz0
  have hval : ∀ (j : Nat) t v, Try.f8.params[j]? = some t → args[j]? = some v → Value.okWide Try.prog W .any base t v := hval0
  have hW' := hW
  obtain ⟨p, q, hA0, hV, rfl, hfz, hnd⟩ := hW
  have hA : DataW.TrodAll enc Try.prog W 0 (fun _ => true) true Try.f8.params.toList args.toList ds p := hA0
  rw [Try.params8] at hA hval hsz
  obtain ⟨v0, vs0, d0, ds0, p0, q0, hargs, rfl, rfl, h0, r0⟩ := trodAll_cons hA
  obtain ⟨rfl, rfl, rfl⟩ := trodAll_nil r0
  obtain rfl : args = #[v0] := by cases args; simp_all
  obtain ⟨rfl, rfl⟩ := trodVars_none hV
  have kk0 := h0
  have lt0 : ∀ x ∈ p0, x.block < W.heap.size := by obtain ⟨m, hm⟩ := kk0; exact DataW.trod_lt m _ _ _ hm
  obtain ⟨l0, ys0, n0, rfl, hl0, hf0⟩ := open_aggL Try.underlying32 (by kernel_rfl) (by kernel_rfl) (hval 0 32 v0 rfl rfl) h0
  obtain ⟨u0_0, y0_0, e0_0, _, t0_0⟩ := hf0 0 _ rfl
  obtain ⟨a0_0, b0_0, _, w0_0⟩ := DataW.trod_int Try.underlying3 t0_0
  obtain rfl : u0_0 = .int .i64 a0_0 := by simpa using b0_0
  obtain ⟨u0_1, y0_1, e0_1, _, t0_1⟩ := hf0 1 _ rfl
  obtain ⟨a0_1, b0_1, _, w0_1⟩ := DataW.trod_int Try.underlying2 t0_1
  obtain rfl : u0_1 = .int .i64 a0_1 := by simpa using b0_1
  obtain ⟨u0_2, y0_2, e0_2, _, t0_2⟩ := hf0 2 _ rfl
  obtain ⟨a0_2, b0_2, _, w0_2⟩ := DataW.trod_int Try.underlying30 t0_2
  obtain rfl : u0_2 = .int .u32 a0_2 := by simpa using b0_2
  obtain ⟨u0_3, y0_3, e0_3, _, t0_3⟩ := hf0 3 _ rfl
  obtain ⟨a0_3, b0_3, _, w0_3⟩ := DataW.trod_int Try.underlying30 t0_3
  obtain rfl : u0_3 = .int .u32 a0_3 := by simpa using b0_3
  obtain ⟨u0_4, y0_4, e0_4, _, t0_4⟩ := hf0 4 _ rfl
  obtain ⟨a0_4, b0_4, _, w0_4⟩ := DataW.trod_int Try.underlying3 t0_4
  obtain rfl : u0_4 = .int .i64 a0_4 := by simpa using b0_4
  obtain rfl : l0 = [.int .i64 a0_0, .int .i64 a0_1, .int .u32 a0_2, .int .u32 a0_3, .int .i64 a0_4] := by
    apply List.ext_getElem?
    intro j
    rcases j with _ | j; · simpa using e0_0
    rcases j with _ | j; · simpa using e0_1
    rcases j with _ | j; · simpa using e0_2
    rcases j with _ | j; · simpa using e0_3
    rcases j with _ | j; · simpa using e0_4
    rw [List.getElem?_eq_none (by rw [hl0]; show 5 ≤ _; omega), List.getElem?_eq_none (by simp)]
  clear hA0 hval0 hsz0
  refine (Ent.back_walk W a0_0 w0_0 a0_1 w0_1 a0_2 w0_2 a0_3 w0_3 a0_4 w0_4).mono fun e W' ⟨he, bel⟩ => ?_
  subst he
  exact ⟨_, rfl, _, _, _, [], _, [], hW', trodAll_mk1 (shut_bool Try.underlying4 _), (trodAll_cons_mk (Below.trod laidOut (by kernel_rfl) (of_decide_eq_true (by kernel_rfl)) kk0 bel lt0) trodAll_mk0), rfl, bel.frame _, fun h => by cases h⟩
theorem over : Rows.entryBackRow.holds Try.pinned (OpenSpec.ofChange Rows.entryBackSpec) :=
  OpenClaim.holds_of_wide 8 Try.f8 rfl rfl rfl rfl rfl rfl rfl ⟨rfl, rfl, rfl, rfl, rfl⟩ rfl rfl rfl rfl rfl (by kernel_rfl) Try.func8 (by kernel_rfl)
    (of_decide_eq_true (by kernel_rfl)) (by unfold Func.isWrapper; first | (rw [if_pos (by decide +kernel)]; kernel_rfl) | (rw [if_neg (by decide +kernel)]; exact ⟨rfl, rfl⟩))
    (fun os started H enc _ => lifted os started H enc)
theorem proved : Rows.EntryBackSaid := over
#print axioms proved
end Go.Proofs.Ytinjbfgjfmfibaa.entryBack
namespace Go.Proofs.Ytinjbfgjfmfibaa
/-- The row, under a short name, for the claim. -/
theorem entryBack_holds : Rows.EntryBackSaid := entryBack.proved
end Go.Proofs.Ytinjbfgjfmfibaa
