/- The statement AskMaps: for every input it returns true, and what came in reads as before. -/
import Derived.Test.YtpjkbokojlpjoaaRows
import Derived.Test.YtpjkbokojlpjoaaAsk7
import Derived.WalkKit
import Derived.ProofKit
import Derived.OpenShut
import Derived.ShutString
import Derived.ChangeOld
import Derived.Below
import Derived.SizedLaws
import Derived.Lib.SmallJoins
import Derived.Deep.Slices
import Derived.Deep.Fields
import Derived.ChangeSame
import Derived.Test.YtpjkbokojlpjoaaWSized
import Derived.Test.YtpjkbokojlpjoaaBase
namespace Go.Proofs.Ytpjkbokojlpjoaa.askMaps
open Go.ChangeShapes Go.WideShapes Go.ChangeAt Go.RowKit
open Go.ChangeMaps (open_string shut_string)
open Go.Proofs.YtpjkbokojlpjoaaW.PrintWords

set_option linter.unusedVariables false
theorem own : ownKnob Try.prog.godebug = none := by kernel_rfl
theorem laidOut : laidOutB Try.prog = true := by kernel_rfl
section
variable {H : Type} {enc : TypeId × Value → H} {W : World}
theorem open_bytes16 {v : Value} {d : DataW H} {p : List MemPlace} (hv : Value.okWide Try.prog W .any 0 25 v) (h : DataW.Trod enc Try.prog W 0 (fun _ => true) true 25 v d p) :
    ∃ l : List Int, v = Ak.arr l ∧ l.length = 16 ∧ Oct.Byt l := by
  simp only [Value.okWide, Try.underlying25] at hv
  obtain ⟨cs, rfl, hsz, _⟩ := hv
  rw [show Try.prog.cellsOf 25 = 16 from by kernel_rfl] at hsz
  obtain ⟨cs⟩ := cs
  have hl : cs.length = 16 := by simpa using hsz
  obtain ⟨fuel, hf⟩ := h
  obtain ⟨xs, m, _, _, _, hxl, hi⟩ := DataW.trod_array Try.underlying25 hf
  have hg : ∀ (i : Nat) (hi : i < cs.length), ∃ n : Int, cs[i] = .int .u8 n ∧ 0 ≤ n ∧ n ≤ 255 := by
    intro i hlt
    have h1 := hi i (by omega)
    rw [show Try.prog.cellsOf 5 = 1 from by kernel_rfl, Nat.mul_one] at h1
    have h2 : ((Value.agg ⟨cs⟩).cells.toList.drop i).take 1 = [cs[i]] := by
      show (cs.drop i).take 1 = _
      rw [List.drop_eq_getElem_cons hlt]
      rfl
    rw [h2, List.getElem?_eq_getElem (by omega : i < xs.length)] at h1
    obtain ⟨n, b, _, wf⟩ := DataW.trod_int Try.underlying5 h1
    refine ⟨n, by simpa using b, ?_⟩
    have hmin : IntKind.u8.min = 0 := rfl
    have hmax : IntKind.u8.max = 255 := rfl
    simp only [Lit.wf, Bool.and_eq_true, decide_eq_true_eq] at wf
    omega
  refine ⟨List.ofFn (fun i : Fin cs.length => Classical.choose (hg i.1 i.2)), ?_, by simpa using hl, ?_⟩
  · unfold Ak.arr
    congr 1
    apply Array.ext'
    show cs = encs (Value.int .u8) _
    unfold encs
    apply List.ext_getElem
    · simp
    · intro i h1 h2
      rw [List.getElem_map, List.getElem_ofFn]
      exact (Classical.choose_spec (hg i h1)).1
  · intro x hx
    obtain ⟨i, rfl⟩ := (List.mem_ofFn ..).1 hx
    exact (Classical.choose_spec (hg i.1 i.2)).2
end

set_option maxHeartbeats 1000000 in
set_option maxRecDepth 100000 in
theorem lifted (os : Os) (started : os.Started) (H : Type) (enc : TypeId × Value → H) :
    ReturnsInHanded {} Try.checked os 4 .any (Rows.askMapsSpec.pre6 enc Try.prog Try.f4 Rows.askMapsRow.domain false) (Rows.askMapsSpec.post enc Try.prog Try.f4 false true false false) := by
  refine returnsInHanded_of_change_sized (C := Try.checked) own started (by kernel_rfl) Try.func4
    (ChangeSpec.witness6 (enc := enc) (C := Try.checked) false ⟨#[], #[.int .u32 0, .agg #[.int .u8 0, .int .u8 0, .int .u8 0, .int .u8 0, .int .u8 0, .int .u8 0, .int .u8 0, .int .u8 0, .int .u8 0, .int .u8 0, .int .u8 0, .int .u8 0, .int .u8 0, .int .u8 0, .int .u8 0, .int .u8 0]], []⟩ 8 (by kernel_rfl) (by kernel_rfl) (by kernel_rfl) (by kernel_rfl)) ?_
  intro W base args ds gs before hval0 hW hcnd hsz0 _
  have hsz : (DataW.weightsEach Try.prog (Try.f4.params.toList ++ Rows.askMapsSpec.plain.varTypes Try.prog) (ds ++ gs)).all (· ≤ reachBytes) = true := hsz0
  have hval : ∀ (j : Nat) t v, Try.f4.params[j]? = some t → args[j]? = some v → Value.okWide Try.prog W .any base t v := hval0
  have hW' := hW
  obtain ⟨p, q, hA0, hV, rfl, hfz, hnd⟩ := hW
  have hA : DataW.TrodAll enc Try.prog W 0 (fun _ => true) true Try.f4.params.toList args.toList ds p := hA0
  rw [Try.params4] at hA hval hsz
  obtain ⟨v0, vs0, d0, ds0, p0, q0, hargs, rfl, rfl, h0, r0⟩ := trodAll_cons hA
  obtain ⟨v1, vs1, d1, ds1, p1, q1, rfl, rfl, rfl, h1, r1⟩ := trodAll_cons r0
  obtain ⟨rfl, rfl, rfl⟩ := trodAll_nil r1
  obtain rfl : args = #[v0, v1] := by cases args; simp_all
  obtain ⟨rfl, rfl⟩ := trodVars_none hV
  have kk0 := h0
  have lt0 : ∀ x ∈ p0, x.block < W.heap.size := by obtain ⟨m, hm⟩ := kk0; exact DataW.trod_lt m _ _ _ hm
  obtain ⟨a0, rfl, _, _, w0⟩ := open_int Try.underlying23 (hval 0 23 v0 rfl rfl) h0
  have kk1 := h1
  have lt1 : ∀ x ∈ p1, x.block < W.heap.size := by obtain ⟨m, hm⟩ := kk1; exact DataW.trod_lt m _ _ _ hm
  obtain ⟨l1, rfl, hl1, hb1⟩ := open_bytes16 (hval 1 25 v1 rfl rfl) h1
  clear hA0 hval0 hsz0
  refine (Ak.maps_walk W a0 w0 l1 hl1 hb1).mono fun e W' ⟨he, bel⟩ => ?_
  subst he
  exact ⟨_, rfl, _, _, _, [], _, [], hW', trodAll_mk1 (shut_bool Try.underlying4 _), (trodAll_cons_mk (Below.trod laidOut (by kernel_rfl) (of_decide_eq_true (by kernel_rfl)) kk0 bel lt0) (trodAll_cons_mk (Below.trod laidOut (by kernel_rfl) (of_decide_eq_true (by kernel_rfl)) kk1 bel lt1) trodAll_mk0)), rfl, bel.frame _, fun h => by cases h⟩
theorem over : Rows.askMapsRow.holds Try.pinned (OpenSpec.ofChange Rows.askMapsSpec) :=
  OpenClaim.holds_of_wide 4 Try.f4 rfl rfl rfl rfl rfl rfl rfl ⟨rfl, rfl, rfl, rfl, rfl⟩ rfl rfl rfl rfl rfl (by kernel_rfl) Try.func4 (by kernel_rfl)
    (of_decide_eq_true (by kernel_rfl)) (by unfold Func.isWrapper; first | (rw [if_pos (by decide +kernel)]; kernel_rfl) | (rw [if_neg (by decide +kernel)]; exact ⟨rfl, rfl⟩))
    (fun os started H enc _ => lifted os started H enc)
theorem proved : Rows.AskMapsSaid := over
#print axioms proved
end Go.Proofs.Ytpjkbokojlpjoaa.askMaps
namespace Go.Proofs.Ytpjkbokojlpjoaa
/-- The row, under a short name, for the claim. -/
theorem askMaps_holds : Rows.AskMapsSaid := askMaps.proved
end Go.Proofs.Ytpjkbokojlpjoaa
