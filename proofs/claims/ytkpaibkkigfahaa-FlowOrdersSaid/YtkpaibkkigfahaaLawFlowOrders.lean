/- The statement FlowOrders: for every input it returns true, and what came in reads as before. -/
import Derived.Test.YtkpaibkkigfahaaRows
import Derived.Test.YtkpaibkkigfahaaFl12
import Derived.WalkKit
import Derived.ProofKit
import Derived.OpenShut
import Derived.ShutString
import Derived.ChangeOld
import Derived.Below
import Derived.SizedLaws
import Derived.Lib.SmallJoins
import Derived.Deep.Slices
import Derived.Deep.Fields
import Derived.ChangeSame
import Derived.Test.YtkpaibkkigfahaaWSized
import Derived.Test.YtkpaibkkigfahaaBase
namespace Go.Proofs.Ytkpaibkkigfahaa.flowOrders
open Go.ChangeShapes Go.WideShapes Go.ChangeAt Go.RowKit
open Go.ChangeMaps (open_string shut_string)
open Go.Proofs.YtkpaibkkigfahaaW.PrintWords

set_option linter.unusedVariables false
theorem own : ownKnob Try.prog.godebug = none := by kernel_rfl
theorem laidOut : laidOutB Try.prog = true := by kernel_rfl
section
open Go.Deep
variable {H : Type} {enc : TypeId × Value → H} {P : Program} {w : World} {base : Nat} {spare : Nat → Bool} {held : Bool}
theorem rows_open {α : Type} {d : Kd α} {W : World} {a : Addr} {len : Nat} (okx : α → Prop) (hlen : len ≤ 9223372036854775807)
    (h : ∀ i, i < len → ∃ (x : α) (c : List Value), okx x ∧ c.length = d.sz ∧ d.K W x c ∧ ∀ j u, c[j]? = some u → W.cell? (a.add (i * d.sz + j)) = some u) :
    ∃ xs : List α, xs.length = len ∧ d.C W (some a) len xs ∧ ∀ x ∈ xs, okx x := by
  refine ⟨List.ofFn (fun i : Fin len => Classical.choose (h i.1 i.2)), by simp, ⟨by simp, hlen, fun _ => ⟨a, rfl, fun j p hj => ?_⟩⟩, fun x hx => ?_⟩
  · obtain ⟨hjl, hp⟩ := List.getElem?_eq_some_iff.1 hj
    have hj' : j < len := by simpa using hjl
    rw [List.getElem_ofFn] at hp
    subst hp
    obtain ⟨c, h1⟩ := Classical.choose_spec (h j hj')
    exact ⟨c, h1.2.1, h1.2.2.1, h1.2.2.2⟩
  · obtain ⟨i, rfl⟩ := (List.mem_ofFn ..).1 hx
    obtain ⟨c, h1⟩ := Classical.choose_spec (h i.1 i.2)
    exact h1.1
end

section
open Go.Deep
variable {H : Type} {enc : TypeId × Value → H} {P : Program} {w : World} {base : Nat} {spare : Nat → Bool} {held : Bool}
theorem open_st {t : TypeId} {fs : Array Field} {fuel : Nat} {cs : List Value} {x : DataW H × List MemPlace} (hs : P.underlying t = some (.struct fs)) (h : DataW.trod enc P w base spare held fuel t cs = some x) :
    ∃ n : Nat, ∀ (j : Nat) (f : Field), fs[j]? = some f → ∃ y : DataW H × List MemPlace, DataW.trod enc P w base spare held n f.type ((cs.drop f.offset).take (P.cellsOf f.type)) = some y := by
  obtain ⟨ys, n, _, _, _, hyl, hf⟩ := DataW.trod_struct hs h
  refine ⟨n, fun j f hj => ?_⟩
  have hjl : j < fs.size := (Array.getElem?_eq_some_iff.1 hj).1
  exact ⟨ys[j]'(by omega), (hf j f hj).trans (List.getElem?_eq_getElem (by omega))⟩
theorem open_slice_st {t e : TypeId} {fuel : Nat} {cs : List Value} {x : DataW H × List MemPlace} (ht : P.underlying t = some (.slice e)) (h : DataW.trod enc P w base spare held fuel t cs = some x) :
    (cs = [.slice none 0 0] ∧ x = (.nil, [])) ∨
    ∃ (a : Addr) (len cap : Nat), cs = [.slice (some a) len cap] ∧ len ≤ cap ∧ cap ≤ maxLen ∧ ∀ i, i < len → ∃ (n : Nat) (cs' : List Value) (y : DataW H × List MemPlace), cs'.length = P.cellsOf e ∧ (∀ j u, cs'[j]? = some u → w.cell? (a.add (i * P.cellsOf e + j)) = some u) ∧ DataW.trod enc P w base spare held n e cs' = some y := by
  rcases open_slice ht h with h0 | ⟨a, len, cap, m, n, D, Pl, hcs, hb, hl, hm, hmm, hx, hi⟩
  · exact .inl h0
  · refine .inr ⟨a, len, cap, hcs, hl, hm, fun i hil => ?_⟩
    have him : i < m := by rw [hmm]; split <;> omega
    obtain ⟨cs', hc, ht'⟩ := hi i him
    obtain ⟨_, hcl, hat⟩ := World.cells?_some hc
    refine ⟨n, cs', _, hcl, fun j u hj => ?_, ht'⟩
    have hjl : j < cs'.length := (List.getElem?_eq_some_iff.1 hj).1
    rw [← Go.Deep.add_add, hat j (by omega), hj]
end

set_option maxHeartbeats 1000000 in
set_option maxRecDepth 100000 in
theorem lifted (os : Os) (started : os.Started) (H : Type) (enc : TypeId × Value → H) :
    ReturnsInHanded {} Try.checked os 7 .any (Rows.flowOrdersSpec.pre6 enc Try.prog Try.f7 Rows.flowOrdersRow.domain false) (Rows.flowOrdersSpec.post enc Try.prog Try.f7 false true false false) := by
  refine returnsInHanded_of_change_sized (C := Try.checked) own started (by kernel_rfl) Try.func7
    (ChangeSpec.witness6 (enc := enc) (C := Try.checked) false ⟨#[], #[.slice none 0 0, .int .i64 0], []⟩ 8 (by kernel_rfl) (by kernel_rfl) (by kernel_rfl) (by kernel_rfl)) ?_
  intro W base args ds gs before hval0 hW hcnd hsz0 _
  have hsz : (DataW.weightsEach Try.prog (Try.f7.params.toList ++ Rows.flowOrdersSpec.plain.varTypes Try.prog) (ds ++ gs)).all (· ≤ reachBytes) = true := hsz0
  have hval : ∀ (j : Nat) t v, Try.f7.params[j]? = some t → args[j]? = some v → Value.okWide Try.prog W .any base t v := hval0
  have hW' := hW
  obtain ⟨p, q, hA0, hV, rfl, hfz, hnd⟩ := hW
  have hA : DataW.TrodAll enc Try.prog W 0 (fun _ => true) true Try.f7.params.toList args.toList ds p := hA0
  rw [Try.params7] at hA hval hsz
  obtain ⟨v0, vs0, d0, ds0, p0, q0, hargs, rfl, rfl, h0, r0⟩ := trodAll_cons hA
  obtain ⟨v1, vs1, d1, ds1, p1, q1, rfl, rfl, rfl, h1, r1⟩ := trodAll_cons r0
  obtain ⟨rfl, rfl, rfl⟩ := trodAll_nil r1
  obtain rfl : args = #[v0, v1] := by cases args; simp_all
  obtain ⟨rfl, rfl⟩ := trodVars_none hV
  have kk0 := h0
  have lt0 : ∀ x ∈ p0, x.block < W.heap.size := by obtain ⟨m, hm⟩ := kk0; exact DataW.trod_lt m _ _ _ hm
  obtain ⟨a0, len0, cap0, rfl⟩ := okWide_slice Try.underlying41 (hval 0 41 v0 rfl rfl)
  obtain ⟨l0, rfl, hC0, hc0, hw0⟩ : ∃ l : List PFlowPlays.S46, l.length = len0 ∧ Kd.C PFlowPlays.k46 W a0 l.length l ∧ l.length ≤ cap0 ∧ ∀ x ∈ l, (fun x : PFlowPlays.S46 => (Lit.int .i64 x.f0).wf = true ∧ (Lit.int .u32 x.f1.f0).wf = true ∧ (Lit.int .i64 x.f1.f1).wf = true ∧ (Lit.int .u32 x.f2.f0).wf = true ∧ (Lit.int .i64 x.f2.f1).wf = true ∧ (Lit.int .i64 x.f3).wf = true ∧ (Lit.int .i64 x.f4).wf = true ∧ (Lit.int .i64 x.f5).wf = true ∧ True) x := by
    obtain ⟨fuel, hf⟩ := h0
    rcases open_slice_st Try.underlying41 hf with ⟨hcs, _⟩ | ⟨x, l, c, hcs, hl, hm, hi⟩
    · simp [Value.cells] at hcs
      obtain ⟨rfl, rfl, rfl⟩ := hcs
      exact ⟨[], rfl, Kd.C_nil _ _, Nat.le_refl _, fun x hx => by cases hx⟩
    · simp [Value.cells] at hcs
      obtain ⟨rfl, rfl, rfl⟩ := hcs
      obtain ⟨xs, h1, h2, h3⟩ := rows_open (d := PFlowPlays.k46) (W := W) (a := x) (len := len0) (fun x : PFlowPlays.S46 => (Lit.int .i64 x.f0).wf = true ∧ (Lit.int .u32 x.f1.f0).wf = true ∧ (Lit.int .i64 x.f1.f1).wf = true ∧ (Lit.int .u32 x.f2.f0).wf = true ∧ (Lit.int .i64 x.f2.f1).wf = true ∧ (Lit.int .i64 x.f3).wf = true ∧ (Lit.int .i64 x.f4).wf = true ∧ (Lit.int .i64 x.f5).wf = true ∧ True) (Nat.le_trans (Nat.le_trans hl hm) (by decide)) (fun i hi' => by
        obtain ⟨n, cs', y, hl', hcell, hy⟩ := hi i hi'
        rw [show Try.prog.cellsOf 46 = 8 from by kernel_rfl] at hl' hcell
        obtain ⟨m, hfld⟩ := open_st Try.underlying46 hy
        clear hy
        obtain ⟨c0, c1, c2, c3, c4, c5, c6, c7, rfl⟩ : ∃ c0 c1 c2 c3 c4 c5 c6 c7, cs' = [c0, c1, c2, c3, c4, c5, c6, c7] := by
          match cs', hl' with
          | [c0, c1, c2, c3, c4, c5, c6, c7], _ => exact ⟨_, _, _, _, _, _, _, _, rfl⟩
        clear hl'
        obtain ⟨y0, t0⟩ := hfld 0 _ rfl
        replace t0 : DataW.trod enc Try.prog W 0 (fun _ => true) true m 3 (([c0, c1, c2, c3, c4, c5, c6, c7].drop 0).take (Try.prog.cellsOf 3)) = some y0 := t0
        rw [show Try.prog.cellsOf 3 = 1 from by kernel_rfl] at t0
        replace t0 : DataW.trod enc Try.prog W 0 (fun _ => true) true m 3 [c0] = some y0 := t0
        obtain ⟨q0, b0, _, w0⟩ := DataW.trod_int Try.underlying3 t0
        obtain rfl : c0 = .int .i64 q0 := by simpa using b0
        obtain ⟨y1, t1⟩ := hfld 1 _ rfl
        replace t1 : DataW.trod enc Try.prog W 0 (fun _ => true) true m 29 (([_, c1, c2, c3, c4, c5, c6, c7].drop 1).take (Try.prog.cellsOf 29)) = some y1 := t1
        rw [show Try.prog.cellsOf 29 = 2 from by kernel_rfl] at t1
        replace t1 : DataW.trod enc Try.prog W 0 (fun _ => true) true m 29 [c1, c2] = some y1 := t1
        obtain ⟨m1, g1⟩ := open_st Try.underlying29 t1
        obtain ⟨y1_0, t1_0⟩ := g1 0 _ rfl
        replace t1_0 : DataW.trod enc Try.prog W 0 (fun _ => true) true m1 27 (([c1, c2].drop 0).take (Try.prog.cellsOf 27)) = some y1_0 := t1_0
        rw [show Try.prog.cellsOf 27 = 1 from by kernel_rfl] at t1_0
        replace t1_0 : DataW.trod enc Try.prog W 0 (fun _ => true) true m1 27 [c1] = some y1_0 := t1_0
        obtain ⟨q1, b1, _, w1⟩ := DataW.trod_int Try.underlying27 t1_0
        obtain rfl : c1 = .int .u32 q1 := by simpa using b1
        obtain ⟨y1_1, t1_1⟩ := g1 1 _ rfl
        replace t1_1 : DataW.trod enc Try.prog W 0 (fun _ => true) true m1 3 (([_, c2].drop 1).take (Try.prog.cellsOf 3)) = some y1_1 := t1_1
        rw [show Try.prog.cellsOf 3 = 1 from by kernel_rfl] at t1_1
        replace t1_1 : DataW.trod enc Try.prog W 0 (fun _ => true) true m1 3 [c2] = some y1_1 := t1_1
        obtain ⟨q2, b2, _, w2⟩ := DataW.trod_int Try.underlying3 t1_1
        obtain rfl : c2 = .int .i64 q2 := by simpa using b2
        obtain ⟨y2, t2⟩ := hfld 2 _ rfl
        replace t2 : DataW.trod enc Try.prog W 0 (fun _ => true) true m 29 (([_, _, _, c3, c4, c5, c6, c7].drop 3).take (Try.prog.cellsOf 29)) = some y2 := t2
        rw [show Try.prog.cellsOf 29 = 2 from by kernel_rfl] at t2
        replace t2 : DataW.trod enc Try.prog W 0 (fun _ => true) true m 29 [c3, c4] = some y2 := t2
        obtain ⟨m2, g2⟩ := open_st Try.underlying29 t2
        obtain ⟨y2_0, t2_0⟩ := g2 0 _ rfl
        replace t2_0 : DataW.trod enc Try.prog W 0 (fun _ => true) true m2 27 (([c3, c4].drop 0).take (Try.prog.cellsOf 27)) = some y2_0 := t2_0
        rw [show Try.prog.cellsOf 27 = 1 from by kernel_rfl] at t2_0
        replace t2_0 : DataW.trod enc Try.prog W 0 (fun _ => true) true m2 27 [c3] = some y2_0 := t2_0
        obtain ⟨q3, b3, _, w3⟩ := DataW.trod_int Try.underlying27 t2_0
        obtain rfl : c3 = .int .u32 q3 := by simpa using b3
        obtain ⟨y2_1, t2_1⟩ := g2 1 _ rfl
        replace t2_1 : DataW.trod enc Try.prog W 0 (fun _ => true) true m2 3 (([_, c4].drop 1).take (Try.prog.cellsOf 3)) = some y2_1 := t2_1
        rw [show Try.prog.cellsOf 3 = 1 from by kernel_rfl] at t2_1
        replace t2_1 : DataW.trod enc Try.prog W 0 (fun _ => true) true m2 3 [c4] = some y2_1 := t2_1
        obtain ⟨q4, b4, _, w4⟩ := DataW.trod_int Try.underlying3 t2_1
        obtain rfl : c4 = .int .i64 q4 := by simpa using b4
        obtain ⟨y3, t3⟩ := hfld 3 _ rfl
        replace t3 : DataW.trod enc Try.prog W 0 (fun _ => true) true m 2 (([_, _, _, _, _, c5, c6, c7].drop 5).take (Try.prog.cellsOf 2)) = some y3 := t3
        rw [show Try.prog.cellsOf 2 = 1 from by kernel_rfl] at t3
        replace t3 : DataW.trod enc Try.prog W 0 (fun _ => true) true m 2 [c5] = some y3 := t3
        obtain ⟨q5, b5, _, w5⟩ := DataW.trod_int Try.underlying2 t3
        obtain rfl : c5 = .int .i64 q5 := by simpa using b5
        obtain ⟨y4, t4⟩ := hfld 4 _ rfl
        replace t4 : DataW.trod enc Try.prog W 0 (fun _ => true) true m 3 (([_, _, _, _, _, _, c6, c7].drop 6).take (Try.prog.cellsOf 3)) = some y4 := t4
        rw [show Try.prog.cellsOf 3 = 1 from by kernel_rfl] at t4
        replace t4 : DataW.trod enc Try.prog W 0 (fun _ => true) true m 3 [c6] = some y4 := t4
        obtain ⟨q6, b6, _, w6⟩ := DataW.trod_int Try.underlying3 t4
        obtain rfl : c6 = .int .i64 q6 := by simpa using b6
        obtain ⟨y5, t5⟩ := hfld 5 _ rfl
        replace t5 : DataW.trod enc Try.prog W 0 (fun _ => true) true m 3 (([_, _, _, _, _, _, _, c7].drop 7).take (Try.prog.cellsOf 3)) = some y5 := t5
        rw [show Try.prog.cellsOf 3 = 1 from by kernel_rfl] at t5
        replace t5 : DataW.trod enc Try.prog W 0 (fun _ => true) true m 3 [c7] = some y5 := t5
        obtain ⟨q7, b7, _, w7⟩ := DataW.trod_int Try.underlying3 t5
        obtain rfl : c7 = .int .i64 q7 := by simpa using b7
        exact ⟨⟨q0, ⟨q1, q2⟩, ⟨q3, q4⟩, q5, q6, q7⟩, [.int .i64 q0, .int .u32 q1, .int .i64 q2, .int .u32 q3, .int .i64 q4, .int .i64 q5, .int .i64 q6, .int .i64 q7], ⟨w0, w1, w2, w3, w4, w5, w6, w7, trivial⟩, rfl, PFlowPlays.k46_mk W _, hcell⟩)
      exact ⟨xs, h1, by rw [h1]; exact h2, by rw [h1]; exact hl, h3⟩
  have kk1 := h1
  have lt1 : ∀ x ∈ p1, x.block < W.heap.size := by obtain ⟨m, hm⟩ := kk1; exact DataW.trod_lt m _ _ _ hm
  obtain ⟨a1, rfl, _, _, w1⟩ := open_int Try.underlying3 (hval 1 3 v1 rfl rfl) h1
  clear hA0 hval0 hsz0
  refine (Fl.orders_walk W a0 cap0 l0 hC0 hc0 hw0 a1 w1).mono fun e W' ⟨he, bel⟩ => ?_
  subst he
  exact ⟨_, rfl, _, _, _, [], _, [], hW', trodAll_mk1 (shut_bool Try.underlying4 _), (trodAll_cons_mk (Below.trod laidOut (by kernel_rfl) (of_decide_eq_true (by kernel_rfl)) kk0 bel lt0) (trodAll_cons_mk (Below.trod laidOut (by kernel_rfl) (of_decide_eq_true (by kernel_rfl)) kk1 bel lt1) trodAll_mk0)), rfl, bel.frame _, fun h => by cases h⟩
theorem over : Rows.flowOrdersRow.holds Try.pinned (OpenSpec.ofChange Rows.flowOrdersSpec) :=
  OpenClaim.holds_of_wide 7 Try.f7 rfl rfl rfl rfl rfl rfl rfl ⟨rfl, rfl, rfl, rfl, rfl⟩ rfl rfl rfl rfl rfl (by kernel_rfl) Try.func7 (by kernel_rfl)
    (of_decide_eq_true (by kernel_rfl)) (by unfold Func.isWrapper; first | (rw [if_pos (by decide +kernel)]; kernel_rfl) | (rw [if_neg (by decide +kernel)]; exact ⟨rfl, rfl⟩))
    (fun os started H enc _ => lifted os started H enc)
theorem proved : Rows.FlowOrdersSaid := over
#print axioms proved
end Go.Proofs.Ytkpaibkkigfahaa.flowOrders
namespace Go.Proofs.Ytkpaibkkigfahaa
/-- The row, under a short name, for the claim. -/
theorem flowOrders_holds : Rows.FlowOrdersSaid := flowOrders.proved
end Go.Proofs.Ytkpaibkkigfahaa
