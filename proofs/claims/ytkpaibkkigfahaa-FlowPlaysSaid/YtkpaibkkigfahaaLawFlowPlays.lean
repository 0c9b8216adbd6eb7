/- The statement FlowPlays: for every input it returns true, and what came in reads as before. -/
import Derived.Test.YtkpaibkkigfahaaRows
import Derived.Test.YtkpaibkkigfahaaRf10
import Derived.WalkKit
import Derived.ProofKit
import Derived.OpenShut
import Derived.ShutString
import Derived.ChangeOld
import Derived.Below
import Derived.SizedLaws
import Derived.Lib.SmallJoins
import Derived.Deep.Slices
import Derived.Deep.Fields
import Derived.ChangeSame
import Derived.Test.YtkpaibkkigfahaaWSized
import Derived.Test.YtkpaibkkigfahaaBase
namespace Go.Proofs.Ytkpaibkkigfahaa.flowPlays
open Go.ChangeShapes Go.WideShapes Go.ChangeAt Go.RowKit
open Go.ChangeMaps (open_string shut_string)
open Go.Proofs.YtkpaibkkigfahaaW.PrintWords

set_option linter.unusedVariables false
theorem own : ownKnob Try.prog.godebug = none := by kernel_rfl
theorem laidOut : laidOutB Try.prog = true := by kernel_rfl
section
open Go.Deep
variable {H : Type} {enc : TypeId × Value → H} {P : Program} {w : World} {base : Nat} {spare : Nat → Bool} {held : Bool}
theorem rows_open {α : Type} {d : Kd α} {W : World} {a : Addr} {len : Nat} (okx : α → Prop) (hlen : len ≤ 9223372036854775807)
    (h : ∀ i, i < len → ∃ (x : α) (c : List Value), okx x ∧ c.length = d.sz ∧ d.K W x c ∧ ∀ j u, c[j]? = some u → W.cell? (a.add (i * d.sz + j)) = some u) :
    ∃ xs : List α, xs.length = len ∧ d.C W (some a) len xs ∧ ∀ x ∈ xs, okx x := by
  refine ⟨List.ofFn (fun i : Fin len => Classical.choose (h i.1 i.2)), by simp, ⟨by simp, hlen, fun _ => ⟨a, rfl, fun j p hj => ?_⟩⟩, fun x hx => ?_⟩
  · obtain ⟨hjl, hp⟩ := List.getElem?_eq_some_iff.1 hj
    have hj' : j < len := by simpa using hjl
    rw [List.getElem_ofFn] at hp
    subst hp
    obtain ⟨c, h1⟩ := Classical.choose_spec (h j hj')
    exact ⟨c, h1.2.1, h1.2.2.1, h1.2.2.2⟩
  · obtain ⟨i, rfl⟩ := (List.mem_ofFn ..).1 hx
    obtain ⟨c, h1⟩ := Classical.choose_spec (h i.1 i.2)
    exact h1.1
end

section
open Go.Deep
variable {H : Type} {enc : TypeId × Value → H} {P : Program} {w : World} {base : Nat} {spare : Nat → Bool} {held : Bool}
theorem open_st {t : TypeId} {fs : Array Field} {fuel : Nat} {cs : List Value} {x : DataW H × List MemPlace} (hs : P.underlying t = some (.struct fs)) (h : DataW.trod enc P w base spare held fuel t cs = some x) :
    ∃ n : Nat, ∀ (j : Nat) (f : Field), fs[j]? = some f → ∃ y : DataW H × List MemPlace, DataW.trod enc P w base spare held n f.type ((cs.drop f.offset).take (P.cellsOf f.type)) = some y := by
  obtain ⟨ys, n, _, _, _, hyl, hf⟩ := DataW.trod_struct hs h
  refine ⟨n, fun j f hj => ?_⟩
  have hjl : j < fs.size := (Array.getElem?_eq_some_iff.1 hj).1
  exact ⟨ys[j]'(by omega), (hf j f hj).trans (List.getElem?_eq_getElem (by omega))⟩
theorem open_slice_st {t e : TypeId} {fuel : Nat} {cs : List Value} {x : DataW H × List MemPlace} (ht : P.underlying t = some (.slice e)) (h : DataW.trod enc P w base spare held fuel t cs = some x) :
    (cs = [.slice none 0 0] ∧ x = (.nil, [])) ∨
    ∃ (a : Addr) (len cap : Nat), cs = [.slice (some a) len cap] ∧ len ≤ cap ∧ cap ≤ maxLen ∧ ∀ i, i < len → ∃ (n : Nat) (cs' : List Value) (y : DataW H × List MemPlace), cs'.length = P.cellsOf e ∧ (∀ j u, cs'[j]? = some u → w.cell? (a.add (i * P.cellsOf e + j)) = some u) ∧ DataW.trod enc P w base spare held n e cs' = some y := by
  rcases open_slice ht h with h0 | ⟨a, len, cap, m, n, D, Pl, hcs, hb, hl, hm, hmm, hx, hi⟩
  · exact .inl h0
  · refine .inr ⟨a, len, cap, hcs, hl, hm, fun i hil => ?_⟩
    have him : i < m := by rw [hmm]; split <;> omega
    obtain ⟨cs', hc, ht'⟩ := hi i him
    obtain ⟨_, hcl, hat⟩ := World.cells?_some hc
    refine ⟨n, cs', _, hcl, fun j u hj => ?_, ht'⟩
    have hjl : j < cs'.length := (List.getElem?_eq_some_iff.1 hj).1
    rw [← Go.Deep.add_add, hat j (by omega), hj]
end

set_option maxHeartbeats 1000000 in
set_option maxRecDepth 100000 in
theorem lifted (os : Os) (started : os.Started) (H : Type) (enc : TypeId × Value → H) :
    ReturnsInHanded {} Try.checked os 9 .any (Rows.flowPlaysSpec.pre6 enc Try.prog Try.f9 Rows.flowPlaysRow.domain false) (Rows.flowPlaysSpec.post enc Try.prog Try.f9 false true false false) := by
  refine returnsInHanded_of_change_sized (C := Try.checked) own started (by kernel_rfl) Try.func9
    (ChangeSpec.witness6 (enc := enc) (C := Try.checked) false ⟨#[], #[.slice none 0 0], []⟩ 8 (by kernel_rfl) (by kernel_rfl) (by kernel_rfl) (by kernel_rfl)) ?_
  intro W base args ds gs before hval0 hW hcnd hsz0 _
  have hsz : (DataW.weightsEach Try.prog (Try.f9.params.toList ++ Rows.flowPlaysSpec.plain.varTypes Try.prog) (ds ++ gs)).all (· ≤ reachBytes) = true := hsz0
  have hval : ∀ (j : Nat) t v, Try.f9.params[j]? = some t → args[j]? = some v → Value.okWide Try.prog W .any base t v := hval0
  have hW' := hW
  obtain ⟨p, q, hA0, hV, rfl, hfz, hnd⟩ := hW
  have hA : DataW.TrodAll enc Try.prog W 0 (fun _ => true) true Try.f9.params.toList args.toList ds p := hA0
  rw [Try.params9] at hA hval hsz
  obtain ⟨v0, vs0, d0, ds0, p0, q0, hargs, rfl, rfl, h0, r0⟩ := trodAll_cons hA
  obtain ⟨rfl, rfl, rfl⟩ := trodAll_nil r0
  obtain rfl : args = #[v0] := by cases args; simp_all
  obtain ⟨rfl, rfl⟩ := trodVars_none hV
  have kk0 := h0
  have lt0 : ∀ x ∈ p0, x.block < W.heap.size := by obtain ⟨m, hm⟩ := kk0; exact DataW.trod_lt m _ _ _ hm
  obtain ⟨a0, len0, cap0, rfl⟩ := okWide_slice Try.underlying54 (hval 0 54 v0 rfl rfl)
  obtain ⟨l0, rfl, hC0, hc0, hw0⟩ : ∃ l : List Fl.SD, l.length = len0 ∧ Kd.C Fl.kD W a0 l.length l ∧ l.length ≤ cap0 ∧ ∀ x ∈ l, (fun x : Fl.SD => (Lit.int .i64 x.f0).wf = true ∧ (Lit.int .i64 x.f1.f0).wf = true ∧ (Lit.int .u32 x.f1.f1.f0).wf = true ∧ (Lit.int .i64 x.f1.f1.f1).wf = true ∧ (Lit.int .u32 x.f1.f2.f0).wf = true ∧ (Lit.int .i64 x.f1.f2.f1).wf = true ∧ (Lit.int .i64 x.f1.f3).wf = true ∧ (Lit.int .i64 x.f1.f4).wf = true ∧ (Lit.int .i64 x.f1.f5).wf = true ∧ True) x := by
    obtain ⟨fuel, hf⟩ := h0
    rcases open_slice_st Try.underlying54 hf with ⟨hcs, _⟩ | ⟨x, l, c, hcs, hl, hm, hi⟩
    · simp [Value.cells] at hcs
      obtain ⟨rfl, rfl, rfl⟩ := hcs
      exact ⟨[], rfl, Kd.C_nil _ _, Nat.le_refl _, fun x hx => by cases hx⟩
    · simp [Value.cells] at hcs
      obtain ⟨rfl, rfl, rfl⟩ := hcs
      obtain ⟨xs, h1, h2, h3⟩ := rows_open (d := Fl.kD) (W := W) (a := x) (len := len0) (fun x : Fl.SD => (Lit.int .i64 x.f0).wf = true ∧ (Lit.int .i64 x.f1.f0).wf = true ∧ (Lit.int .u32 x.f1.f1.f0).wf = true ∧ (Lit.int .i64 x.f1.f1.f1).wf = true ∧ (Lit.int .u32 x.f1.f2.f0).wf = true ∧ (Lit.int .i64 x.f1.f2.f1).wf = true ∧ (Lit.int .i64 x.f1.f3).wf = true ∧ (Lit.int .i64 x.f1.f4).wf = true ∧ (Lit.int .i64 x.f1.f5).wf = true ∧ True) (Nat.le_trans (Nat.le_trans hl hm) (by decide)) (fun i hi' => by
        obtain ⟨n, cs', y, hl', hcell, hy⟩ := hi i hi'
        rw [show Try.prog.cellsOf 59 = 9 from by kernel_rfl] at hl' hcell
        obtain ⟨m, hfld⟩ := open_st Try.underlying59 hy
        clear hy
        obtain ⟨c0, c1, c2, c3, c4, c5, c6, c7, c8, rfl⟩ : ∃ c0 c1 c2 c3 c4 c5 c6 c7 c8, cs' = [c0, c1, c2, c3, c4, c5, c6, c7, c8] := by
          match cs', hl' with
          | [c0, c1, c2, c3, c4, c5, c6, c7, c8], _ => exact ⟨_, _, _, _, _, _, _, _, _, rfl⟩
        clear hl'
        obtain ⟨y_0, t_0⟩ := hfld 0 _ rfl
        replace t_0 : DataW.trod enc Try.prog W 0 (fun _ => true) true m 3 (([c0, c1, c2, c3, c4, c5, c6, c7, c8].drop 0).take (Try.prog.cellsOf 3)) = some y_0 := t_0
        rw [show Try.prog.cellsOf 3 = 1 from by kernel_rfl] at t_0
        replace t_0 : DataW.trod enc Try.prog W 0 (fun _ => true) true m 3 [c0] = some y_0 := t_0
        obtain ⟨q0, b0, _, w0⟩ := DataW.trod_int Try.underlying3 t_0
        obtain rfl : c0 = .int .i64 q0 := by simpa using b0
        obtain ⟨y_1, t_1⟩ := hfld 1 _ rfl
        replace t_1 : DataW.trod enc Try.prog W 0 (fun _ => true) true m 46 (([_, c1, c2, c3, c4, c5, c6, c7, c8].drop 1).take (Try.prog.cellsOf 46)) = some y_1 := t_1
        rw [show Try.prog.cellsOf 46 = 8 from by kernel_rfl] at t_1
        replace t_1 : DataW.trod enc Try.prog W 0 (fun _ => true) true m 46 [c1, c2, c3, c4, c5, c6, c7, c8] = some y_1 := t_1
        obtain ⟨m_1, g_1⟩ := open_st Try.underlying46 t_1
        obtain ⟨y_1_0, t_1_0⟩ := g_1 0 _ rfl
        replace t_1_0 : DataW.trod enc Try.prog W 0 (fun _ => true) true m_1 3 (([c1, c2, c3, c4, c5, c6, c7, c8].drop 0).take (Try.prog.cellsOf 3)) = some y_1_0 := t_1_0
        rw [show Try.prog.cellsOf 3 = 1 from by kernel_rfl] at t_1_0
        replace t_1_0 : DataW.trod enc Try.prog W 0 (fun _ => true) true m_1 3 [c1] = some y_1_0 := t_1_0
        obtain ⟨q1, b1, _, w1⟩ := DataW.trod_int Try.underlying3 t_1_0
        obtain rfl : c1 = .int .i64 q1 := by simpa using b1
        obtain ⟨y_1_1, t_1_1⟩ := g_1 1 _ rfl
        replace t_1_1 : DataW.trod enc Try.prog W 0 (fun _ => true) true m_1 29 (([_, c2, c3, c4, c5, c6, c7, c8].drop 1).take (Try.prog.cellsOf 29)) = some y_1_1 := t_1_1
        rw [show Try.prog.cellsOf 29 = 2 from by kernel_rfl] at t_1_1
        replace t_1_1 : DataW.trod enc Try.prog W 0 (fun _ => true) true m_1 29 [c2, c3] = some y_1_1 := t_1_1
        obtain ⟨m_1_1, g_1_1⟩ := open_st Try.underlying29 t_1_1
        obtain ⟨y_1_1_0, t_1_1_0⟩ := g_1_1 0 _ rfl
        replace t_1_1_0 : DataW.trod enc Try.prog W 0 (fun _ => true) true m_1_1 27 (([c2, c3].drop 0).take (Try.prog.cellsOf 27)) = some y_1_1_0 := t_1_1_0
        rw [show Try.prog.cellsOf 27 = 1 from by kernel_rfl] at t_1_1_0
        replace t_1_1_0 : DataW.trod enc Try.prog W 0 (fun _ => true) true m_1_1 27 [c2] = some y_1_1_0 := t_1_1_0
        obtain ⟨q2, b2, _, w2⟩ := DataW.trod_int Try.underlying27 t_1_1_0
        obtain rfl : c2 = .int .u32 q2 := by simpa using b2
        obtain ⟨y_1_1_1, t_1_1_1⟩ := g_1_1 1 _ rfl
        replace t_1_1_1 : DataW.trod enc Try.prog W 0 (fun _ => true) true m_1_1 3 (([_, c3].drop 1).take (Try.prog.cellsOf 3)) = some y_1_1_1 := t_1_1_1
        rw [show Try.prog.cellsOf 3 = 1 from by kernel_rfl] at t_1_1_1
        replace t_1_1_1 : DataW.trod enc Try.prog W 0 (fun _ => true) true m_1_1 3 [c3] = some y_1_1_1 := t_1_1_1
        obtain ⟨q3, b3, _, w3⟩ := DataW.trod_int Try.underlying3 t_1_1_1
        obtain rfl : c3 = .int .i64 q3 := by simpa using b3
        obtain ⟨y_1_2, t_1_2⟩ := g_1 2 _ rfl
        replace t_1_2 : DataW.trod enc Try.prog W 0 (fun _ => true) true m_1 29 (([_, _, _, c4, c5, c6, c7, c8].drop 3).take (Try.prog.cellsOf 29)) = some y_1_2 := t_1_2
        rw [show Try.prog.cellsOf 29 = 2 from by kernel_rfl] at t_1_2
        replace t_1_2 : DataW.trod enc Try.prog W 0 (fun _ => true) true m_1 29 [c4, c5] = some y_1_2 := t_1_2
        obtain ⟨m_1_2, g_1_2⟩ := open_st Try.underlying29 t_1_2
        obtain ⟨y_1_2_0, t_1_2_0⟩ := g_1_2 0 _ rfl
        replace t_1_2_0 : DataW.trod enc Try.prog W 0 (fun _ => true) true m_1_2 27 (([c4, c5].drop 0).take (Try.prog.cellsOf 27)) = some y_1_2_0 := t_1_2_0
        rw [show Try.prog.cellsOf 27 = 1 from by kernel_rfl] at t_1_2_0
        replace t_1_2_0 : DataW.trod enc Try.prog W 0 (fun _ => true) true m_1_2 27 [c4] = some y_1_2_0 := t_1_2_0
        obtain ⟨q4, b4, _, w4⟩ := DataW.trod_int Try.underlying27 t_1_2_0
        obtain rfl : c4 = .int .u32 q4 := by simpa using b4
        obtain ⟨y_1_2_1, t_1_2_1⟩ := g_1_2 1 _ rfl
        replace t_1_2_1 : DataW.trod enc Try.prog W 0 (fun _ => true) true m_1_2 3 (([_, c5].drop 1).take (Try.prog.cellsOf 3)) = some y_1_2_1 := t_1_2_1
        rw [show Try.prog.cellsOf 3 = 1 from by kernel_rfl] at t_1_2_1
        replace t_1_2_1 : DataW.trod enc Try.prog W 0 (fun _ => true) true m_1_2 3 [c5] = some y_1_2_1 := t_1_2_1
        obtain ⟨q5, b5, _, w5⟩ := DataW.trod_int Try.underlying3 t_1_2_1
        obtain rfl : c5 = .int .i64 q5 := by simpa using b5
        obtain ⟨y_1_3, t_1_3⟩ := g_1 3 _ rfl
        replace t_1_3 : DataW.trod enc Try.prog W 0 (fun _ => true) true m_1 2 (([_, _, _, _, _, c6, c7, c8].drop 5).take (Try.prog.cellsOf 2)) = some y_1_3 := t_1_3
        rw [show Try.prog.cellsOf 2 = 1 from by kernel_rfl] at t_1_3
        replace t_1_3 : DataW.trod enc Try.prog W 0 (fun _ => true) true m_1 2 [c6] = some y_1_3 := t_1_3
        obtain ⟨q6, b6, _, w6⟩ := DataW.trod_int Try.underlying2 t_1_3
        obtain rfl : c6 = .int .i64 q6 := by simpa using b6
        obtain ⟨y_1_4, t_1_4⟩ := g_1 4 _ rfl
        replace t_1_4 : DataW.trod enc Try.prog W 0 (fun _ => true) true m_1 3 (([_, _, _, _, _, _, c7, c8].drop 6).take (Try.prog.cellsOf 3)) = some y_1_4 := t_1_4
        rw [show Try.prog.cellsOf 3 = 1 from by kernel_rfl] at t_1_4
        replace t_1_4 : DataW.trod enc Try.prog W 0 (fun _ => true) true m_1 3 [c7] = some y_1_4 := t_1_4
        obtain ⟨q7, b7, _, w7⟩ := DataW.trod_int Try.underlying3 t_1_4
        obtain rfl : c7 = .int .i64 q7 := by simpa using b7
        obtain ⟨y_1_5, t_1_5⟩ := g_1 5 _ rfl
        replace t_1_5 : DataW.trod enc Try.prog W 0 (fun _ => true) true m_1 3 (([_, _, _, _, _, _, _, c8].drop 7).take (Try.prog.cellsOf 3)) = some y_1_5 := t_1_5
        rw [show Try.prog.cellsOf 3 = 1 from by kernel_rfl] at t_1_5
        replace t_1_5 : DataW.trod enc Try.prog W 0 (fun _ => true) true m_1 3 [c8] = some y_1_5 := t_1_5
        obtain ⟨q8, b8, _, w8⟩ := DataW.trod_int Try.underlying3 t_1_5
        obtain rfl : c8 = .int .i64 q8 := by simpa using b8
        exact ⟨⟨q0, ⟨q1, ⟨q2, q3⟩, ⟨q4, q5⟩, q6, q7, q8⟩⟩, [.int .i64 q0, .int .i64 q1, .int .u32 q2, .int .i64 q3, .int .u32 q4, .int .i64 q5, .int .i64 q6, .int .i64 q7, .int .i64 q8], ⟨w0, w1, w2, w3, w4, w5, w6, w7, w8, trivial⟩, rfl, Fl.kD_mk W _, hcell⟩)
      exact ⟨xs, h1, by rw [h1]; exact h2, by rw [h1]; exact hl, h3⟩
  clear hA0 hval0 hsz0
  refine (Fl.plays_walk W a0 cap0 l0 hC0 hc0 hw0).mono fun e W' ⟨he, bel⟩ => ?_
  subst he
  exact ⟨_, rfl, _, _, _, [], _, [], hW', trodAll_mk1 (shut_bool Try.underlying4 _), (trodAll_cons_mk (Below.trod laidOut (by kernel_rfl) (of_decide_eq_true (by kernel_rfl)) kk0 bel lt0) trodAll_mk0), rfl, bel.frame _, fun h => by cases h⟩
theorem over : Rows.flowPlaysRow.holds Try.pinned (OpenSpec.ofChange Rows.flowPlaysSpec) :=
  OpenClaim.holds_of_wide 9 Try.f9 rfl rfl rfl rfl rfl rfl rfl ⟨rfl, rfl, rfl, rfl, rfl⟩ rfl rfl rfl rfl rfl (by kernel_rfl) Try.func9 (by kernel_rfl)
    (of_decide_eq_true (by kernel_rfl)) (by unfold Func.isWrapper; first | (rw [if_pos (by decide +kernel)]; kernel_rfl) | (rw [if_neg (by decide +kernel)]; exact ⟨rfl, rfl⟩))
    (fun os started H enc _ => lifted os started H enc)
theorem proved : Rows.FlowPlaysSaid := over
#print axioms proved
end Go.Proofs.Ytkpaibkkigfahaa.flowPlays
namespace Go.Proofs.Ytkpaibkkigfahaa
/-- The row, under a short name, for the claim. -/
theorem flowPlays_holds : Rows.FlowPlaysSaid := flowPlays.proved
end Go.Proofs.Ytkpaibkkigfahaa
