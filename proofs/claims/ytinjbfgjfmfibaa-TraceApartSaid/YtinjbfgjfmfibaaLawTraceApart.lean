/- The statement TraceApart: for every input it returns true, and what came in reads as before. -/
import Derived.Test.YtinjbfgjfmfibaaRows
import Derived.Test.YtinjbfgjfmfibaaTr11
import Derived.WalkKit
import Derived.ProofKit
import Derived.OpenShut
import Derived.ShutString
import Derived.ChangeOld
import Derived.Below
import Derived.SizedLaws
import Derived.Lib.SmallJoins
import Derived.Deep.Slices
import Derived.Deep.Fields
import Derived.ChangeSame
import Derived.Test.YtinjbfgjfmfibaaWSized
import Derived.Test.YtinjbfgjfmfibaaBase
namespace Go.Proofs.Ytinjbfgjfmfibaa.traceApart
open Go.ChangeShapes Go.WideShapes Go.ChangeAt Go.RowKit
open Go.ChangeMaps (open_string shut_string)
open Go.Proofs.YtinjbfgjfmfibaaW.PrintWords

set_option linter.unusedVariables false
theorem own : ownKnob Try.prog.godebug = none := by kernel_rfl
theorem laidOut : laidOutB Try.prog = true := by kernel_rfl
section
open Go.Joins Go.Deep
variable {H : Type} {enc : TypeId × Value → H} {P : Program} {w : World} {base : Nat} {spare : Nat → Bool} {held : Bool}
theorem open_aggL {r : Reach} {b0 : Nat} {t : TypeId} {fs : Array Field} {v : Value} {d : DataW H} {p : List MemPlace} (hs : P.underlying t = some (.struct fs)) (hone : oneCellFields P fs = true) (hC : P.cellsOf t = fs.size)
    (hv : Value.okWide P w r b0 t v) (h : DataW.Trod enc P w base spare held t v d p) :
    ∃ (l : List Value) (ys : List (DataW H × List MemPlace)) (n : Nat), v = .agg l.toArray ∧ l.length = fs.size ∧
      ∀ (j : Nat) (f : Field), fs[j]? = some f → ∃ (u : Value) (y : DataW H × List MemPlace), l[j]? = some u ∧ ys[j]? = some y ∧ DataW.trod enc P w base spare held n f.type [u] = some y := by
  obtain ⟨cs, rfl, hsz⟩ := okWide_struct hs hv
  obtain ⟨l⟩ := cs
  obtain ⟨fuel, hf⟩ := h
  obtain ⟨xs, n, _, hx, _, hlen, hg⟩ := DataW.trod_struct hs hf
  have hl : l.length = fs.size := by simpa using hsz.trans hC
  refine ⟨l, xs, n, rfl, hl, fun j f hj => ?_⟩
  obtain ⟨ho, hk⟩ := hone_of hone j f hj
  have hjl : j < fs.size := (Array.getElem?_eq_some_iff.1 hj).1
  have h1 := hg j f hj
  rw [ho, hk] at h1
  have hone' : ((Value.agg ⟨l⟩).cells.toList.drop j).take 1 = [l[j]'(by omega)] := by
    show (l.drop j).take 1 = _
    rw [List.drop_eq_getElem_cons (by omega)]
    rfl
  rw [hone'] at h1
  have hxs : xs[j]? = some (xs[j]'(by omega)) := List.getElem?_eq_getElem (by omega)
  exact ⟨_, _, List.getElem?_eq_getElem (by omega), hxs, h1.trans hxs⟩
end

section
open Go.Deep
variable {H : Type} {enc : TypeId × Value → H} {P : Program} {w : World} {base : Nat} {spare : Nat → Bool} {held : Bool}
theorem open_slice_flds {t e : TypeId} {fs : Array Field} {fuel : Nat} {cs : List Value} {x : DataW H × List MemPlace} (ht : P.underlying t = some (.slice e)) (he : P.underlying e = some (.struct fs))
    (hone : oneCellFields P fs = true) (hC : P.cellsOf e = fs.size) (h : DataW.trod enc P w base spare held fuel t cs = some x) :
    (cs = [.slice none 0 0] ∧ x = (.nil, [])) ∨
    ∃ (a : Addr) (len cap : Nat), cs = [.slice (some a) len cap] ∧ len ≤ cap ∧ cap ≤ maxLen ∧ ∀ i, i < len → ∃ n : Nat, ∀ (j : Nat) (f : Field), fs[j]? = some f → ∃ (v : Value) (y : DataW H × List MemPlace), w.cell? (a.add (i * fs.size + j)) = some v ∧ DataW.trod enc P w base spare held n f.type [v] = some y := by
  rcases open_slice ht h with h0 | ⟨a, len, cap, m, n, D, Pl, hcs, hb, hl, hm, hmm, hx, hi⟩
  · exact .inl h0
  · refine .inr ⟨a, len, cap, hcs, hl, hm, fun i hil => ?_⟩
    have him : i < m := by rw [hmm]; split <;> omega
    obtain ⟨cs', hc, ht'⟩ := hi i him
    rw [hC] at hc
    obtain ⟨ys, n', hn', hy, hlen, hyl, hf⟩ := DataW.trod_struct he ht'
    obtain ⟨_, hcl, hat⟩ := World.cells?_some hc
    refine ⟨n', fun j f hj => ?_⟩
    obtain ⟨ho, hk⟩ := hone_of hone j f hj
    have hjl : j < fs.size := (Array.getElem?_eq_some_iff.1 hj).1
    have hcell := hat j hjl
    have hv : cs'[j]? = some (cs'[j]'(by omega)) := List.getElem?_eq_getElem (by omega)
    have h1 := hf j f hj
    rw [ho, hk] at h1
    have hone' : (cs'.drop j).take 1 = [cs'[j]'(by omega)] := by
      rw [List.drop_eq_getElem_cons (by omega)]
      rfl
    rw [hone'] at h1
    have hys : ys[j]? = some (ys[j]'(by omega)) := List.getElem?_eq_getElem (by omega)
    refine ⟨_, _, ?_, h1.trans hys⟩
    rw [← Go.Deep.add_add, hcell, hv]
theorem rows_open {α : Type} {d : Kd α} {W : World} {a : Addr} {len : Nat} (okx : α → Prop) (hlen : len ≤ 9223372036854775807)
    (h : ∀ i, i < len → ∃ (x : α) (c : List Value), okx x ∧ c.length = d.sz ∧ d.K W x c ∧ ∀ j u, c[j]? = some u → W.cell? (a.add (i * d.sz + j)) = some u) :
    ∃ xs : List α, xs.length = len ∧ d.C W (some a) len xs ∧ ∀ x ∈ xs, okx x := by
  refine ⟨List.ofFn (fun i : Fin len => Classical.choose (h i.1 i.2)), by simp, ⟨by simp, hlen, fun _ => ⟨a, rfl, fun j p hj => ?_⟩⟩, fun x hx => ?_⟩
  · obtain ⟨hjl, hp⟩ := List.getElem?_eq_some_iff.1 hj
    have hj' : j < len := by simpa using hjl
    rw [List.getElem_ofFn] at hp
    subst hp
    obtain ⟨c, h1⟩ := Classical.choose_spec (h j hj')
    exact ⟨c, h1.2.1, h1.2.2.1, h1.2.2.2⟩
  · obtain ⟨i, rfl⟩ := (List.mem_ofFn ..).1 hx
    obtain ⟨c, h1⟩ := Classical.choose_spec (h i.1 i.2)
    exact h1.1
end

set_option maxHeartbeats 1000000 in
set_option maxRecDepth 100000 in
theorem lifted (os : Os) (started : os.Started) (H : Type) (enc : TypeId × Value → H) :
    ReturnsInHanded {} Try.checked os 12 .any (Rows.traceApartSpec.pre6 enc Try.prog Try.f12 Rows.traceApartRow.domain false) (Rows.traceApartSpec.post enc Try.prog Try.f12 false true false false) := by
  refine returnsInHanded_of_change_sized (C := Try.checked) own started (by kernel_rfl) Try.func12
    (ChangeSpec.witness6 (enc := enc) (C := Try.checked) false ⟨#[], #[.slice none 0 0, .agg #[.int .u32 0, .int .i64 0, .int .i64 0]], []⟩ 8 (by kernel_rfl) (by kernel_rfl) (by kernel_rfl) (by kernel_rfl)) ?_
  intro W base args ds gs before hval0 hW hcnd hsz0 _
  have hsz : (DataW.weightsEach Try.prog (Try.f12.params.toList ++ Rows.traceApartSpec.plain.varTypes Try.prog) (ds ++ gs)).all (· ≤ reachBytes) = true := hsz0
  have hval : ∀ (j : Nat) t v, Try.f12.params[j]? = some t → args[j]? = some v → Value.okWide Try.prog W .any base t v := hval0
  have hW' := hW
  obtain ⟨p, q, hA0, hV, rfl, hfz, hnd⟩ := hW
  have hA : DataW.TrodAll enc Try.prog W 0 (fun _ => true) true Try.f12.params.toList args.toList ds p := hA0
  rw [Try.params12] at hA hval hsz
  obtain ⟨v0, vs0, d0, ds0, p0, q0, hargs, rfl, rfl, h0, r0⟩ := trodAll_cons hA
  obtain ⟨v1, vs1, d1, ds1, p1, q1, rfl, rfl, rfl, h1, r1⟩ := trodAll_cons r0
  obtain ⟨rfl, rfl, rfl⟩ := trodAll_nil r1
  obtain rfl : args = #[v0, v1] := by cases args; simp_all
  obtain ⟨rfl, rfl⟩ := trodVars_none hV
  have kk0 := h0
  have lt0 : ∀ x ∈ p0, x.block < W.heap.size := by obtain ⟨m, hm⟩ := kk0; exact DataW.trod_lt m _ _ _ hm
  obtain ⟨a0, len0, cap0, rfl⟩ := okWide_slice Try.underlying26 (hval 0 26 v0 rfl rfl)
  obtain ⟨l0, rfl, hC0, hc0, hw0⟩ : ∃ l : List Go.Proofs.Ytinjbfgjfmfibaa.PTraceSpans.S61, l.length = len0 ∧ Kd.C Go.Proofs.Ytinjbfgjfmfibaa.PTraceSpans.k61 W a0 l.length l ∧ l.length ≤ cap0 ∧ ∀ x ∈ l, (fun x : Go.Proofs.Ytinjbfgjfmfibaa.PTraceSpans.S61 => (Lit.int .u32 x.f0).wf = true ∧ (Lit.int .u32 x.f1).wf = true ∧ (Lit.int .i64 x.f2).wf = true ∧ (Lit.int .i64 x.f3).wf = true ∧ (Lit.int .i64 x.f4).wf = true ∧ True) x := by
    obtain ⟨fuel, hf⟩ := h0
    rcases open_slice_flds Try.underlying26 Try.underlying61 (by kernel_rfl) (by kernel_rfl) hf with ⟨hcs, _⟩ | ⟨x, l, c, hcs, hl, hm, hi⟩
    · simp [Value.cells] at hcs
      obtain ⟨rfl, rfl, rfl⟩ := hcs
      exact ⟨[], rfl, Kd.C_nil _ _, Nat.le_refl _, fun x hx => by cases hx⟩
    · simp [Value.cells] at hcs
      obtain ⟨rfl, rfl, rfl⟩ := hcs
      obtain ⟨xs, h1, h2, h3⟩ := rows_open (d := Go.Proofs.Ytinjbfgjfmfibaa.PTraceSpans.k61) (W := W) (a := x) (len := len0) (fun x : Go.Proofs.Ytinjbfgjfmfibaa.PTraceSpans.S61 => (Lit.int .u32 x.f0).wf = true ∧ (Lit.int .u32 x.f1).wf = true ∧ (Lit.int .i64 x.f2).wf = true ∧ (Lit.int .i64 x.f3).wf = true ∧ (Lit.int .i64 x.f4).wf = true ∧ True) (Nat.le_trans (Nat.le_trans hl hm) (by decide)) (fun i hi' => by
        obtain ⟨n, hfld⟩ := hi i hi'
        obtain ⟨v0, y0, c0, t0⟩ := hfld 0 _ rfl
        obtain ⟨q0, b0, _, w0⟩ := DataW.trod_int Try.underlying30 t0
        obtain rfl : v0 = .int .u32 q0 := by simpa using b0
        obtain ⟨v1, y1, c1, t1⟩ := hfld 1 _ rfl
        obtain ⟨q1, b1, _, w1⟩ := DataW.trod_int Try.underlying30 t1
        obtain rfl : v1 = .int .u32 q1 := by simpa using b1
        obtain ⟨v2, y2, c2, t2⟩ := hfld 2 _ rfl
        obtain ⟨q2, b2, _, w2⟩ := DataW.trod_int Try.underlying3 t2
        obtain rfl : v2 = .int .i64 q2 := by simpa using b2
        obtain ⟨v3, y3, c3, t3⟩ := hfld 3 _ rfl
        obtain ⟨q3, b3, _, w3⟩ := DataW.trod_int Try.underlying2 t3
        obtain rfl : v3 = .int .i64 q3 := by simpa using b3
        obtain ⟨v4, y4, c4, t4⟩ := hfld 4 _ rfl
        obtain ⟨q4, b4, _, w4⟩ := DataW.trod_int Try.underlying2 t4
        obtain rfl : v4 = .int .i64 q4 := by simpa using b4
        obtain ⟨v5, y5, c5, t5⟩ := hfld 5 _ rfl
        obtain ⟨q5, b5, _⟩ := DataW.trod_bool Try.underlying4 t5
        obtain rfl : v5 = .bool q5 := by simpa using b5
        refine ⟨⟨q0, q1, q2, q3, q4, q5⟩, [.int .u32 q0, .int .u32 q1, .int .i64 q2, .int .i64 q3, .int .i64 q4, .bool q5], ⟨w0, w1, w2, w3, w4, trivial⟩, rfl, Go.Proofs.Ytinjbfgjfmfibaa.PTraceSpans.k61_mk _ _, fun j u hj => ?_⟩
        rcases j with _ | j; · obtain rfl := Option.some.inj hj; exact c0
        rcases j with _ | j; · obtain rfl := Option.some.inj hj; exact c1
        rcases j with _ | j; · obtain rfl := Option.some.inj hj; exact c2
        rcases j with _ | j; · obtain rfl := Option.some.inj hj; exact c3
        rcases j with _ | j; · obtain rfl := Option.some.inj hj; exact c4
        rcases j with _ | j; · obtain rfl := Option.some.inj hj; exact c5
        simp at hj)
      exact ⟨xs, h1, by rw [h1]; exact h2, by rw [h1]; exact hl, h3⟩
  have kk1 := h1
  have lt1 : ∀ x ∈ p1, x.block < W.heap.size := by obtain ⟨m, hm⟩ := kk1; exact DataW.trod_lt m _ _ _ hm
  obtain ⟨l1, ys1, n1, rfl, hl1, hf1⟩ := open_aggL Try.underlying51 (by kernel_rfl) (by kernel_rfl) (hval 1 51 v1 rfl rfl) h1
  obtain ⟨u1_0, y1_0, e1_0, _, t1_0⟩ := hf1 0 _ rfl
  obtain ⟨a1_0, b1_0, _, w1_0⟩ := DataW.trod_int Try.underlying30 t1_0
  obtain rfl : u1_0 = .int .u32 a1_0 := by simpa using b1_0
  obtain ⟨u1_1, y1_1, e1_1, _, t1_1⟩ := hf1 1 _ rfl
  obtain ⟨a1_1, b1_1, _, w1_1⟩ := DataW.trod_int Try.underlying3 t1_1
  obtain rfl : u1_1 = .int .i64 a1_1 := by simpa using b1_1
  obtain ⟨u1_2, y1_2, e1_2, _, t1_2⟩ := hf1 2 _ rfl
  obtain ⟨a1_2, b1_2, _, w1_2⟩ := DataW.trod_int Try.underlying2 t1_2
  obtain rfl : u1_2 = .int .i64 a1_2 := by simpa using b1_2
  obtain rfl : l1 = [.int .u32 a1_0, .int .i64 a1_1, .int .i64 a1_2] := by
    apply List.ext_getElem?
    intro j
    rcases j with _ | j; · simpa using e1_0
    rcases j with _ | j; · simpa using e1_1
    rcases j with _ | j; · simpa using e1_2
    rw [List.getElem?_eq_none (by rw [hl1]; show 3 ≤ _; omega), List.getElem?_eq_none (by simp)]
  clear hA0 hval0 hsz0
  refine (Tr.apart_walk W a0 cap0 l0 hC0 hc0 hw0 a1_0 w1_0 a1_1 w1_1 a1_2 w1_2).mono fun e W' ⟨he, bel⟩ => ?_
  subst he
  exact ⟨_, rfl, _, _, _, [], _, [], hW', trodAll_mk1 (shut_bool Try.underlying4 _), (trodAll_cons_mk (Below.trod laidOut (by kernel_rfl) (of_decide_eq_true (by kernel_rfl)) kk0 bel lt0) (trodAll_cons_mk (Below.trod laidOut (by kernel_rfl) (of_decide_eq_true (by kernel_rfl)) kk1 bel lt1) trodAll_mk0)), rfl, bel.frame _, fun h => by cases h⟩
theorem over : Rows.traceApartRow.holds Try.pinned (OpenSpec.ofChange Rows.traceApartSpec) :=
  OpenClaim.holds_of_wide 12 Try.f12 rfl rfl rfl rfl rfl rfl rfl ⟨rfl, rfl, rfl, rfl, rfl⟩ rfl rfl rfl rfl rfl (by kernel_rfl) Try.func12 (by kernel_rfl)
    (of_decide_eq_true (by kernel_rfl)) (by unfold Func.isWrapper; first | (rw [if_pos (by decide +kernel)]; kernel_rfl) | (rw [if_neg (by decide +kernel)]; exact ⟨rfl, rfl⟩))
    (fun os started H enc _ => lifted os started H enc)
theorem proved : Rows.TraceApartSaid := over
#print axioms proved
end Go.Proofs.Ytinjbfgjfmfibaa.traceApart
namespace Go.Proofs.Ytinjbfgjfmfibaa
/-- The row, under a short name, for the claim. -/
theorem traceApart_holds : Rows.TraceApartSaid := traceApart.proved
end Go.Proofs.Ytinjbfgjfmfibaa
