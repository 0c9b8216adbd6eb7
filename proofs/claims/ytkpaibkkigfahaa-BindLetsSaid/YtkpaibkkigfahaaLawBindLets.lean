/- The statement BindLets: for every input it returns true, and what came in reads as before. -/
import Derived.Test.YtkpaibkkigfahaaRows
import Derived.Test.YtkpaibkkigfahaaBd11
import Derived.WalkKit
import Derived.ProofKit
import Derived.OpenShut
import Derived.ShutString
import Derived.ChangeOld
import Derived.Below
import Derived.SizedLaws
import Derived.Lib.SmallJoins
import Derived.Deep.Slices
import Derived.Deep.Fields
import Derived.ChangeSame
import Derived.Test.YtkpaibkkigfahaaWSized
import Derived.Test.YtkpaibkkigfahaaBase
namespace Go.Proofs.Ytkpaibkkigfahaa.bindLets
open Go.ChangeShapes Go.WideShapes Go.ChangeAt Go.RowKit
open Go.ChangeMaps (open_string shut_string)
open Go.Proofs.YtkpaibkkigfahaaW.PrintWords

set_option linter.unusedVariables false
theorem own : ownKnob Try.prog.godebug = none := by kernel_rfl
theorem laidOut : laidOutB Try.prog = true := by kernel_rfl
section
open Go.Joins Go.Deep
variable {H : Type} {enc : TypeId × Value → H} {P : Program} {w : World} {base : Nat} {spare : Nat → Bool} {held : Bool}
theorem open_aggL {r : Reach} {b0 : Nat} {t : TypeId} {fs : Array Field} {v : Value} {d : DataW H} {p : List MemPlace} (hs : P.underlying t = some (.struct fs)) (hone : oneCellFields P fs = true) (hC : P.cellsOf t = fs.size)
    (hv : Value.okWide P w r b0 t v) (h : DataW.Trod enc P w base spare held t v d p) :
    ∃ (l : List Value) (ys : List (DataW H × List MemPlace)) (n : Nat), v = .agg l.toArray ∧ l.length = fs.size ∧
      ∀ (j : Nat) (f : Field), fs[j]? = some f → ∃ (u : Value) (y : DataW H × List MemPlace), l[j]? = some u ∧ ys[j]? = some y ∧ DataW.trod enc P w base spare held n f.type [u] = some y := by
  obtain ⟨cs, rfl, hsz⟩ := okWide_struct hs hv
  obtain ⟨l⟩ := cs
  obtain ⟨fuel, hf⟩ := h
  obtain ⟨xs, n, _, hx, _, hlen, hg⟩ := DataW.trod_struct hs hf
  have hl : l.length = fs.size := by simpa using hsz.trans hC
  refine ⟨l, xs, n, rfl, hl, fun j f hj => ?_⟩
  obtain ⟨ho, hk⟩ := hone_of hone j f hj
  have hjl : j < fs.size := (Array.getElem?_eq_some_iff.1 hj).1
  have h1 := hg j f hj
  rw [ho, hk] at h1
  have hone' : ((Value.agg ⟨l⟩).cells.toList.drop j).take 1 = [l[j]'(by omega)] := by
    show (l.drop j).take 1 = _
    rw [List.drop_eq_getElem_cons (by omega)]
    rfl
  rw [hone'] at h1
  have hxs : xs[j]? = some (xs[j]'(by omega)) := List.getElem?_eq_getElem (by omega)
  exact ⟨_, _, List.getElem?_eq_getElem (by omega), hxs, h1.trans hxs⟩
end

section
open Go.Deep
variable {H : Type} {enc : TypeId × Value → H} {P : Program} {w : World} {base : Nat} {spare : Nat → Bool} {held : Bool}
theorem open_slice_flds {t e : TypeId} {fs : Array Field} {fuel : Nat} {cs : List Value} {x : DataW H × List MemPlace} (ht : P.underlying t = some (.slice e)) (he : P.underlying e = some (.struct fs))
    (hone : oneCellFields P fs = true) (hC : P.cellsOf e = fs.size) (h : DataW.trod enc P w base spare held fuel t cs = some x) :
    (cs = [.slice none 0 0] ∧ x = (.nil, [])) ∨
    ∃ (a : Addr) (len cap : Nat), cs = [.slice (some a) len cap] ∧ len ≤ cap ∧ cap ≤ maxLen ∧ ∀ i, i < len → ∃ n : Nat, ∀ (j : Nat) (f : Field), fs[j]? = some f → ∃ (v : Value) (y : DataW H × List MemPlace), w.cell? (a.add (i * fs.size + j)) = some v ∧ DataW.trod enc P w base spare held n f.type [v] = some y := by
  rcases open_slice ht h with h0 | ⟨a, len, cap, m, n, D, Pl, hcs, hb, hl, hm, hmm, hx, hi⟩
  · exact .inl h0
  · refine .inr ⟨a, len, cap, hcs, hl, hm, fun i hil => ?_⟩
    have him : i < m := by rw [hmm]; split <;> omega
    obtain ⟨cs', hc, ht'⟩ := hi i him
    rw [hC] at hc
    obtain ⟨ys, n', hn', hy, hlen, hyl, hf⟩ := DataW.trod_struct he ht'
    obtain ⟨_, hcl, hat⟩ := World.cells?_some hc
    refine ⟨n', fun j f hj => ?_⟩
    obtain ⟨ho, hk⟩ := hone_of hone j f hj
    have hjl : j < fs.size := (Array.getElem?_eq_some_iff.1 hj).1
    have hcell := hat j hjl
    have hv : cs'[j]? = some (cs'[j]'(by omega)) := List.getElem?_eq_getElem (by omega)
    have h1 := hf j f hj
    rw [ho, hk] at h1
    have hone' : (cs'.drop j).take 1 = [cs'[j]'(by omega)] := by
      rw [List.drop_eq_getElem_cons (by omega)]
      rfl
    rw [hone'] at h1
    have hys : ys[j]? = some (ys[j]'(by omega)) := List.getElem?_eq_getElem (by omega)
    refine ⟨_, _, ?_, h1.trans hys⟩
    rw [← Go.Deep.add_add, hcell, hv]
theorem open_field_ints {t e : TypeId} {k : IntKind} {fuel : Nat} {v : Value} {x : DataW H × List MemPlace} (ht : P.underlying t = some (.slice e)) (he : P.underlying e = some (.int k)) (hc : P.cellsOf e = 1) (h : DataW.trod enc P w base spare held fuel t [v] = some x) :
    ∃ (A : Option Addr) (cap : Nat) (q : List Int), v = .slice A q.length cap ∧ q.length ≤ cap ∧ Kd.C (Kd.int k) w A q.length q ∧ ∀ n ∈ q, (Lit.int k n).wf = true := by
  rcases open_ints ht he hc h with ⟨hcs, _⟩ | ⟨a, len, cap, zs, hcs, _, hl, hm, hz, _, hcell, hw⟩
  · obtain rfl : v = .slice none 0 0 := by simpa using hcs
    exact ⟨none, 0, [], rfl, Nat.le_refl _, Kd.C_nil _ _, fun n hn => by cases hn⟩
  · obtain rfl : v = .slice (some a) len cap := by simpa using hcs
    have hlz : len ≤ zs.length := by
      rw [hz]
      split
      · exact hl
      · exact Nat.le_refl _
    have hlen : (zs.take len).length = len := by rw [List.length_take]; omega
    refine ⟨some a, cap, zs.take len, by rw [hlen], by rw [hlen]; exact hl, ?_, fun n hn => hw n (List.mem_of_mem_take hn)⟩
    rw [hlen]
    refine ⟨hlen, Nat.le_trans (Nat.le_trans hl hm) (by decide), fun _ => ⟨a, rfl, fun j p hj => ⟨[.int k p], rfl, rfl, fun i u hu => ?_⟩⟩⟩
    have hjl : j < (zs.take len).length := (List.getElem?_eq_some_iff.1 hj).1
    rcases i with _ | i
    · obtain rfl := Option.some.inj hu
      rw [show j * (Kd.int k).sz + 0 = j from by show j * 1 + 0 = j; omega, hcell j (by omega)]
      rw [List.getElem?_take_of_lt (by omega)] at hj
      rw [List.getD_eq_getElem?_getD, hj]; rfl
    · simp at hu
theorem rows_open {α : Type} {d : Kd α} {W : World} {a : Addr} {len : Nat} (okx : α → Prop) (hlen : len ≤ 9223372036854775807)
    (h : ∀ i, i < len → ∃ (x : α) (c : List Value), okx x ∧ c.length = d.sz ∧ d.K W x c ∧ ∀ j u, c[j]? = some u → W.cell? (a.add (i * d.sz + j)) = some u) :
    ∃ xs : List α, xs.length = len ∧ d.C W (some a) len xs ∧ ∀ x ∈ xs, okx x := by
  refine ⟨List.ofFn (fun i : Fin len => Classical.choose (h i.1 i.2)), by simp, ⟨by simp, hlen, fun _ => ⟨a, rfl, fun j p hj => ?_⟩⟩, fun x hx => ?_⟩
  · obtain ⟨hjl, hp⟩ := List.getElem?_eq_some_iff.1 hj
    have hj' : j < len := by simpa using hjl
    rw [List.getElem_ofFn] at hp
    subst hp
    obtain ⟨c, h1⟩ := Classical.choose_spec (h j hj')
    exact ⟨c, h1.2.1, h1.2.2.1, h1.2.2.2⟩
  · obtain ⟨i, rfl⟩ := (List.mem_ofFn ..).1 hx
    obtain ⟨c, h1⟩ := Classical.choose_spec (h i.1 i.2)
    exact h1.1
end
section
open Go.Deep
variable {H : Type} {enc : TypeId × Value → H} {P : Program} {w : World} {base : Nat} {spare : Nat → Bool} {held : Bool}
theorem open_st {t : TypeId} {fs : Array Field} {fuel : Nat} {cs : List Value} {x : DataW H × List MemPlace} (hs : P.underlying t = some (.struct fs)) (h : DataW.trod enc P w base spare held fuel t cs = some x) :
    ∃ n : Nat, ∀ (j : Nat) (f : Field), fs[j]? = some f → ∃ y : DataW H × List MemPlace, DataW.trod enc P w base spare held n f.type ((cs.drop f.offset).take (P.cellsOf f.type)) = some y := by
  obtain ⟨ys, n, _, _, _, hyl, hf⟩ := DataW.trod_struct hs h
  refine ⟨n, fun j f hj => ?_⟩
  have hjl : j < fs.size := (Array.getElem?_eq_some_iff.1 hj).1
  exact ⟨ys[j]'(by omega), (hf j f hj).trans (List.getElem?_eq_getElem (by omega))⟩
theorem open_slice_st {t e : TypeId} {fuel : Nat} {cs : List Value} {x : DataW H × List MemPlace} (ht : P.underlying t = some (.slice e)) (h : DataW.trod enc P w base spare held fuel t cs = some x) :
    (cs = [.slice none 0 0] ∧ x = (.nil, [])) ∨
    ∃ (a : Addr) (len cap : Nat), cs = [.slice (some a) len cap] ∧ len ≤ cap ∧ cap ≤ maxLen ∧ ∀ i, i < len → ∃ (n : Nat) (cs' : List Value) (y : DataW H × List MemPlace), cs'.length = P.cellsOf e ∧ (∀ j u, cs'[j]? = some u → w.cell? (a.add (i * P.cellsOf e + j)) = some u) ∧ DataW.trod enc P w base spare held n e cs' = some y := by
  rcases open_slice ht h with h0 | ⟨a, len, cap, m, n, D, Pl, hcs, hb, hl, hm, hmm, hx, hi⟩
  · exact .inl h0
  · refine .inr ⟨a, len, cap, hcs, hl, hm, fun i hil => ?_⟩
    have him : i < m := by rw [hmm]; split <;> omega
    obtain ⟨cs', hc, ht'⟩ := hi i him
    obtain ⟨_, hcl, hat⟩ := World.cells?_some hc
    refine ⟨n, cs', _, hcl, fun j u hj => ?_, ht'⟩
    have hjl : j < cs'.length := (List.getElem?_eq_some_iff.1 hj).1
    rw [← Go.Deep.add_add, hat j (by omega), hj]
end
section
open Go.Deep
variable {H : Type} {enc : TypeId × Value → H} {W : World}
theorem cell_of {l : List Value} {i : Nat} {v : Value} (hl : i < l.length) (h : [l.getD i undef] = [v]) : l.toArray[i]? = some v := by
  have h1 : l.getD i undef = v := by simpa using h
  rw [List.getElem?_toArray, List.getElem?_eq_getElem hl]
  rw [List.getD_eq_getElem?_getD, List.getElem?_eq_getElem hl] at h1
  exact congrArg some h1
set_option maxRecDepth 100000 in
theorem open_map {v : Value} {d : DataW H} {p : List MemPlace} (hv : Value.okWide Try.prog W .any 0 33 v) (h : DataW.Trod enc Try.prog W 0 (fun _ => true) true 33 v d p) :
    ∃ (l : List Value) (u h : Int) (A : Option Addr) (cap : Nat) (fs : List Bd.F3), v = .agg l.toArray ∧ l.length = 20 ∧ l.toArray[5]? = some (.int .i64 u) ∧ l.toArray[6]? = some (.int .i64 h) ∧ l.toArray[19]? = some (.slice A fs.length cap) ∧ Bd.kF.C W A fs.length fs ∧ ∀ f ∈ fs, 0 ≤ f.1 ∧ f.1 < 4294967296 := by
  obtain ⟨cs, rfl, hsz⟩ := okWide_struct Try.underlying33 hv
  obtain ⟨l⟩ := cs
  rw [show Try.prog.cellsOf 33 = 20 from by kernel_rfl] at hsz
  have hl : l.length = 20 := by simpa using hsz
  obtain ⟨fuel, hf⟩ := h
  obtain ⟨m, hfld⟩ := open_st Try.underlying33 hf
  obtain ⟨y3, t3⟩ := hfld 3 _ rfl
  replace t3 : DataW.trod enc Try.prog W 0 (fun _ => true) true m 2 ((l.drop 5).take (Try.prog.cellsOf 2)) = some y3 := t3
  rw [show Try.prog.cellsOf 2 = 1 from by kernel_rfl, take1_drop l 5 undef (by omega)] at t3
  obtain ⟨u, b3, _, _⟩ := DataW.trod_int Try.underlying2 t3
  obtain ⟨y4, t4⟩ := hfld 4 _ rfl
  replace t4 : DataW.trod enc Try.prog W 0 (fun _ => true) true m 2 ((l.drop 6).take (Try.prog.cellsOf 2)) = some y4 := t4
  rw [show Try.prog.cellsOf 2 = 1 from by kernel_rfl, take1_drop l 6 undef (by omega)] at t4
  obtain ⟨h, b4, _, _⟩ := DataW.trod_int Try.underlying2 t4
  obtain ⟨y6, t6⟩ := hfld 6 _ rfl
  replace t6 : DataW.trod enc Try.prog W 0 (fun _ => true) true m 31 ((l.drop 19).take (Try.prog.cellsOf 31)) = some y6 := t6
  rw [show Try.prog.cellsOf 31 = 1 from by kernel_rfl, take1_drop l 19 undef (by omega)] at t6
  rcases open_slice_flds Try.underlying31 Try.underlying35 (by kernel_rfl) (by kernel_rfl) t6 with ⟨hcs, _⟩ | ⟨a, len, cap, hcs, hl', hm, hi⟩
  · exact ⟨l, u, h, none, 0, [], rfl, hl, cell_of (by omega) b3, cell_of (by omega) b4, cell_of (by omega) hcs, Kd.C_nil _ _, fun f hf => by cases hf⟩
  · obtain ⟨xs, h1, h2, h3⟩ := rows_open (d := Bd.kF) (W := W) (a := a) (len := len) (fun f : Bd.F3 => 0 ≤ f.1 ∧ f.1 < 4294967296) (Nat.le_trans (Nat.le_trans hl' hm) (by decide)) (fun i hi' => by
      obtain ⟨n, hfl⟩ := hi i hi'
      obtain ⟨v0, z0, c0, t0⟩ := hfl 0 _ rfl
      obtain ⟨q0, e0, _, w0⟩ := DataW.trod_int Try.underlying27 t0
      obtain rfl : v0 = .int .u32 q0 := by simpa using e0
      obtain ⟨v1, z1, c1, t1⟩ := hfl 1 _ rfl
      obtain ⟨q1, e1, _, _⟩ := DataW.trod_int Try.underlying3 t1
      obtain rfl : v1 = .int .i64 q1 := by simpa using e1
      obtain ⟨v2, z2, c2, t2⟩ := hfl 2 _ rfl
      obtain ⟨q2, e2, _, _⟩ := DataW.trod_int Try.underlying3 t2
      obtain rfl : v2 = .int .i64 q2 := by simpa using e2
      refine ⟨(q0, q1, q2), [.int .u32 q0, .int .i64 q1, .int .i64 q2], Bd.wf_u32 w0, rfl, rfl, fun j u hj => ?_⟩
      rcases j with _ | j; · obtain rfl := Option.some.inj hj; exact c0
      rcases j with _ | j; · obtain rfl := Option.some.inj hj; exact c1
      rcases j with _ | j; · obtain rfl := Option.some.inj hj; exact c2
      simp at hj)
    exact ⟨l, u, h, some a, cap, xs, rfl, hl, cell_of (by omega) b3, cell_of (by omega) b4, by rw [h1]; exact cell_of (by omega) hcs, by rw [h1]; exact h2, h3⟩
end

set_option maxHeartbeats 1000000 in
set_option maxRecDepth 100000 in
theorem lifted (os : Os) (started : os.Started) (H : Type) (enc : TypeId × Value → H) :
    ReturnsInHanded {} Try.checked os 5 .any (Rows.bindLetsSpec.pre6 enc Try.prog Try.f5 Rows.bindLetsRow.domain false) (Rows.bindLetsSpec.post enc Try.prog Try.f5 false true false false) := by
  refine returnsInHanded_of_change_sized (C := Try.checked) own started (by kernel_rfl) Try.func5
    (ChangeSpec.witness6 (enc := enc) (C := Try.checked) false ⟨#[], #[.agg #[.int .i64 0, .int .u32 0, .int .i64 0, .int .u32 0, .int .i64 0, .int .i64 0, .int .i64 0, .int .u8 0, .int .u8 0, .int .u8 0, .int .u8 0, .int .u8 0, .int .u8 0, .int .u8 0, .int .u8 0, .int .u8 0, .int .u8 0, .int .u8 0, .int .u8 0, .slice none 0 0], .agg #[.int .u32 0, .int .i64 0], .int .i64 0], []⟩ 8 (by kernel_rfl) (by kernel_rfl) (by kernel_rfl) (by kernel_rfl)) ?_
  intro W base args ds gs before hval0 hW hcnd hsz0 _
  have hsz : (DataW.weightsEach Try.prog (Try.f5.params.toList ++ Rows.bindLetsSpec.plain.varTypes Try.prog) (ds ++ gs)).all (· ≤ reachBytes) = true := hsz0
  have hval : ∀ (j : Nat) t v, Try.f5.params[j]? = some t → args[j]? = some v → Value.okWide Try.prog W .any base t v := hval0
  have hW' := hW
  obtain ⟨p, q, hA0, hV, rfl, hfz, hnd⟩ := hW
  have hA : DataW.TrodAll enc Try.prog W 0 (fun _ => true) true Try.f5.params.toList args.toList ds p := hA0
  rw [Try.params5] at hA hval hsz
  obtain ⟨v0, vs0, d0, ds0, p0, q0, hargs, rfl, rfl, h0, r0⟩ := trodAll_cons hA
  obtain ⟨v1, vs1, d1, ds1, p1, q1, rfl, rfl, rfl, h1, r1⟩ := trodAll_cons r0
  obtain ⟨v2, vs2, d2, ds2, p2, q2, rfl, rfl, rfl, h2, r2⟩ := trodAll_cons r1
  obtain ⟨rfl, rfl, rfl⟩ := trodAll_nil r2
  obtain rfl : args = #[v0, v1, v2] := by cases args; simp_all
  obtain ⟨rfl, rfl⟩ := trodVars_none hV
  have kk0 := h0
  have lt0 : ∀ x ∈ p0, x.block < W.heap.size := by obtain ⟨m, hm⟩ := kk0; exact DataW.trod_lt m _ _ _ hm
  obtain ⟨l0, u0, hh0, A0, cp0, fs0, rfl, hz0, h50, h60, h190, hC0, hw0⟩ := open_map (hval 0 33 v0 rfl rfl) h0
  have kk1 := h1
  have lt1 : ∀ x ∈ p1, x.block < W.heap.size := by obtain ⟨m, hm⟩ := kk1; exact DataW.trod_lt m _ _ _ hm
  obtain ⟨l1, ys1, n1, rfl, hl1, hf1⟩ := open_aggL Try.underlying29 (by kernel_rfl) (by kernel_rfl) (hval 1 29 v1 rfl rfl) h1
  obtain ⟨u1_0, y1_0, e1_0, _, t1_0⟩ := hf1 0 _ rfl
  obtain ⟨a1_0, b1_0, _, w1_0⟩ := DataW.trod_int Try.underlying27 t1_0
  obtain rfl : u1_0 = .int .u32 a1_0 := by simpa using b1_0
  obtain ⟨u1_1, y1_1, e1_1, _, t1_1⟩ := hf1 1 _ rfl
  obtain ⟨a1_1, b1_1, _, w1_1⟩ := DataW.trod_int Try.underlying3 t1_1
  obtain rfl : u1_1 = .int .i64 a1_1 := by simpa using b1_1
  obtain rfl : l1 = [.int .u32 a1_0, .int .i64 a1_1] := by
    apply List.ext_getElem?
    intro j
    rcases j with _ | j; · simpa using e1_0
    rcases j with _ | j; · simpa using e1_1
    rw [List.getElem?_eq_none (by rw [hl1]; show 2 ≤ _; omega), List.getElem?_eq_none (by simp)]
  have kk2 := h2
  have lt2 : ∀ x ∈ p2, x.block < W.heap.size := by obtain ⟨m, hm⟩ := kk2; exact DataW.trod_lt m _ _ _ hm
  obtain ⟨a2, rfl, _, _, w2⟩ := open_int Try.underlying2 (hval 2 2 v2 rfl rfl) h2
  clear hA0 hval0 hsz0
  refine (Bd.lets_walk' W l0 hz0 u0 hh0 h50 h60 A0 cp0 fs0 h190 hC0 hw0 a1_0 w1_0 a1_1 w1_1 a2 w2).mono fun e W' ⟨he, bel⟩ => ?_
  subst he
  exact ⟨_, rfl, _, _, _, [], _, [], hW', trodAll_mk1 (shut_bool Try.underlying4 _), (trodAll_cons_mk (Below.trod laidOut (by kernel_rfl) (of_decide_eq_true (by kernel_rfl)) kk0 bel lt0) (trodAll_cons_mk (Below.trod laidOut (by kernel_rfl) (of_decide_eq_true (by kernel_rfl)) kk1 bel lt1) (trodAll_cons_mk (Below.trod laidOut (by kernel_rfl) (of_decide_eq_true (by kernel_rfl)) kk2 bel lt2) trodAll_mk0))), rfl, bel.frame _, fun h => by cases h⟩
theorem over : Rows.bindLetsRow.holds Try.pinned (OpenSpec.ofChange Rows.bindLetsSpec) :=
  OpenClaim.holds_of_wide 5 Try.f5 rfl rfl rfl rfl rfl rfl rfl ⟨rfl, rfl, rfl, rfl, rfl⟩ rfl rfl rfl rfl rfl (by kernel_rfl) Try.func5 (by kernel_rfl)
    (of_decide_eq_true (by kernel_rfl)) (by unfold Func.isWrapper; first | (rw [if_pos (by decide +kernel)]; kernel_rfl) | (rw [if_neg (by decide +kernel)]; exact ⟨rfl, rfl⟩))
    (fun os started H enc _ => lifted os started H enc)
theorem proved : Rows.BindLetsSaid := over
#print axioms proved
end Go.Proofs.Ytkpaibkkigfahaa.bindLets
namespace Go.Proofs.Ytkpaibkkigfahaa
/-- The row, under a short name, for the claim. -/
theorem bindLets_holds : Rows.BindLetsSaid := bindLets.proved
end Go.Proofs.Ytkpaibkkigfahaa
