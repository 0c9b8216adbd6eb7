/- The statement StrandTwice: for every input it returns true, and what came in reads as before. -/
import Derived.Test.YtldddinebhopcaaRows
import Derived.Test.YtldddinebhopcaaSt21
import Derived.WalkKit
import Derived.ProofKit
import Derived.OpenShut
import Derived.ShutString
import Derived.ChangeOld
import Derived.Below
import Derived.SizedLaws
import Derived.Lib.SmallJoins
import Derived.Deep.Slices
import Derived.Deep.Fields
import Derived.ChangeSame
import Derived.Test.YtldddinebhopcaaWSized
import Derived.Test.YtldddinebhopcaaBase
namespace Go.Proofs.Ytldddinebhopcaa.strandTwice
open Go.ChangeShapes Go.WideShapes Go.ChangeAt Go.RowKit
open Go.ChangeMaps (open_string shut_string)
open Go.Proofs.YtldddinebhopcaaW.PrintWords

set_option linter.unusedVariables false
theorem own : ownKnob Try.prog.godebug = none := by kernel_rfl
theorem laidOut : laidOutB Try.prog = true := by kernel_rfl
section
open Go.Deep
variable {H : Type} {enc : TypeId × Value → H} {P : Program} {w : World} {base : Nat} {spare : Nat → Bool} {held : Bool}
theorem open_slice_flds {t e : TypeId} {fs : Array Field} {fuel : Nat} {cs : List Value} {x : DataW H × List MemPlace} (ht : P.underlying t = some (.slice e)) (he : P.underlying e = some (.struct fs))
    (hone : oneCellFields P fs = true) (hC : P.cellsOf e = fs.size) (h : DataW.trod enc P w base spare held fuel t cs = some x) :
    (cs = [.slice none 0 0] ∧ x = (.nil, [])) ∨
    ∃ (a : Addr) (len cap : Nat), cs = [.slice (some a) len cap] ∧ len ≤ cap ∧ cap ≤ maxLen ∧ ∀ i, i < len → ∃ n : Nat, ∀ (j : Nat) (f : Field), fs[j]? = some f → ∃ (v : Value) (y : DataW H × List MemPlace), w.cell? (a.add (i * fs.size + j)) = some v ∧ DataW.trod enc P w base spare held n f.type [v] = some y := by
  rcases open_slice ht h with h0 | ⟨a, len, cap, m, n, D, Pl, hcs, hb, hl, hm, hmm, hx, hi⟩
  · exact .inl h0
  · refine .inr ⟨a, len, cap, hcs, hl, hm, fun i hil => ?_⟩
    have him : i < m := by rw [hmm]; split <;> omega
    obtain ⟨cs', hc, ht'⟩ := hi i him
    rw [hC] at hc
    obtain ⟨ys, n', hn', hy, hlen, hyl, hf⟩ := DataW.trod_struct he ht'
    obtain ⟨_, hcl, hat⟩ := World.cells?_some hc
    refine ⟨n', fun j f hj => ?_⟩
    obtain ⟨ho, hk⟩ := hone_of hone j f hj
    have hjl : j < fs.size := (Array.getElem?_eq_some_iff.1 hj).1
    have hcell := hat j hjl
    have hv : cs'[j]? = some (cs'[j]'(by omega)) := List.getElem?_eq_getElem (by omega)
    have h1 := hf j f hj
    rw [ho, hk] at h1
    have hone' : (cs'.drop j).take 1 = [cs'[j]'(by omega)] := by
      rw [List.drop_eq_getElem_cons (by omega)]
      rfl
    rw [hone'] at h1
    have hys : ys[j]? = some (ys[j]'(by omega)) := List.getElem?_eq_getElem (by omega)
    refine ⟨_, _, ?_, h1.trans hys⟩
    rw [← Go.Deep.add_add, hcell, hv]
theorem open_field_ints {t e : TypeId} {k : IntKind} {fuel : Nat} {v : Value} {x : DataW H × List MemPlace} (ht : P.underlying t = some (.slice e)) (he : P.underlying e = some (.int k)) (hc : P.cellsOf e = 1) (h : DataW.trod enc P w base spare held fuel t [v] = some x) :
    ∃ (A : Option Addr) (cap : Nat) (q : List Int), v = .slice A q.length cap ∧ q.length ≤ cap ∧ Kd.C (Kd.int k) w A q.length q ∧ ∀ n ∈ q, (Lit.int k n).wf = true := by
  rcases open_ints ht he hc h with ⟨hcs, _⟩ | ⟨a, len, cap, zs, hcs, _, hl, hm, hz, _, hcell, hw⟩
  · obtain rfl : v = .slice none 0 0 := by simpa using hcs
    exact ⟨none, 0, [], rfl, Nat.le_refl _, Kd.C_nil _ _, fun n hn => by cases hn⟩
  · obtain rfl : v = .slice (some a) len cap := by simpa using hcs
    have hlz : len ≤ zs.length := by
      rw [hz]
      split
      · exact hl
      · exact Nat.le_refl _
    have hlen : (zs.take len).length = len := by rw [List.length_take]; omega
    refine ⟨some a, cap, zs.take len, by rw [hlen], by rw [hlen]; exact hl, ?_, fun n hn => hw n (List.mem_of_mem_take hn)⟩
    rw [hlen]
    refine ⟨hlen, Nat.le_trans (Nat.le_trans hl hm) (by decide), fun _ => ⟨a, rfl, fun j p hj => ⟨[.int k p], rfl, rfl, fun i u hu => ?_⟩⟩⟩
    have hjl : j < (zs.take len).length := (List.getElem?_eq_some_iff.1 hj).1
    rcases i with _ | i
    · obtain rfl := Option.some.inj hu
      rw [show j * (Kd.int k).sz + 0 = j from by show j * 1 + 0 = j; omega, hcell j (by omega)]
      rw [List.getElem?_take_of_lt (by omega)] at hj
      rw [List.getD_eq_getElem?_getD, hj]; rfl
    · simp at hu
theorem rows_open {α : Type} {d : Kd α} {W : World} {a : Addr} {len : Nat} (okx : α → Prop) (hlen : len ≤ 9223372036854775807)
    (h : ∀ i, i < len → ∃ (x : α) (c : List Value), okx x ∧ c.length = d.sz ∧ d.K W x c ∧ ∀ j u, c[j]? = some u → W.cell? (a.add (i * d.sz + j)) = some u) :
    ∃ xs : List α, xs.length = len ∧ d.C W (some a) len xs ∧ ∀ x ∈ xs, okx x := by
  refine ⟨List.ofFn (fun i : Fin len => Classical.choose (h i.1 i.2)), by simp, ⟨by simp, hlen, fun _ => ⟨a, rfl, fun j p hj => ?_⟩⟩, fun x hx => ?_⟩
  · obtain ⟨hjl, hp⟩ := List.getElem?_eq_some_iff.1 hj
    have hj' : j < len := by simpa using hjl
    rw [List.getElem_ofFn] at hp
    subst hp
    obtain ⟨c, h1⟩ := Classical.choose_spec (h j hj')
    exact ⟨c, h1.2.1, h1.2.2.1, h1.2.2.2⟩
  · obtain ⟨i, rfl⟩ := (List.mem_ofFn ..).1 hx
    obtain ⟨c, h1⟩ := Classical.choose_spec (h i.1 i.2)
    exact h1.1
end

set_option maxHeartbeats 1000000 in
set_option maxRecDepth 100000 in
theorem lifted (os : Os) (started : os.Started) (H : Type) (enc : TypeId × Value → H) :
    ReturnsInHanded {} Try.checked os 9 .any (Rows.strandTwiceSpec.pre6 enc Try.prog Try.f9 Rows.strandTwiceRow.domain false) (Rows.strandTwiceSpec.post enc Try.prog Try.f9 false true false false) := by
  refine returnsInHanded_of_change_sized (C := Try.checked) own started (by kernel_rfl) Try.func9
    (ChangeSpec.witness6 (enc := enc) (C := Try.checked) false ⟨#[], #[.slice none 0 0, .slice none 0 0], []⟩ 8 (by kernel_rfl) (by kernel_rfl) (by kernel_rfl) (by kernel_rfl)) ?_
  intro W base args ds gs before hval0 hW hcnd hsz0 _
  have hsz : (DataW.weightsEach Try.prog (Try.f9.params.toList ++ Rows.strandTwiceSpec.plain.varTypes Try.prog) (ds ++ gs)).all (· ≤ reachBytes) = true := hsz0
  have hval : ∀ (j : Nat) t v, Try.f9.params[j]? = some t → args[j]? = some v → Value.okWide Try.prog W .any base t v := hval0
  have hW' := hW
  obtain ⟨p, q, hA0, hV, rfl, hfz, hnd⟩ := hW
  have hA : DataW.TrodAll enc Try.prog W 0 (fun _ => true) true Try.f9.params.toList args.toList ds p := hA0
  rw [Try.params9] at hA hval hsz
  obtain ⟨v0, vs0, d0, ds0, p0, q0, hargs, rfl, rfl, h0, r0⟩ := trodAll_cons hA
  obtain ⟨v1, vs1, d1, ds1, p1, q1, rfl, rfl, rfl, h1, r1⟩ := trodAll_cons r0
  obtain ⟨rfl, rfl, rfl⟩ := trodAll_nil r1
  obtain rfl : args = #[v0, v1] := by cases args; simp_all
  obtain ⟨rfl, rfl⟩ := trodVars_none hV
  have kk0 := h0
  have lt0 : ∀ x ∈ p0, x.block < W.heap.size := by obtain ⟨m, hm⟩ := kk0; exact DataW.trod_lt m _ _ _ hm
  obtain ⟨a0, len0, cap0, rfl⟩ := okWide_slice Try.underlying45 (hval 0 45 v0 rfl rfl)
  obtain ⟨l0, rfl, hC0, hc0, hw0⟩ : ∃ l : List PStrandPlays.S48, l.length = len0 ∧ Kd.C PStrandPlays.k48 W a0 l.length l ∧ l.length ≤ cap0 ∧ ∀ x ∈ l, (fun x : PStrandPlays.S48 => (Lit.int .i64 x.f0).wf = true ∧ (∀ n ∈ x.f1, (Lit.int .u8 n).wf = true) ∧ True) x := by
    obtain ⟨fuel, hf⟩ := h0
    rcases open_slice_flds Try.underlying45 Try.underlying48 (by kernel_rfl) (by kernel_rfl) hf with ⟨hcs, _⟩ | ⟨x, l, c, hcs, hl, hm, hi⟩
    · simp [Value.cells] at hcs
      obtain ⟨rfl, rfl, rfl⟩ := hcs
      exact ⟨[], rfl, Kd.C_nil _ _, Nat.le_refl _, fun x hx => by cases hx⟩
    · simp [Value.cells] at hcs
      obtain ⟨rfl, rfl, rfl⟩ := hcs
      obtain ⟨xs, h1, h2, h3⟩ := rows_open (d := PStrandPlays.k48) (W := W) (a := x) (len := len0) (fun x : PStrandPlays.S48 => (Lit.int .i64 x.f0).wf = true ∧ (∀ n ∈ x.f1, (Lit.int .u8 n).wf = true) ∧ True) (Nat.le_trans (Nat.le_trans hl hm) (by decide)) (fun i hi' => by
        obtain ⟨n, hfld⟩ := hi i hi'
        obtain ⟨v0, y0, c0, t0⟩ := hfld 0 _ rfl
        obtain ⟨q0, b0, _, w0⟩ := DataW.trod_int Try.underlying3 t0
        obtain rfl : v0 = .int .i64 q0 := by simpa using b0
        obtain ⟨v1, y1, c1, t1⟩ := hfld 1 _ rfl
        obtain ⟨A1, cp1, q1, rfl, le1, C1, w1⟩ := open_field_ints Try.underlying23 Try.underlying5 (by kernel_rfl) t1
        refine ⟨⟨q0, q1⟩, [.int .i64 q0, .slice A1 q1.length cp1], ⟨w0, w1, trivial⟩, rfl, PStrandPlays.k48_mk _ _ le1 C1, fun j u hj => ?_⟩
        rcases j with _ | j; · obtain rfl := Option.some.inj hj; exact c0
        rcases j with _ | j; · obtain rfl := Option.some.inj hj; exact c1
        simp at hj)
      exact ⟨xs, h1, by rw [h1]; exact h2, by rw [h1]; exact hl, h3⟩
  have kk1 := h1
  have lt1 : ∀ x ∈ p1, x.block < W.heap.size := by obtain ⟨m, hm⟩ := kk1; exact DataW.trod_lt m _ _ _ hm
  obtain ⟨a1, len1, cap1, rfl⟩ := okWide_slice Try.underlying23 (hval 1 23 v1 rfl rfl)
  have z1 : (a1 = none ∧ len1 = 0 ∧ cap1 = 0) ∨ True := .inr trivial
  obtain ⟨zs1, zw1⟩ : ∃ zs : List Int, (a1 = none ∧ len1 = 0 ∧ cap1 = 0 ∧ zs = []) ∨ ∃ x, a1 = some x ∧ len1 ≤ cap1 ∧ cap1 ≤ maxLen ∧ zs.length = cap1 ∧ (∀ i, i < zs.length → W.cell? (x.add i) = some (.int .u8 (zs.getD i 0))) ∧ ∀ n ∈ zs, (Lit.int .u8 n).wf = true := by
    obtain ⟨fuel, hf⟩ := h1
    rcases open_ints Try.underlying23 Try.underlying5 (by kernel_rfl) hf with ⟨hcs, _⟩ | ⟨x, l, c, zs, hcs, _, hl, hm, hz, _, hcell, hwz⟩
    · simp [Value.cells] at hcs
      obtain ⟨rfl, rfl, rfl⟩ := hcs
      exact ⟨[], .inl ⟨rfl, rfl, rfl, rfl⟩⟩
    · simp [Value.cells] at hcs
      obtain ⟨rfl, rfl, rfl⟩ := hcs
      exact ⟨zs, .inr ⟨_, rfl, hl, hm, by simpa using hz, hcell, hwz⟩⟩
  have y1 : len1 * 1 ≤ 140737488351232 := sized_ints hsz (j := 1) (t := 23) rfl rfl Try.underlying23 Try.underlying5 (by kernel_rfl) (by kernel_rfl) h1
  obtain ⟨l1, rfl, hr1, hm1, hw1, hc1⟩ := ReadsInt.ofRowC zw1
  clear z1
  clear hA0 hval0 hsz0
  refine (St.twice_walk W a0 cap0 l0 hC0 hc0 hw0 a1 cap1 l1 (Kd.C_of_reads (d := (0 : Int)) (h1 := fun _ => rfl) hr1) hc1 y1 hw1).mono fun e W' ⟨he, bel⟩ => ?_
  subst he
  exact ⟨_, rfl, _, _, _, [], _, [], hW', trodAll_mk1 (shut_bool Try.underlying4 _), (trodAll_cons_mk (Below.trod laidOut (by kernel_rfl) (of_decide_eq_true (by kernel_rfl)) kk0 bel lt0) (trodAll_cons_mk (Below.trod laidOut (by kernel_rfl) (of_decide_eq_true (by kernel_rfl)) kk1 bel lt1) trodAll_mk0)), rfl, bel.frame _, fun h => by cases h⟩
theorem over : Rows.strandTwiceRow.holds Try.pinned (OpenSpec.ofChange Rows.strandTwiceSpec) :=
  OpenClaim.holds_of_wide 9 Try.f9 rfl rfl rfl rfl rfl rfl rfl ⟨rfl, rfl, rfl, rfl, rfl⟩ rfl rfl rfl rfl rfl (by kernel_rfl) Try.func9 (by kernel_rfl)
    (of_decide_eq_true (by kernel_rfl)) (by unfold Func.isWrapper; first | (rw [if_pos (by decide +kernel)]; kernel_rfl) | (rw [if_neg (by decide +kernel)]; exact ⟨rfl, rfl⟩))
    (fun os started H enc _ => lifted os started H enc)
theorem proved : Rows.StrandTwiceSaid := over
#print axioms proved
end Go.Proofs.Ytldddinebhopcaa.strandTwice
namespace Go.Proofs.Ytldddinebhopcaa
/-- The row, under a short name, for the claim. -/
theorem strandTwice_holds : Rows.StrandTwiceSaid := strandTwice.proved
end Go.Proofs.Ytldddinebhopcaa
