/- Maps, part 3: a map that is ranged over: which entries have come, in whatever order. -/
import Derived.Test.YtkpaibkkigfahaaMp
import Derived.Test.YtkpaibkkigfahaaFr
import Derived.Maps.RangeWalk
namespace Go.Proofs.Ytkpaibkkigfahaa.Mp
open Go.RowKit Go.Proofs.YtkpaibkkigfahaaW.PrintWords Go.Proofs.YtkpaibkkigfahaaW.PrintLast Go.Proofs.YtkpaibkkigfahaaW.PrintMore Go.Proofs.Ytkpaibkkigfahaa.Bs Go.Proofs.Ytkpaibkkigfahaa.Fr
open Go.MapKept
open Go.ChangeMaps (setBlock heap_setBlock_same heap_setBlock_other)
open Go.Maps (Keyed)
set_option linter.unusedVariables false
set_option linter.unusedSimpArgs false
section
variable {P : Program} {k t e : TypeId} {κ : Type}
/-- Block r of w is an iterator over map b; js: the entries (by their places) that have come. -/
def Iter (K : KeyK P k κ) (w : World) (b r : Nat) (l : List (κ × Value)) (js : List Nat) : Prop :=
  ∃ es clock since seen c0, w.heap[b]? = some (.map es clock) ∧ Stamped es clock ∧ es.toList.map (fun x => (x.key, x.val)) = l.map (fun p => (K.enc p.1, p.2)) ∧ (∀ p ∈ l, K.ok p.1) ∧
    w.heap[r]? = some (.mapIter (some b) since seen c0) ∧ (∀ x ∈ es.toList, x.born < since) ∧ since ≤ c0 ∧ since ≤ clock ∧ js.Nodup ∧ (∀ j ∈ js, j < l.length) ∧ ∀ j e0, es.toList[j]? = some e0 → (seen.contains e0.born = true ↔ j ∈ js)
variable {K : KeyK P k κ} {w w' : World} {b r : Nat} {l : List (κ × Value)} {js : List Nat}
theorem Iter.map (h : Iter K w b r l js) : MapIs K w b l := by
  obtain ⟨es, c, since, seen, c0, hb, hs, hl, ho, _⟩ := h
  exact ⟨es, c, hb, hs, hl, ho⟩
theorem Iter.lt (h : Iter K w b r l js) : r < w.heap.size := by
  obtain ⟨es, c, since, seen, c0, _, _, _, _, hr, _⟩ := h
  exact (Array.getElem?_eq_some_iff.1 hr).1
theorem Iter.ne (h : Iter K w b r l js) : r ≠ b := by
  obtain ⟨es, c, since, seen, c0, hb, _, _, _, hr, _⟩ := h
  intro he
  rw [he, hb] at hr
  cases hr
theorem Iter.move (h : Iter K w b r l js) (hb' : w'.heap[b]? = w.heap[b]?) (hr' : w'.heap[r]? = w.heap[r]?) : Iter K w' b r l js := by
  obtain ⟨es, c, since, seen, c0, hb, hs, hl, ho, hr, rest⟩ := h
  exact ⟨es, c, since, seen, c0, hb'.trans hb, hs, hl, ho, hr'.trans hr, rest⟩
theorem Iter.fr {F : Nat → Prop} (h : Iter K w b r l js) (hf : Fr w w' F) (hb : ¬ F b) (hr : ¬ F r) : Iter K w' b r l js := h.move (hf.2.2 b h.map.lt hb) (hf.2.2 r h.lt hr)
theorem Iter.below (h : Iter K w b r l js) (hb : Below w.heap.size w w') : Iter K w' b r l js := h.move (hb.block b h.map.lt) (hb.block r h.lt)
theorem Iter.nodup (h : Iter K w b r l js) : js.Nodup := by
  obtain ⟨es, c, since, seen, c0, _, _, _, _, _, _, _, _, h1, _⟩ := h
  exact h1
theorem Iter.bound (h : Iter K w b r l js) : ∀ j ∈ js, j < l.length := by
  obtain ⟨es, c, since, seen, c0, _, _, _, _, _, _, _, _, _, h1, _⟩ := h
  exact h1
theorem len_le {js : List Nat} {n : Nat} (h : js.Nodup) (hb : ∀ j ∈ js, j < n) : js.length ≤ n := by
  have := h.length_le_of_subset (l₂ := List.range n) (fun j hj => List.mem_range.2 (hb j hj))
  simpa using this
theorem MapIs.range (h : MapIs K w b l) (ht : P.underlying t = some (.map k e)) :
    ∃ w', (Instr.range t (.map (some b))).run P w = .ok (.pointer (some ⟨w.heap.size, 0, none⟩)) w' ∧ Iter K w' b w.heap.size l [] ∧ Below w.heap.size w w' ∧ w'.heap.size = w.heap.size + 1 := by
  have hlt := h.lt
  obtain ⟨es, clock, hb, hs, hl, ho⟩ := h
  have hst := (stamped_iff es clock).1 hs
  refine ⟨_, run_range_map w t k e b es clock ht hb, ⟨es, clock, clock, #[], clock, ((MapKept.heap_alloc w _).2 b hlt).trans hb, hs, hl, ho, (MapKept.heap_alloc w _).1, hst.1, Nat.le_refl _, Nat.le_refl _, List.nodup_nil, fun _ h => (by cases h), fun j e0 _ => ?_⟩, below_alloc (Below.refl _ _) _, by simp⟩
  simp
theorem Iter.next (h : Iter K w b r l js) (ty : TypeId) :
    (js.length = l.length ∧ (Instr.next (.pointer (some ⟨r, 0, none⟩)) false ty).run P w = .ok (.tuple #[.bool false]) w) ∨
    ∃ j p w', l[j]? = some p ∧ j ∉ js ∧ (Instr.next (.pointer (some ⟨r, 0, none⟩)) false ty).run P w = .ok (.tuple #[.bool true, K.enc p.1, p.2]) w' ∧ Iter K w' b r l (js ++ [j]) ∧ w.grownBy w' (some r) ∧ w'.heap.size = w.heap.size ∧
      (Instr.entry (.pointer (some ⟨r, 0, none⟩))).run P w' = .ok (.tuple #[K.enc p.1, p.2]) w' := by
  have hne := h.ne
  have hnd := h.nodup
  have hbd := h.bound
  obtain ⟨es, clock, since, seen, c0, hb, hs, hl, ho, hr, hold, hsc, hsk, h1, h2, h3⟩ := h
  have hst := (stamped_iff es clock).1 hs
  have hlen : es.toList.length = l.length := by have := congrArg List.length hl; simpa using this
  rcases run_next_at (P := P) w ty r b since c0 seen es clock hr hb hold hsc with ⟨h0, hrun⟩ | ⟨e1, he, w1, hal, hrun⟩
  · refine .inl ⟨?_, hrun⟩
    refine Nat.le_antisymm (len_le hnd hbd) ?_
    have hall : ∀ j, j < l.length → j ∈ js := fun j hj => by
      have hj' : j < es.toList.length := by omega
      exact (h3 j _ (List.getElem?_eq_getElem hj')).1 (all_seen es seen h0 _ (List.getElem_mem hj'))
    have := (List.nodup_range (n := l.length)).length_le_of_subset (l₂ := js) (fun j hj => hall j (List.mem_range.1 hj))
    simpa using this
  · obtain ⟨hem, hes⟩ := mem_left he
    obtain ⟨j, hj⟩ := List.mem_iff_getElem?.1 hem
    obtain ⟨p, hp, e2, e3⟩ := map_entries hl hj
    have hr1 : w1.heap[r]? = some (.mapIter (some b) since seen c0) := by rcases hal with rfl | rfl <;> exact hr
    have hb1 : w1.heap[b]? = some (.map es clock) := by rcases hal with rfl | rfl <;> exact hb
    have hset := heap_set (o' := .mapIter (some b) since (seen.push e1.born) clock) hr1
    have hb' : (setBlock w1 r (.mapIter (some b) since (seen.push e1.born) clock)).heap[b]? = some (.map es clock) := (hset.2 b (fun e1 => hne e1.symm)).trans hb1
    have hjs : j ∉ js := fun hm => by
      have := (h3 j _ hj).2 hm
      rw [hes] at this; cases this
    have hjl : j < l.length := (List.getElem?_eq_some_iff.1 hp).1
    refine .inr ⟨j, p, _, hp, hjs, by rw [hrun, e2, e3], ⟨es, clock, since, seen.push e1.born, clock, hb', hs, hl, ho, hset.1, hold, hsk, hsk, ?_, ?_, ?_⟩, ?_, ?_, ?_⟩
    · exact List.nodup_append.2 ⟨hnd, by simp, fun a ha c hc he => hjs (by rw [List.mem_singleton.1 hc] at he; rw [← he]; exact ha)⟩
    · intro q hq
      rcases List.mem_append.1 hq with hq | hq
      · exact hbd q hq
      · rw [List.mem_singleton.1 hq]; exact hjl
    · intro q e0 hq
      rw [contains_push]
      have hiff := h3 q e0 hq
      by_cases hqj : q = j
      · subst hqj
        rw [hj] at hq; cases hq
        simp
      · have hbn : e0.born ≠ e1.born := fun hbb => by
          have := born_inj hst.2.1 (List.mem_of_getElem? hq) hem hbb
          subst this
          have hnk := hst.2.1
          have h5 := (List.getElem?_inj (l := es.toList.map (·.born)) (i := q) (j := j) (by have := (List.getElem?_eq_some_iff.1 hq).1; simpa using this) hnk).1 (by rw [List.getElem?_map, List.getElem?_map, hq, hj])
          exact hqj h5
        simp only [Bool.or_eq_true, beq_iff_eq, List.mem_append, List.mem_singleton]
        constructor
        · rintro (h | h)
          · exact .inl (hiff.1 h)
          · exact absurd h (by first | exact hbn | exact fun hh => hbn hh.symm)
        · rintro (h | h)
          · exact .inl (hiff.2 h)
          · exact absurd h hqj
    · rcases hal with rfl | rfl <;> exact ⟨rfl, rfl, rfl, by simp [setBlock], fun i _ hi => hset.2 i (fun e1 => hi (by rw [e1]))⟩
    · rcases hal with rfl | rfl <;> simp [setBlock]
    · rw [← e2, ← e3]
      exact run_entry_at _ r b since seen es clock e1 hset.1 hb' hem hst.2.1
/-- When all have come, what has come is a permutation of all. -/
theorem come_perm {α : Type} {l : List α} {js : List Nat} (hn : js.Nodup) (hb : ∀ j ∈ js, j < l.length) (hl : js.length = l.length) : (js.filterMap (fun j => l[j]?)).Perm l := by
  have h1 : js.Perm (List.range l.length) := by
    refine (List.perm_ext_iff_of_nodup hn List.nodup_range).2 fun x => ⟨fun hx => List.mem_range.2 (hb x hx), fun hx => ?_⟩
    by_cases hm : x ∈ js
    · exact hm
    · have h2 := len_le (js := x :: js) (n := l.length) (List.nodup_cons.2 ⟨hm, hn⟩) (fun j hj => by
        rcases List.mem_cons.1 hj with rfl | hj
        · exact List.mem_range.1 hx
        · exact hb j hj)
      simp at h2; omega
  refine (h1.filterMap _).trans ?_
  have : (List.range l.length).filterMap (fun j => l[j]?) = l := by
    clear h1 hl hb hn
    induction l with
    | nil => rfl
    | cons a r ih =>
      rw [List.length_cons, List.range_succ_eq_map, List.filterMap_cons]
      simp only [List.getElem?_cons_zero, List.filterMap_map]
      congr 1
  rw [this]
/-! ### at the operations -/
variable {ops : Array Oper} {rest : List Oper} {o : Oper} {a : Act} {Q : Exit → Act → World → Prop}
theorem wp_range (K : KeyK P k κ) (hg : o.guard = none) (h : MapIs K w b l) (m : Operand) (hop : o.op = Op.range t m) (ht : P.underlying t = some (.map k e)) (hm : a.eval m = .map (some b))
    (hK : ∀ w', Iter K w' b w.heap.size l [] → Below w.heap.size w w' → w'.heap.size = w.heap.size + 1 → wpList P ops Q rest (a.put o.dst (.pointer (some ⟨w.heap.size, 0, none⟩))) w') : wpList P ops Q (o :: rest) a w := by
  refine wpList_plain hg fun K' hK' => ?_
  obtain ⟨w', hrun, r1, r2, r3⟩ := h.range ht
  unfold Oper.wp
  simp [execOp, hop, hm, hrun, Result.andThen]
  exact hK' _ _ (hK w' r1 r2 r3)
theorem wp_next (K : KeyK P k κ) (hg : o.guard = none) (h : Iter K w b r l js) (it : Operand) (hop : o.op = Op.next it false) (hit : a.eval it = .pointer (some ⟨r, 0, none⟩))
    (hDone : js.length = l.length → wpList P ops Q rest (a.put o.dst (.tuple #[.bool false])) w)
    (hMore : ∀ (j : Nat) (p : κ × Value) (w' : World), l[j]? = some p → j ∉ js → Iter K w' b r l (js ++ [j]) → w.grownBy w' (some r) → w'.heap.size = w.heap.size →
      (Instr.entry (.pointer (some ⟨r, 0, none⟩))).run P w' = .ok (.tuple #[K.enc p.1, p.2]) w' → wpList P ops Q rest (a.put o.dst (.tuple #[.bool true, K.enc p.1, p.2])) w') : wpList P ops Q (o :: rest) a w := by
  refine wpList_plain hg fun K' hK' => ?_
  unfold Oper.wp
  rcases h.next o.type with ⟨h0, hrun⟩ | ⟨j, p, w', h1, h2, hrun, h3, h4, h5, h6⟩
  · simp [execOp, hop, hit, hrun, Result.andThen]
    exact hK' _ _ (hDone h0)
  · simp [execOp, hop, hit, hrun, Result.andThen]
    exact hK' _ _ (hMore j p w' h1 h2 h3 h4 h5 h6)
end
end Go.Proofs.Ytkpaibkkigfahaa.Mp
