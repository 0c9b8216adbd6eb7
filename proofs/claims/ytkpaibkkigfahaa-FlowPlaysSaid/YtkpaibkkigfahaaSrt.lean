/- A row of plain structs that slices.SortFunc has sorted. -/
import Derived.Test.YtkpaibkkigfahaaAr
import Derived.Shelf.SlSortCmp.WholeK
namespace Go.Proofs.Ytkpaibkkigfahaa.Srt
open Go.RowKit Go.Proofs.YtkpaibkkigfahaaW.PrintWords Go.Proofs.YtkpaibkkigfahaaW.PrintLast Go.Proofs.YtkpaibkkigfahaaW.PrintMore Go.Proofs.Ytkpaibkkigfahaa.Bs Go.Proofs.Ytkpaibkkigfahaa.Fr
set_option linter.unusedVariables false
set_option linter.unusedSimpArgs false
set_option linter.unusedSectionVars false
open Go.Sort (flatK size_flatK get_flatK HoldsK putRowK)

/-- A kind whose elements are plain cells. -/
structure IsPod {α : Type} (d : Kd α) (enc : α → List Value) : Prop where
  len : ∀ x, (enc x).length = d.sz
  one : ∀ x, ∀ v ∈ enc x, v.oneCell' = true
  pos : 0 < d.sz
  K : ∀ {w x cs}, d.K w x cs → cs = enc x
  M : ∀ {w base ok x}, d.M w base ok x (enc x)
section
variable {α : Type} [Inhabited α] {d : Kd α} {enc : α → List Value}
theorem flat_len (hl : ∀ x, (enc x).length = d.sz) (xs : List α) : (xs.flatMap enc).length = xs.length * d.sz := by
  induction xs with
  | nil => simp
  | cons x r ih => rw [List.flatMap_cons, List.length_append, hl, ih, List.length_cons, Nat.add_mul]; omega
theorem flat_get (hl : ∀ x, (enc x).length = d.sz) (xs : List α) : ∀ (j : Nat) (x : α), xs[j]? = some x → ((xs.flatMap enc).drop (j * d.sz)).take d.sz = enc x := by
  induction xs with
  | nil => intro j x h; simp at h
  | cons y r ih =>
    intro j x h
    cases j with
    | zero =>
      simp at h; subst h
      rw [Nat.zero_mul, List.drop_zero, List.flatMap_cons, List.take_append_of_le_length (by rw [hl]; exact Nat.le_refl _), List.take_of_length_le (by rw [hl]; exact Nat.le_refl _)]
    | succ j =>
      rw [List.flatMap_cons, List.drop_append, List.drop_eq_nil_of_le (by rw [hl, Nat.add_mul]; omega), List.nil_append, hl, show (j + 1) * d.sz - d.sz = j * d.sz by rw [Nat.add_mul]; omega]
      exact ih j x (by simpa using h)
theorem reps_flat (hl : ∀ x, (enc x).length = d.sz) {R : α → List Value → Prop} (hR : ∀ x cs, R x cs → cs = enc x) {xs : List α} {cs : List Value} (h : Reps R d.sz xs cs) : cs = xs.flatMap enc := by
  obtain ⟨h1, h2⟩ := h
  induction xs generalizing cs with
  | nil => simp at h1; simpa using h1
  | cons x r ih =>
    have h0 := hR _ _ (h2 0 x rfl)
    rw [Nat.zero_mul, List.drop_zero] at h0
    have hlen : d.sz ≤ cs.length := by rw [h1, List.length_cons, Nat.add_mul]; omega
    have h3 := ih (cs := cs.drop d.sz) (by rw [List.length_drop, h1, List.length_cons, Nat.add_mul]; omega) (fun j p hj => by
      have := h2 (j + 1) p (by simpa using hj)
      rwa [Nat.add_mul, Nat.one_mul, Nat.add_comm, ← List.drop_drop] at this)
    rw [List.flatMap_cons, ← h0, ← h3, List.take_append_drop]
theorem reps_of_flat (hl : ∀ x, (enc x).length = d.sz) {R : α → List Value → Prop} (hR : ∀ x, R x (enc x)) (xs : List α) : Reps R d.sz xs (xs.flatMap enc) :=
  ⟨flat_len hl xs, fun j p hj => by rw [flat_get hl xs j p hj]; exact hR p⟩
theorem flatK_eq (hl : ∀ x, (enc x).length = d.sz) (hp : 0 < d.sz) (xs : List α) : (flatK enc d.sz xs.toArray).toList = xs.flatMap enc := by
  refine List.ext_getElem? fun t => ?_
  by_cases ht : t < xs.length * d.sz
  · have hj : t / d.sz < xs.length := (Nat.div_lt_iff_lt_mul hp).2 ht
    have h1 := flat_get (d := d) hl xs (t / d.sz) _ (List.getElem?_eq_getElem hj)
    have h2 : t / d.sz * d.sz + t % d.sz = t := by rw [Nat.mul_comm]; exact Nat.div_add_mod t d.sz
    have hm := Nat.mod_lt t hp
    have h3 : (xs.flatMap enc)[t]? = (enc xs[t / d.sz])[t % d.sz]? := by
      rw [← h1, List.getElem?_take_of_lt hm, List.getElem?_drop, h2]
    rw [h3]
    have h4 : t < (flatK enc d.sz xs.toArray).size := by rw [size_flatK]; simpa using ht
    rw [Array.getElem?_toList, Array.getElem?_eq_getElem h4]
    have h5 := get_flatK enc d.sz xs.toArray t (by simpa using ht)
    rw [getElem!_pos _ t h4] at h5
    rw [h5]
    have h6 : xs.toArray[t / d.sz]! = xs[t / d.sz] := by rw [getElem!_pos xs.toArray (t / d.sz) (by simpa using hj)]; simp
    rw [h6, getElem!_pos _ (t % d.sz) (by rw [hl]; exact hm), List.getElem?_eq_getElem (by rw [hl]; exact hm)]
  · rw [List.getElem?_eq_none (by rw [Array.length_toList, size_flatK]; simpa using ht), List.getElem?_eq_none (by rw [flat_len (d := d) hl]; omega)]
variable {w : World} {e base : Nat}
/-- What a row of plain structs is, cell by cell. -/
theorem pod_cells (P : IsPod d enc) {v : Value} {xs : List α} (h : d.R e w base (fun _ => True) v xs) (hn : 0 < xs.length) :
    ∃ g cap cur, v = .slice (some ⟨g, 0, none⟩) xs.length cap ∧ base ≤ g ∧ w.heap[g]? = some (.cells cur e (0, 0)) ∧ xs.length ≤ cap ∧ cap ≤ maxLen ∧ cur.size = cap * d.sz ∧ cur.toList.take (xs.length * d.sz) = xs.flatMap enc := by
  obtain ⟨_, inner, ho, hr⟩ := h
  have hi := reps_flat (d := d) P.len (fun x cs hx => P.K (d.K_of_M hx)) hr
  rcases ho.2 with ⟨_, h0⟩ | ⟨g, cap, cur, h1, h2, h3, h4, h5, h6, h7⟩
  · omega
  · exact ⟨g, cap, cur, h1, h2, h3, h4, h5, h6, by rw [h7, hi]⟩
theorem pod_holds (P : IsPod d enc) {g cap : Nat} {cur : Array Value} {xs : List α} (h3 : w.heap[g]? = some (.cells cur e (0, 0))) (h4 : xs.length ≤ cap) (h6 : cur.size = cap * d.sz) (h7 : cur.toList.take (xs.length * d.sz) = xs.flatMap enc) : HoldsK enc d.sz w g 0 xs.toArray := by
  intro j hj
  have hj' : j < xs.length * d.sz := by rw [size_flatK] at hj; simpa using hj
  refine ⟨?_, blk_frozen h3 _⟩
  rw [Nat.zero_add, blk_cell h3 j, getElem!_pos _ j hj]
  have h8 : (xs.flatMap enc)[j]? = cur[j]? := by rw [← h7, List.getElem?_take_of_lt hj', Array.getElem?_toList]
  rw [← h8, ← flatK_eq (d := d) P.len P.pos xs, Array.getElem?_toList, Array.getElem?_eq_getElem hj]
  rfl
/-- Behind the sort: the row holds what the sort says; all other blocks are as they were. -/
theorem pod_sorted (P : IsPod d enc) {g cap : Nat} {cur : Array Value} {xs : List α} {ys : Array α} {n : Nat} {os : Array Obj} {w' : World} (h2 : base ≤ g) (h3 : w.heap[g]? = some (.cells cur e (0, 0))) (h4 : xs.length ≤ cap) (h5 : cap ≤ maxLen) (h6 : cur.size = cap * d.sz)
    (hs : ys.size = xs.length) (hw : w' = sortWorldK enc d.sz w g 0 n ys os) : d.R e w' base (fun _ => True) (.slice (some ⟨g, 0, none⟩) ys.toList.length cap) ys.toList ∧ Fr w w' (fun k => k = g) := by
  have hg := blk_lt h3
  subst hw
  unfold sortWorldK putRowK Sort.putRow Sort.mapBlock Sort.grow
  have hat : ((Sort.ahead w n).heap.modify g (Sort.onCells (Sort.putCells id 0 (flatK enc d.sz ys))))[g]? = some (.cells (Sort.putCells id 0 (flatK enc d.sz ys) cur) e (0, 0)) := by
    rw [Array.getElem?_modify]
    simp [h3, Sort.onCells]
  have hblk : (((Sort.ahead w n).heap.modify g (Sort.onCells (Sort.putCells id 0 (flatK enc d.sz ys)))) ++ os)[g]? = some (.cells (Sort.putCells id 0 (flatK enc d.sz ys) cur) e (0, 0)) := by
    rw [Array.getElem?_append_left (by simpa using hg)]; exact hat
  refine ⟨⟨fun _ _ => trivial, ys.toList.flatMap enc, ⟨flat_len (d := d) P.len _, .inr ⟨g, cap, _, rfl, h2, hblk, by rw [Array.length_toList, hs]; exact h4, h5, by simp [Sort.putCells, h6], ?_⟩⟩, reps_of_flat (d := d) P.len (fun x => P.M) _⟩, ⟨⟨rfl, rfl, rfl, by simp, fun k hk => by omega⟩, ⟨by simp, fun i hi hn => ?_⟩⟩⟩
  · rw [← flatK_eq (d := d) P.len P.pos ys.toList]
    have hys : ys.toList.toArray = ys := by simp
    rw [hys]
    refine List.ext_getElem? fun t => ?_
    by_cases ht : t < ys.toList.length * d.sz
    · have ht2 : t < (flatK enc d.sz ys).size := by rw [size_flatK]; simpa using ht
      have ht3 : t < cur.size := by
        rw [h6]
        refine Nat.lt_of_lt_of_le ht (Nat.mul_le_mul_right _ ?_)
        rw [Array.length_toList, hs]; exact h4
      rw [List.getElem?_take_of_lt ht, Array.getElem?_toList, Array.getElem?_toList, Array.getElem?_eq_getElem ht2]
      unfold Sort.putCells
      rw [Array.getElem?_mapIdx, Array.getElem?_eq_getElem ht3]
      simp only [Option.map_some, Nat.zero_le, true_and, Nat.zero_add, if_pos ht2, Nat.sub_zero, id]
      rw [getElem!_pos _ t ht2]
    · rw [List.getElem?_eq_none (by rw [List.length_take]; omega), List.getElem?_eq_none (by rw [Array.length_toList, size_flatK]; simpa using ht)]
  · show (((Sort.ahead w n).heap.modify g _) ++ os)[i]? = _
    rw [Array.getElem?_append_left (by simpa using hi), Array.getElem?_modify]
    simp [show ¬ g = i from fun he => hn he.symm]
end
end Go.Proofs.Ytkpaibkkigfahaa.Srt
