/- Maps, part 2: an entry that is read and written ('m[k] = append(m[k], ..)'), and maps whose values are rows. -/
import Derived.Test.YtkpaibkkigfahaaMp
import Derived.WideKeyEntry
namespace Go.Proofs.Ytkpaibkkigfahaa.Mp
open Go.RowKit Go.Proofs.YtkpaibkkigfahaaW.PrintWords Go.Proofs.YtkpaibkkigfahaaW.PrintLast Go.Proofs.YtkpaibkkigfahaaW.PrintMore Go.Proofs.Ytkpaibkkigfahaa.Bs
open Go.MapKept
open Go.ChangeMaps (setBlock heap_setBlock_same heap_setBlock_other modify_eq_set)
open Go.WideElems (findIdx_born findIdx_arr modify_last set_self)
open Go.Maps (Keyed)
set_option linter.unusedVariables false
set_option linter.unusedSimpArgs false
set_option linter.unusedSectionVars false
section
variable {P : Program} {k t e : TypeId} {κ : Type} {K : KeyK P k κ} {w w' : World} {b : Nat} {l : List (κ × Value)}
theorem setBlock_alloc {W : World} (hb : b < W.heap.size) (o m : Obj) : setBlock (W.alloc o) b m = (setBlock W b m).alloc o := by
  unfold setBlock World.alloc
  congr 1
  apply Array.ext'
  simp only [Array.toList_setIfInBounds, Array.toList_push]
  rw [List.set_append_left _ _ (by simpa using hb)]
variable [DecidableEq κ]
/-- What 'mapEntry' leaves for 'entryStore'. -/
def Stores (P : Program) (K : KeyK P k κ) (t : TypeId) (W1 : World) (b : Nat) (l : List (κ × Value)) (x : κ) (st : Nat) : Prop :=
  ∀ (w2 : World) (val : Value), w2.heap[b]? = W1.heap[b]? → ∃ w3, (Instr.entryStore t (.map (some b)) (goInt st) val).run P w2 = .ok () w3 ∧ MapIs K w3 b (aset l x val) ∧ w2.grownBy w3 (some b)
theorem MapIs.entry (h : MapIs K w b l) (ht : P.underlying t = some (.map k e)) {z : Value} (hz : ∀ u : World, (zeroValue e).run P u = .ok z u) {x : κ} (hx : K.ok x) (o : Obj) :
    ∃ (st : Nat) (W1 : World), (Instr.mapEntry t (.map (some b)) (K.enc x)).run P (w.alloc o) = .ok (.tuple #[(aget l x).getD z, goInt st]) (W1.alloc o) ∧ w.grownBy W1 (some b) ∧ W1.heap.size = w.heap.size ∧ (∃ es clock, W1.heap[b]? = some (.map es clock)) ∧ Stores P K t W1 b l x st := by
  have hn := h.nodup
  have ho := h.oks
  have hlt := h.lt
  have hA := h.alloc o
  obtain ⟨kl, hkl⟩ := K.key x hx
  obtain ⟨es, cl, hb, hs, hl, hf⟩ := hA.find hx
  have hb0 : w.heap[b]? = some (.map es cl) := by
    rw [← hb]
    exact ((below_alloc (Below.refl w.heap.size w) o).block b hlt).symm
  rcases hf with ⟨h1, h2, h3⟩ | ⟨j, e0, p, h1, h2, h3, h4, h5, h6⟩
  · refine ⟨cl, setBlock w b (.map (es.push { key := K.enc x, val := z, born := cl }) (cl + 1)), ?_, grown_setBlock hlt _, by simp [setBlock], ⟨_, _, heap_setBlock_same hb0 _⟩, ?_⟩
    · rw [aget_none h3]
      simp [Instr.mapEntry, run_underlying ht, MapKept.run_getObj_map hb, K.law.check (w.alloc o) false hkl, h1, hz, MapKept.run_setObj_map _ hb, Result.andThen]
      exact setBlock_alloc hlt _ _
    · intro w2 val hw2
      rw [heap_setBlock_same hb0 _] at hw2
      obtain ⟨s1, s2, _⟩ := (stamped_iff es cl).1 hs
      have hidx : (es.push ⟨K.enc x, z, cl⟩).findIdx? (fun e => ((e.born : Nat) : Int) == ((cl : Nat) : Int)) = some es.size := by
        rw [findIdx_arr]
        have := findIdx_born (l := (es.push ⟨K.enc x, z, cl⟩).toList) (j := es.size) (e0 := ⟨K.enc x, z, cl⟩) (by
          simp only [Array.toList_push, List.map_append, List.map_cons, List.map_nil]
          refine List.nodup_append.2 ⟨s2, by simp, fun a ha c hc e1 => ?_⟩
          simp only [List.mem_singleton] at hc
          obtain ⟨y, hy, rfl⟩ := List.mem_map.1 ha
          have := s1 y hy
          omega) (by simp)
        exact this
      have hmod : (es.push ⟨K.enc x, z, cl⟩).modify es.size (fun e => { e with val := val }) = es.push ⟨K.enc x, val, cl⟩ := by
        apply Array.ext'
        rw [Array.toList_modify, Array.toList_push, Array.toList_push, ← Array.length_toList, modify_last]
      refine ⟨setBlock w2 b (.map (es.push ⟨K.enc x, val, cl⟩) (cl + 1)), ?_, store_push hs hl ho hx val h2 h3 (heap_setBlock_same hw2 _), grown_setBlock (blk_lt hw2) _⟩
      simp [Instr.entryStore, MapKept.run_getObj_map hw2, asInt, asIntOf, goInt, hidx, hmod, MapKept.run_setObj_map _ hw2, Result.andThen, setBlock]
  · have hj : es[j]? = some e0 := by simpa using h2
    have hsame : es.modify j (fun e => { e with key := K.enc x }) = es := by
      apply Array.ext'
      rw [Array.toList_modify, modify_eq_set _ _ _ _ h2]
      have : ({ e0 with key := K.enc x } : MapEntry) = e0 := by rw [← h3]
      rw [this]
      exact set_self _ _ _ h2
    refine ⟨e0.born, setBlock w b (.map es cl), ?_, grown_setBlock hlt _, by simp [setBlock], ⟨_, _, heap_setBlock_same hb0 _⟩, ?_⟩
    · rw [aget_at hn h4 h5]
      simp [Instr.mapEntry, run_underlying ht, MapKept.run_getObj_map hb, K.law.check (w.alloc o) false hkl, h1, hj, h3, h6, K.law.stays (w.alloc o) hkl, hsame, MapKept.run_setObj_map _ hb, Result.andThen]
      exact setBlock_alloc hlt _ _
    · intro w2 val hw2
      rw [heap_setBlock_same hb0 _] at hw2
      obtain ⟨s1, s2, _⟩ := (stamped_iff es cl).1 hs
      have hidx : es.findIdx? (fun e => ((e.born : Nat) : Int) == ((e0.born : Nat) : Int)) = some j := by
        rw [findIdx_arr]
        exact findIdx_born s2 h2
      refine ⟨setBlock w2 b (.map (es.modify j (fun e => { e with val := val })) cl), ?_, store_set hs hl ho hn hx val h2 h3 h4 h5 (fun e => { e with val := val }) (by rw [← h3]) (fun _ _ => rfl) (fun _ _ _ => rfl) (heap_setBlock_same hw2 _), grown_setBlock (blk_lt hw2) _⟩
      simp [Instr.entryStore, MapKept.run_getObj_map hw2, asInt, asIntOf, goInt, hidx, MapKept.run_setObj_map _ hw2, Result.andThen, setBlock]

/-! ### at the operations -/
variable {ops : Array Oper} {rest : List Oper} {o : Oper} {a : Act} {Q : Exit → Act → World → Prop}
/-- 'm[k] op= ..': the entry is read; what was made last (a literal's row) stays last. -/
theorem wp_entry (K : KeyK P k κ) (hg : o.guard = none) (h : MapIs K w b l) (lit : Obj) (m x : Operand) (hop : o.op = Op.mapEntry t m x) (ht : P.underlying t = some (.map k e)) {z : Value} (hz : ∀ u : World, (zeroValue e).run P u = .ok z u) (y : κ) (hy : K.ok y) (hm : a.eval m = .map (some b)) (hx : a.eval x = K.enc y)
    (hK : ∀ (st : Nat) (W1 : World), w.grownBy W1 (some b) → W1.heap.size = w.heap.size → (∃ es clock, W1.heap[b]? = some (.map es clock)) → Stores P K t W1 b l y st → wpList P ops Q rest (a.put o.dst (.tuple #[(aget l y).getD z, goInt st])) (W1.alloc lit)) : wpList P ops Q (o :: rest) a (w.alloc lit) := by
  obtain ⟨st, W1, hr, h1, h2, h3, h4⟩ := h.entry ht hz hy lit
  refine Kd.event_run hg ?_ (hK st W1 h1 h2 h3 h4)
  simp [execOp, hop, hm, hx, hr, Result.andThen]
/-- .. and written. -/
theorem wp_entry_store (K : KeyK P k κ) {W1 w2 : World} {y : κ} {st : Nat} (hS : Stores P K t W1 b l y st) (hw : w2.heap[b]? = W1.heap[b]?) (hg : o.guard = none) (m s u : Operand) (hop : o.op = Op.entryStore t m s u) {v : Value} (hm : a.eval m = .map (some b)) (hs : a.eval s = goInt st) (hu : a.eval u = v)
    (hK : ∀ w3, MapIs K w3 b (aset l y v) → w2.grownBy w3 (some b) → wpList P ops Q rest (a.put o.dst undef) w3) : wpList P ops Q (o :: rest) a w2 := by
  obtain ⟨w3, hr, h1, h2⟩ := hS w2 v hw
  exact event_skip hg (by simp [execOp, hop, hm, hs, hu, hr, Result.andThen]) (hK w3 h1 h2)

/-! ### maps of rows -/
/-- Each key's value is a row of this memory's own; no two have a block in common. -/
structure MapRows {α : Type} (d : Kd α) (e : Nat) (K : KeyK P k κ) (w : World) (base b : Nat) (l : List (κ × Value)) (M : κ → List α) : Prop where
  map : MapIs K w b l
  row : ∀ x, Kd.R d e w base (fun _ => True) ((aget l x).getD (.slice none 0 0)) (M x)
  apart : ∀ x y g, x ≠ y → ((aget l x).getD (.slice none 0 0)).ownBlock = some g → ((aget l y).getD (.slice none 0 0)).ownBlock ≠ some g
variable {α : Type} {d : Kd α} {et : Nat} {base : Nat} {M : κ → List α}
theorem row_ne_map {ok : Nat → Prop} {v : Value} {xs : List α} (hm : ∃ es clock, w.heap[b]? = some (.map es clock)) (hr : Kd.R d et w base ok v xs) : some b ≠ v.ownBlock := fun he => by
  obtain ⟨inner, ho⟩ := Kd.R_own hr
  obtain ⟨cells, hc⟩ := own_typed ho _ he.symm
  obtain ⟨es, cl, hb⟩ := hm
  rw [hc] at hb; cases hb
theorem MapIs.obj (h : MapIs K w b l) : ∃ es clock, w.heap[b]? = some (.map es clock) := by obtain ⟨es, c, hb, _⟩ := h; exact ⟨es, c, hb⟩
theorem MapRows.made (d : Kd α) (et : Nat) (K : KeyK P k κ) (w : World) (base : Nat) : MapRows d et K (w.alloc (.map #[] 0)) base w.heap.size [] (fun _ => []) where
  map := MapIs.made K w
  row := fun _ => Kd.R_nil _ _ _ _ _
  apart := fun x y g _ h => by simp [aget, Value.ownBlock] at h
theorem MapRows.below (h : MapRows d et K w base b l M) (hb : Below w.heap.size w w') : MapRows d et K w' base b l M where
  map := h.map.below hb
  row := fun x => Kd.R_below (h.row x) hb
  apart := h.apart
theorem MapRows.alloc (h : MapRows d et K w base b l M) (o : Obj) : MapRows d et K (w.alloc o) base b l M := h.below (below_alloc (Below.refl _ _) o)
theorem aget_aset' (l : List (κ × Value)) (x y : κ) (v : Value) : aget (aset l x v) y = if x = y then some v else aget l y := by
  induction l with
  | nil => by_cases h : x = y <;> simp [aset, aget, h]
  | cons p r ih =>
    unfold aset
    by_cases h : p.1 = x
    · rw [if_pos h]
      by_cases h2 : x = y
      · simp [aget, h2]
      · have h3 : p.1 ≠ y := fun he => h2 (h ▸ he)
        simp [aget, h2, h3]
    · rw [if_neg h]
      by_cases h3 : p.1 = y
      · have h2 : x ≠ y := fun he => h (he ▸ h3)
        simp [aget, h3, h2]
      · unfold aget at ih ⊢
        rw [List.find?_cons_of_neg (by simpa using h3), List.find?_cons_of_neg (by simpa using h3)]
        exact ih
/-- One key's row has grown: w, the entry read (W1), the row appended to (w2), the entry written (w3). -/
theorem MapRows.append (h : MapRows d et K w base b l M) (hE : d.E = []) {x : κ} {W1 w2 w3 : World} {v1 : Value} {xs1 : List α}
    (g1 : w.grownBy W1 (some b)) (hs : W1.heap.size = w.heap.size) (g2 : W1.grownBy w2 ((aget l x).getD (.slice none 0 0)).ownBlock) (hr : Kd.R d et w2 base (fun _ => True) v1 xs1)
    (hat : v1.ownBlock = ((aget l x).getD (.slice none 0 0)).ownBlock ∨ ∃ g, v1.ownBlock = some g ∧ W1.heap.size ≤ g) (hm3 : MapIs K w3 b (aset l x v1)) (g3 : w2.grownBy w3 (some b)) (hm2 : ∃ es clock, w2.heap[b]? = some (.map es clock)) :
    MapRows d et K w3 base b (aset l x v1) (fun y => if x = y then xs1 else M y) where
  map := hm3
  row := fun y => by
    rw [aget_aset']
    by_cases hxy : x = y
    · subst hxy
      simp only [if_true, Option.getD_some]
      exact Kd.R_grown1 hr hE g3 (row_ne_map hm2 hr)
    · rw [if_neg hxy, if_neg hxy]
      have r0 := h.row y
      have r1 := Kd.R_grown1 r0 hE g1 (row_ne_map h.map.obj r0)
      have r2 : Kd.R d et w2 base (fun _ => True) ((aget l y).getD (.slice none 0 0)) (M y) := Kd.R_grown2 r1 hE g2 (fun g hg he => h.apart x y g hxy hg he.symm)
      exact Kd.R_grown1 r2 hE g3 (row_ne_map hm2 r2)
  apart := fun y z g hyz hy hz => by
    rw [aget_aset'] at hy hz
    have old : ∀ y g, ((aget l y).getD (.slice none 0 0)).ownBlock = some g → g < w.heap.size := fun y g hg => by
      obtain ⟨inner, ho⟩ := Kd.R_own (h.row y)
      exact own_lt ho g hg
    by_cases hxy : x = y
    · subst hxy
      rw [if_neg hyz] at hz
      rw [if_pos rfl] at hy
      simp only [Option.getD_some] at hy
      rcases hat with hat | ⟨g', hg', hle⟩
      · exact h.apart x z g hyz (hat ▸ hy) hz
      · rw [hy] at hg'; cases hg'
        have := old z g hz; omega
    · rw [if_neg hxy] at hy
      by_cases hxz : x = z
      · subst hxz
        rw [if_pos rfl] at hz
        simp only [Option.getD_some] at hz
        rcases hat with hat | ⟨g', hg', hle⟩
        · exact h.apart y x g hyz hy (hat ▸ hz)
        · rw [hz] at hg'; cases hg'
          have := old y g hy; omega
      · rw [if_neg hxz] at hz
        exact h.apart y z g hyz hy hz
end
end Go.Proofs.Ytkpaibkkigfahaa.Mp
