/- Maps, part 5: an entry that is read and written in a region that draws its order. -/
import Derived.Test.YtkpaibkkigfahaaMp2
namespace Go.Proofs.Ytkpaibkkigfahaa.Mp
open Go.RowKit Go.Proofs.YtkpaibkkigfahaaW.PrintWords Go.Proofs.YtkpaibkkigfahaaW.PrintLast Go.Proofs.YtkpaibkkigfahaaW.PrintMore Go.Proofs.Ytkpaibkkigfahaa.Bs
open Go.MapKept
open Go.ChangeMaps (setBlock heap_setBlock_same heap_setBlock_other modify_eq_set)
open Go.WideElems (findIdx_born findIdx_arr modify_last set_self)
open Go.Maps (Keyed)
set_option linter.unusedVariables false
set_option linter.unusedSimpArgs false
set_option linter.unusedSectionVars false
section
variable {P : Program} {k t e : TypeId} {κ : Type} {K : KeyK P k κ} {w w' : World} {b : Nat} {l : List (κ × Value)} [DecidableEq κ]
theorem MapIs.entry0 (h : MapIs K w b l) (ht : P.underlying t = some (.map k e)) {z : Value} (hz : ∀ u : World, (zeroValue e).run P u = .ok z u) {x : κ} (hx : K.ok x) :
    ∃ (st : Nat) (W1 : World), (Instr.mapEntry t (.map (some b)) (K.enc x)).run P w = .ok (.tuple #[(aget l x).getD z, goInt st]) W1 ∧ w.grownBy W1 (some b) ∧ W1.heap.size = w.heap.size ∧ (∃ es clock, W1.heap[b]? = some (.map es clock)) ∧ Stores P K t W1 b l x st := by
  have hn := h.nodup
  have ho := h.oks
  have hlt := h.lt
  obtain ⟨kl, hkl⟩ := K.key x hx
  obtain ⟨es, cl, hb, hs, hl, hf⟩ := h.find hx
  have hb0 := hb
  rcases hf with ⟨h1, h2, h3⟩ | ⟨j, e0, p, h1, h2, h3, h4, h5, h6⟩
  · refine ⟨cl, setBlock w b (.map (es.push { key := K.enc x, val := z, born := cl }) (cl + 1)), ?_, grown_setBlock hlt _, by simp [setBlock], ⟨_, _, heap_setBlock_same hb0 _⟩, ?_⟩
    · rw [aget_none h3]
      simp [Instr.mapEntry, run_underlying ht, MapKept.run_getObj_map hb, K.law.check w false hkl, h1, hz, MapKept.run_setObj_map _ hb, Result.andThen]
      rfl
    · intro w2 val hw2
      rw [heap_setBlock_same hb0 _] at hw2
      obtain ⟨s1, s2, _⟩ := (stamped_iff es cl).1 hs
      have hidx : (es.push ⟨K.enc x, z, cl⟩).findIdx? (fun e => ((e.born : Nat) : Int) == ((cl : Nat) : Int)) = some es.size := by
        rw [findIdx_arr]
        have := findIdx_born (l := (es.push ⟨K.enc x, z, cl⟩).toList) (j := es.size) (e0 := ⟨K.enc x, z, cl⟩) (by
          simp only [Array.toList_push, List.map_append, List.map_cons, List.map_nil]
          refine List.nodup_append.2 ⟨s2, by simp, fun a ha c hc e1 => ?_⟩
          simp only [List.mem_singleton] at hc
          obtain ⟨y, hy, rfl⟩ := List.mem_map.1 ha
          have := s1 y hy
          omega) (by simp)
        exact this
      have hmod : (es.push ⟨K.enc x, z, cl⟩).modify es.size (fun e => { e with val := val }) = es.push ⟨K.enc x, val, cl⟩ := by
        apply Array.ext'
        rw [Array.toList_modify, Array.toList_push, Array.toList_push, ← Array.length_toList, modify_last]
      refine ⟨setBlock w2 b (.map (es.push ⟨K.enc x, val, cl⟩) (cl + 1)), ?_, store_push hs hl ho hx val h2 h3 (heap_setBlock_same hw2 _), grown_setBlock (blk_lt hw2) _⟩
      simp [Instr.entryStore, MapKept.run_getObj_map hw2, asInt, asIntOf, goInt, hidx, hmod, MapKept.run_setObj_map _ hw2, Result.andThen, setBlock]
  · have hj : es[j]? = some e0 := by simpa using h2
    have hsame : es.modify j (fun e => { e with key := K.enc x }) = es := by
      apply Array.ext'
      rw [Array.toList_modify, modify_eq_set _ _ _ _ h2]
      have : ({ e0 with key := K.enc x } : MapEntry) = e0 := by rw [← h3]
      rw [this]
      exact set_self _ _ _ h2
    refine ⟨e0.born, setBlock w b (.map es cl), ?_, grown_setBlock hlt _, by simp [setBlock], ⟨_, _, heap_setBlock_same hb0 _⟩, ?_⟩
    · rw [aget_at hn h4 h5]
      simp [Instr.mapEntry, run_underlying ht, MapKept.run_getObj_map hb, K.law.check w false hkl, h1, hj, h3, h6, K.law.stays w hkl, hsame, MapKept.run_setObj_map _ hb, Result.andThen]
      rfl
    · intro w2 val hw2
      rw [heap_setBlock_same hb0 _] at hw2
      obtain ⟨s1, s2, _⟩ := (stamped_iff es cl).1 hs
      have hidx : es.findIdx? (fun e => ((e.born : Nat) : Int) == ((e0.born : Nat) : Int)) = some j := by
        rw [findIdx_arr]
        exact findIdx_born s2 h2
      refine ⟨setBlock w2 b (.map (es.modify j (fun e => { e with val := val })) cl), ?_, store_set hs hl ho hn hx val h2 h3 h4 h5 (fun e => { e with val := val }) (by rw [← h3]) (fun _ _ => rfl) (fun _ _ _ => rfl) (heap_setBlock_same hw2 _), grown_setBlock (blk_lt hw2) _⟩
      simp [Instr.entryStore, MapKept.run_getObj_map hw2, asInt, asIntOf, goInt, hidx, MapKept.run_setObj_map _ hw2, Result.andThen, setBlock]

variable {ops : Array Oper} {oi : Oper} {a : Act} {Q : Exit → Act → World → Prop} {Kc : Act → World → Prop}
theorem entry_ (K : KeyK P k κ) (hw : Region.wanted oi (yielded ops a.tmps) = true) {N : Option Tmp} (hN : oi.dst = N) (h : MapIs K w b l) (m x : Operand) (hop : oi.op = Op.mapEntry t m x) (ht : P.underlying t = some (.map k e)) {z : Value} (hz : ∀ u : World, (zeroValue e).run P u = .ok z u) (y : κ) (hy : K.ok y) (hm : a.eval m = .map (some b)) (hx : a.eval x = K.enc y)
    (hK : ∀ (st : Nat) (W1 : World), w.grownBy W1 (some b) → W1.heap.size = w.heap.size → Stores P K t W1 b l y st → Kc (a.put N (.tuple #[(aget l y).getD z, goInt st])) W1) : if Region.wanted oi (yielded ops a.tmps) = true then Oper.wp P oi a w Kc Q else Kc (a.put N undef) w := by
  obtain ⟨st, W1, hr, h1, h2, h3, h4⟩ := h.entry0 ht hz hy
  refine value_ hw hN ?_ (hK st W1 h1 h2 h4)
  simp [execOp, hop, hm, hx, hr, Result.andThen]
theorem entry_store_ (K : KeyK P k κ) {W1 w2 : World} {y : κ} {st : Nat} (hw : Region.wanted oi (yielded ops a.tmps) = true) (hN : oi.dst = none) (hS : Stores P K t W1 b l y st) (hw2 : w2.heap[b]? = W1.heap[b]?) (m s u : Operand) (hop : oi.op = Op.entryStore t m s u) (v : Value) (hm : a.eval m = .map (some b)) (hs : a.eval s = goInt st) (hu : a.eval u = v)
    (hK : ∀ w3, MapIs K w3 b (aset l y v) → w2.grownBy w3 (some b) → Kc a w3) : if Region.wanted oi (yielded ops a.tmps) = true then Oper.wp P oi a w2 Kc Q else Kc (a.put none undef) w2 := by
  obtain ⟨w3, hr, h1, h2⟩ := hS w2 v hw2
  exact skip_ hw hN (by simp [execOp, hop, hm, hs, hu, hr, Result.andThen]) (hK w3 h1 h2)
end
end Go.Proofs.Ytkpaibkkigfahaa.Mp
