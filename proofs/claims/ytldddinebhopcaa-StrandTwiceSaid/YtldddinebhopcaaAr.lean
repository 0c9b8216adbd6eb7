/- Arrays that are made, filled and sliced whole. -/
import Derived.Test.YtldddinebhopcaaFr
namespace Go.Proofs.Ytldddinebhopcaa.Fr
open Go.RowKit Go.Proofs.YtldddinebhopcaaW.PrintWords Go.Proofs.YtldddinebhopcaaW.PrintLast Go.Proofs.YtldddinebhopcaaW.PrintMore Go.Proofs.Ytldddinebhopcaa.Bs
set_option linter.unusedVariables false
set_option linter.unusedSimpArgs false
set_option linter.unusedSectionVars false
section
variable {w w1 W : World} {F : Nat → Prop} {g : Nat} {t : TypeId} {zs : Array Value} {cs : List Value}
theorem Fr.setCells (h : Fr w w1 F) (hp : F g ∨ w.heap.size ≤ g) (o : Nat) (vs : List Value) : Fr w (w1.setCells g o vs) F := by
  obtain ⟨h1, h2, h3, h4⟩ := setCells_same g vs o w1
  refine h.trans (F2 := fun k => k = g) ⟨⟨h1, h2, h3, by rw [h4]; exact Nat.le_refl _, fun k hk => by omega⟩, ⟨by rw [h4]; exact Nat.le_refl _, fun i _ hn => setCells_far vs o i hn⟩⟩ (fun k hk => by rw [hk]; exact hp)
theorem fill_blk (hb : W.heap[g]? = some (.cells zs t (0, 0))) (hl : cs.length = zs.size) : (W.setCells g 0 cs).heap[g]? = some (.cells cs.toArray t (0, 0)) := by
  obtain ⟨cur, h1, h2, h3⟩ := setCells_row cs 0 W zs hb (by omega)
  rw [h1]
  have : cur = cs.toArray := by
    apply Array.ext'
    rw [h3, List.take_zero, Nat.zero_add, List.drop_of_length_le (by rw [Array.length_toList]; omega)]
    simp
  rw [this]
theorem there_blk (hb : W.heap[g]? = some (.cells zs t (0, 0))) (o n : Nat) (h : o + n ≤ zs.size) : W.there g o n := fun j hj => by
  refine ⟨?_, blk_frozen hb _⟩
  rw [blk_cell hb (o + j), Array.getElem?_eq_getElem (by omega)]
  rfl
theorem range_blk (hb : W.heap[g]? = some (.cells cs.toArray t (0, 0))) : W.rangeAt g 0 cs := fun j v hv => by
  rw [Nat.zero_add, blk_cell hb j]
  simpa using hv
theorem R_blk {α : Type} {enc : α → Value} {h1 : ∀ x, (enc x).oneCell' = true} {base : Nat} {xs : List α} (hb : W.heap[g]? = some (.cells (encs enc xs).toArray t (0, 0))) (hg : base ≤ g) (hl : xs.length ≤ 9223372036854775807) :
    Kd.R (Kd.scalar enc h1) t W base (fun _ => True) (.slice (some ⟨g, 0, none⟩) xs.length xs.length) xs :=
  Kd.R_of_own ⟨by rw [encs_length, Nat.mul_one], .inr ⟨g, xs.length, _, rfl, hg, hb, Nat.le_refl _, hl, by simp [encs_length], by rw [Nat.mul_one]; simp [List.take_of_length_le, encs_length]⟩⟩ (fun _ _ => trivial)
theorem range_fr {w w' : World} {F : Nat → Prop} {g o : Nat} {cs : List Value} (h : w.rangeAt g o cs) (k : Fr w w' F) (hn : ¬ F g) : w'.rangeAt g o cs := fun j v hv => cell_kept (h j v hv) k.2 hn
theorem range_part {w : World} {g : Nat} {t : TypeId} {x : Value} {cs : List Value} (hb : w.heap[g]? = some (.cells (x :: cs).toArray t (0, 0))) : w.rangeAt g 1 cs := fun j v hv => by
  have := range_blk hb (j + 1) v (by simpa using hv)
  rw [show 0 + (j + 1) = 1 + j by omega] at this
  exact this
end
section
variable {P : Program} {ops : Array Oper} {rest : List Oper} {o : Oper} {a : Act} {Q : Exit → Act → World → Prop} {W : World}
/-- A whole variable is filled. -/
theorem wp_fill (hgd : o.guard = none) (ty : TypeId) (x y : Operand) (ho : o.op = .store ty x y) (g : Nat) (zs : Array Value) (t : TypeId) (cs : List Value) (hb : W.heap[g]? = some (.cells zs t (0, 0)))
    (hx : a.eval x = .pointer (some ⟨g, 0, none⟩)) (hy : a.eval y = .agg cs.toArray) (hl : cs.length = zs.size) (hi : (P.info? ty).map (·.size) = some zs.size) (h1 : ∀ v ∈ cs, v.oneCell' = true)
    (h : ∀ w1, w1.heap[g]? = some (.cells cs.toArray t (0, 0)) → Fr W w1 (fun k => k = g) → wpList P ops Q rest (a.put o.dst undef) w1) : wpList P ops Q (o :: rest) a W := by
  refine wpList_store_mid hgd ty x y ho g 0 cs.toArray hx hy ?_ ?_ ?_ ?_
  · exact there_blk hb 0 _ (by simp; omega)
  · rw [hi]; simp [hl]
  · exact all_oneCell_toArray h1
  · exact h _ (fill_blk hb hl) (Fr.setCells (F := fun k => k = g) (Fr.refl W _) (.inl rfl) 0 cs)
theorem run_store_mid (ty : TypeId) (x y : Operand) (ho : o.op = .store ty x y) (b off : Nat) (cells : Array Value) (hx : a.eval x = .pointer (some ⟨b, off, none⟩)) (hy : a.eval y = .agg cells)
    (ht : W.there b off cells.size) (hi : (P.info? ty).map (·.size) = some cells.size) (h1 : cells.all (·.oneCell') = true) : (execOp a.eval o).run P W = .ok .skip (W.setCells b off cells.toList) := by
  unfold execOp
  simp only [ho, hx, hy, Instr.storeAt, Instr.sureAddr, Sem.run_bind, Sem.run_pure, Result.andThen_ok, run_storeVar_mid W b off ty cells ht hi h1]
theorem copy_w (dT sT elem : TypeId) (x y : Operand) (ho : o.op = .call { callee := .builtin .copy, args := #[x, y], argTypes := #[dT, sT] }) (b off dLen dCap : Nat) (ad : Addr) (sLen sCap : Nat) (cs : List Value)
    (hx : a.eval x = .slice (some ⟨b, off, none⟩) dLen dCap) (hy : a.eval y = .slice (some ad) sLen sCap) (hu : P.underlying dT = some (.slice elem)) (hs : (P.info? elem).map (·.size) = some 1) (hn : cs.length = Nat.min sLen dLen)
    (hsrc : ∀ j v, cs[j]? = some v → W.cell? (ad.add j) = some v) (ht : W.there b off cs.length) (h1 : ∀ v ∈ cs, v.oneCell' = true) :
    (execOp a.eval o).run P W = .ok (.value (goInt cs.length)) (W.setCells b off cs) := by
  have h := run_copy_cells (P := P) W dT sT o.type elem b off dLen dCap ad sLen sCap cs hu hs hn hsrc (fun j hj => (ht j hj).1) (fun j hj => (ht j hj).2) h1
  unfold execOp
  simp [ho, resolve, invoke, builtin, Result.andThen, hx, hy, h]
end
end Go.Proofs.Ytldddinebhopcaa.Fr
