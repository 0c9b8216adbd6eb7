/- Maps, part 4: stores and deletions in a region that draws its order. -/
import Derived.Test.YtkpaibkkigfahaaMp
namespace Go.Proofs.Ytkpaibkkigfahaa.Mp
open Go.RowKit Go.Proofs.YtkpaibkkigfahaaW.PrintWords Go.Proofs.YtkpaibkkigfahaaW.PrintLast Go.Proofs.YtkpaibkkigfahaaW.PrintMore Go.Proofs.Ytkpaibkkigfahaa.Bs
set_option linter.unusedVariables false
set_option linter.unusedSimpArgs false
section
variable {P : Program} {k t e : TypeId} {κ : Type} [DecidableEq κ] {w : World} {b : Nat} {l : List (κ × Value)} {ops : Array Oper} {oi : Oper} {a : Act} {Q : Exit → Act → World → Prop} {Kc : Act → World → Prop}
/-- 'v, ok := m[k]': what it yields. -/
theorem look_run (K : KeyK P k κ) (h : MapIs K w b l) (m x : Operand) (hop : oi.op = Op.lookup t m x true) (ht : P.underlying t = some (.map k e)) {z : Value} (hz : (zeroValue e).run P w = .ok z w) (y : κ) (hy : K.ok y) (hm : a.eval m = .map (some b)) (hx : a.eval x = K.enc y) {v : Value} {s : Bool} (hv : (aget l y).getD z = v ∧ (aget l y).isSome = s) :
    (execOp a.eval oi).run P w = .ok (.value (.tuple #[v, .bool s])) w := by
  have h_ := exec_look h true m x hop ht hz hy hm hx
  rw [hv.1, hv.2] at h_
  exact h_
theorem map_store_ (K : KeyK P k κ) (hw : Region.wanted oi (yielded ops a.tmps) = true) (hN : oi.dst = none) (h : MapIs K w b l) (m x u : Operand) (hop : oi.op = Op.mapUpdate t m x u) (ht : P.underlying t = some (.map k e)) (y : κ) (hy : K.ok y) (v : Value) (hm : a.eval m = .map (some b)) (hx : a.eval x = K.enc y) (hu : a.eval u = v)
    (hK : ∀ w', MapIs K w' b (aset l y v) → w.grownBy w' (some b) → Kc a w') : if Region.wanted oi (yielded ops a.tmps) = true then Oper.wp P oi a w Kc Q else Kc (a.put none undef) w := by
  obtain ⟨w', hr, h1, h2⟩ := exec_store h m x u hop ht hy hm hx hu
  exact skip_ hw hN hr (hK w' h1 h2)
theorem map_drop_ (K : KeyK P k κ) (hw : Region.wanted oi (yielded ops a.tmps) = true) (hN : oi.dst = none) (h : MapIs K w b l) (m x : Operand) (hop : oi.op = Op.call { callee := .builtin .delete, args := #[m, x], argTypes := #[t, k] }) (ht : P.underlying t = some (.map k e)) (y : κ) (hy : K.ok y) (hm : a.eval m = .map (some b)) (hx : a.eval x = K.enc y)
    (hK : ∀ w', MapIs K w' b (adel l y) → w.grownBy w' (some b) → Kc (a.put none (.tuple #[])) w') : if Region.wanted oi (yielded ops a.tmps) = true then Oper.wp P oi a w Kc Q else Kc (a.put none undef) w := by
  obtain ⟨w', hr, h1, h2⟩ := h.drop (ty := oi.type) ht hy
  have hrun : (execOp a.eval oi).run P w = .ok (.value (.tuple #[])) w' := by
    unfold execOp
    simp [hop, resolve, invoke, builtin, Result.andThen, hm, hx, hr]
  exact value_ hw hN hrun (hK w' h1 h2)
end
end Go.Proofs.Ytkpaibkkigfahaa.Mp
