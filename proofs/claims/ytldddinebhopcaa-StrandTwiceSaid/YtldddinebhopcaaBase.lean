/- What all texts of this place use. -/
import Derived.Test.YtldddinebhopcaaProg
import Derived.Below
import Derived.Deep.Draws
import Derived.Deep.AppendLies
import Derived.Maps.AppendAt
import Derived.OwnWalk
import Derived.Laws.BytesArg
import Derived.Laws.MakeOwn
import Derived.Laws.OwnMore
import Derived.Deep.OwnRows
import Derived.Tactics
import Derived.Lib.ConvBytes
import Derived.Laws.Slices
import Derived.WalkKit
import Derived.KernelRfl
import Derived.RowKit3
import Derived.Deep.LoopGhost
import Derived.Deep.QuietTactic
import Derived.BigQuiet
import Derived.WideLaws
import Derived.Deep.DeepCutAuto
import Derived.Deep.CutBlock
import Derived.Deep.RegionHeld3
import Derived.Laws.Rows
import Derived.Lib.AppendStr
import Derived.ArgAppend
import Derived.Laws.IdiomCopy
import Derived.OrdersHeld
import Derived.Laws.BitsLemmas
import Derived.RowKit
import Derived.Test.YtldddinebhopcaaWWords
import Derived.Test.YtldddinebhopcaaWLast
import Derived.Test.YtldddinebhopcaaWTab
import Derived.Test.YtldddinebhopcaaWFour
import Derived.Test.YtldddinebhopcaaWQPut
import Derived.Test.YtldddinebhopcaaWApart
import Derived.Test.YtldddinebhopcaaWArr
import Derived.Test.YtldddinebhopcaaWZeros
import Derived.Test.YtldddinebhopcaaWFoot
import Derived.Test.YtldddinebhopcaaWKept
import Derived.Test.YtldddinebhopcaaWShare
import Derived.Test.YtldddinebhopcaaWN
import Derived.Test.YtldddinebhopcaaWFootNe
import Derived.Test.YtldddinebhopcaaWAt
import Derived.Test.YtldddinebhopcaaWEqStruct
import Derived.Test.YtldddinebhopcaaWRepsOne
import Derived.Test.YtldddinebhopcaaWInv
import Derived.Test.YtldddinebhopcaaWInvWords
import Derived.Test.YtldddinebhopcaaWGuard
import Derived.Test.YtldddinebhopcaaWNEv
import Derived.Test.YtldddinebhopcaaWMore
namespace Go.Proofs.Ytldddinebhopcaa.Bs
open Go.RowKit Go.Proofs.YtldddinebhopcaaW.PrintWords Go.Proofs.YtldddinebhopcaaW.PrintLast Go.Proofs.YtldddinebhopcaaW.PrintMore
set_option linter.unusedVariables false
set_option linter.unusedSimpArgs false

theorem cell_alloc_old {w : World} {a : Addr} {v : Value} (h : w.cell? a = some v) (o : Obj) : (w.alloc o).cell? a = some v :=
  pw_cell_below ((Below.refl _ _).alloc (Nat.le_refl _) _) h
theorem frozen_below {w w1 : World} (hb : Below w.heap.size w w1) {a : Addr} (h : w.frozen? a = false) (hl : a.block < w.heap.size) : w1.frozen? a = false := by
  rw [← h]; unfold World.frozen?; rw [hb.block a.block hl]
theorem lit_C {α : Type} {enc : α → Value} {h1 : ∀ x, (enc x).oneCell' = true} {e : Nat} (W : World) (xs : List α) (h : xs.length ≤ 9223372036854775807) : Kd.C (Kd.scalar enc h1) (W.alloc (.cells (encs enc xs).toArray e)) (some ⟨W.heap.size, 0, none⟩) xs.length xs := by
  have h1' := own_lit_of (enc := enc) W 0 e xs (Nat.zero_le _) h
  have h2 : Kd.R (Kd.scalar enc h1) e (W.alloc (.cells (encs enc xs).toArray e)) 0 (fun _ => True) (.slice (some ⟨W.heap.size, 0, none⟩) xs.length xs.length) xs := Kd.R_of_own h1' (fun _ _ => trivial)
  obtain ⟨A, c, e', _, hC⟩ := Kd.R_reads h2
  injection e' with e1 _ _
  rw [e1]; exact hC
theorem lit_R {α : Type} {enc : α → Value} {h1 : ∀ x, (enc x).oneCell' = true} {e : Nat} (W : World) (base : Nat) (hb : base ≤ W.heap.size) (xs : List α) (h : xs.length ≤ 9223372036854775807) : Kd.R (Kd.scalar enc h1) e (W.alloc (.cells (encs enc xs).toArray e)) base (fun k => W.heap.size ≤ k) (.slice (some ⟨W.heap.size, 0, none⟩) xs.length xs.length) xs :=
  Kd.R_of_own (own_lit_of (enc := enc) W base e xs hb h) (fun k hk => by simp [Value.ownBlock] at hk; omega)
theorem R_same {α : Type} {d : Kd α} {e : Nat} {w : World} {base : Nat} {ok : Nat → Prop} {A : Option Addr} {n c : Nat} {xs : List α} (h : d.R e w base ok (.slice A n c) xs) : n = xs.length ∧ xs.length ≤ c ∧ d.C w A xs.length xs := by
  obtain ⟨A', c', e', hl, hC⟩ := Kd.R_reads h
  injection e' with e1 e2 e3
  subst e1; subst e2; subst e3
  exact ⟨rfl, hl, hC⟩
end Go.Proofs.Ytldddinebhopcaa.Bs
