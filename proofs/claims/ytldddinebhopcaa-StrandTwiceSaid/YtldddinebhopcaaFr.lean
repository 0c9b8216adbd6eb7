/- Frames: what a call may have written. -/
import Derived.Test.YtldddinebhopcaaBase
import Derived.Deep.MidRow
namespace Go.Proofs.Ytldddinebhopcaa.Fr
open Go.RowKit Go.Proofs.YtldddinebhopcaaW.PrintWords Go.Proofs.YtldddinebhopcaaW.PrintLast Go.Proofs.YtldddinebhopcaaW.PrintMore Go.Proofs.Ytldddinebhopcaa.Bs
set_option linter.unusedVariables false
set_option linter.unusedSimpArgs false
set_option linter.unusedSectionVars false

/-- Only blocks of F were written, beside what is new. -/
def Fr (w w' : World) (F : Nat → Prop) : Prop := Below 0 w w' ∧ Kept w w' F
section
variable {w w1 w2 : World} {F F2 : Nat → Prop}
theorem Fr.refl (w : World) (F : Nat → Prop) : Fr w w F := ⟨Below.refl _ _, Kept.refl _ _⟩
theorem Fr.trans (h : Fr w w1 F) (k : Fr w1 w2 F2) (hs : ∀ k, F2 k → F k ∨ w.heap.size ≤ k) : Fr w w2 F := ⟨h.1.trans k.1, h.2.then_ k.2 hs⟩
theorem Fr.mono (h : Fr w w1 F) (hs : ∀ k, F k → F2 k) : Fr w w1 F2 := ⟨h.1, h.2.mono hs⟩
theorem Fr.size (h : Fr w w1 F) : w.heap.size ≤ w1.heap.size := h.1.size
theorem Fr.of_below (h : Below w.heap.size w w1) (F : Nat → Prop) : Fr w w1 F := ⟨⟨h.os, h.tape, h.output, h.size, fun k hk => by omega⟩, Kept.of_below h F⟩
theorem Fr.alloc (h : Fr w w1 F) (o : Obj) : Fr w (w1.alloc o) F := h.trans (Fr.of_below (below_alloc (Below.refl _ _) o) (fun _ => False)) (fun _ hk => hk.elim)
theorem Fr.drew (h : Fr w w1 F) : Fr w w1.drew F := ⟨h.1.drew, h.2⟩
theorem Fr.grown {row : Option Nat} (h : Fr w w1 F) (hg : w1.grownBy w2 row) (hr : ∀ k, row = some k → F k ∨ w.heap.size ≤ k) : Fr w w2 F := ⟨h.1.trans ⟨hg.os, hg.tape, hg.output, hg.size, fun k hk => by omega⟩, Kept.of_grown hg h.2 hr⟩
theorem Fr.set {g o : Nat} (h : Fr w w1 F) (hp : F g ∨ w.heap.size ≤ g) (u : Value) : Fr w (w1.setCell ⟨g, o, none⟩ u) F := ⟨h.1.setCell (Nat.zero_le _) u, Kept.setCell (p := ⟨g, o, none⟩) h.2 hp u⟩
theorem Fr.below (h : Fr w w1 F) (k : Below w1.heap.size w1 w2) : Fr w w2 F := h.trans (Fr.of_below k (fun _ => False)) (fun _ hk => hk.elim)
theorem Fr.to (h : Fr w w1 F) {B : Nat} (hB : B ≤ w.heap.size) (hF : ∀ k, F k → B ≤ k) : Below B w w1 := ⟨h.1.os, h.1.tape, h.1.output, h.1.size, fun k hk => h.2.2 k (by omega) (fun hf => by have := hF k hf; omega)⟩
theorem Fr.blk {g : Nat} {o : Obj} (h : Fr w w1 F) (hb : w.heap[g]? = some o) (hn : ¬ F g) : w1.heap[g]? = some o := blk_kept hb h.2 hn
/-- From a base on: what was there at the base's time is as it was. -/
theorem below_fr {B : Nat} {w0 : World} (hb : Below B w0 w) (hB : B ≤ w.heap.size) (h : Fr w w1 F) (hF : ∀ k, F k → B ≤ k) : Below B w0 w1 := hb.trans (h.to hB hF)
end
/-- The row's own block, as a set. -/
def own (v : Value) : Nat → Prop := fun k => v.ownBlock = some k
section
variable {α : Type} {d : Kd α} {e base : Nat} {w w1 : World} {F : Nat → Prop} {v : Value} {xs : List α}
theorem R_fr (h : d.R e w base (fun _ => True) v xs) (hE : d.E = []) (k : Fr w w1 F) (hn : ∀ k, own v k → ¬ F k) : d.R e w1 base (fun _ => True) v xs := by
  have h1 : d.R e w base (own v) v xs := by
    obtain ⟨h0, inner, ho, hr⟩ := h
    refine ⟨fun k hk => hk, inner, ho, ?_⟩
    refine hr.imp_ (fun x c hp => ?_)
    have := d.M_bound hp
    refine d.M_mono (fun k hk => ?_) this
    obtain ⟨_, _, _, q, hq, _⟩ := hk
    rw [hE] at hq; cases hq
  exact Kd.R_mono (Kd.R_kept h1 k.2 hn) (fun _ _ => trivial)
theorem Q_fr (h : d.Q e w base (fun _ => True) v xs) (hE : d.E = []) (k : Fr w w1 F) (hn : ∀ k, own v k → ¬ F k) : d.Q e w1 base (fun _ => True) v xs := by
  have h1 : d.Q e w base (own v) v xs := by
    obtain ⟨h0, inner, ho, hr⟩ := h
    refine ⟨fun k hk => hk, inner, ho, ?_⟩
    refine hr.imp_ (fun x c hp => ?_)
    have := d.M_bound hp
    refine d.M_mono (fun k hk => ?_) this
    obtain ⟨_, _, _, q, hq, _⟩ := hk
    rw [hE] at hq; cases hq
  exact Kd.Q_mono (Kd.Q_kept h1 k.2 hn) (fun _ _ => trivial)
theorem R_lt' (h : d.R e w base (fun _ => True) v xs) {k : Nat} (hk : own v k) : k < w.heap.size := by
  obtain ⟨_, inner, ho, _⟩ := h
  exact own_lt ho k hk
theorem R_ge (h : d.R e w base (fun _ => True) v xs) {k : Nat} (hk : own v k) : base ≤ k := by
  obtain ⟨_, inner, ho, _⟩ := h
  exact own_base ho k hk
end
end Go.Proofs.Ytldddinebhopcaa.Fr
