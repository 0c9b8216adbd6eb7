/- trace.Spans: the key of its map; kinds from the print. -/
import Derived.Test.YtinjbfgjfmfibaaMp
import Derived.Test.YtinjbfgjfmfibaaPTraceSpansx0
namespace Go.Proofs.Ytinjbfgjfmfibaa.Tr
open Go.RowKit Go.Proofs.YtinjbfgjfmfibaaW.PrintWords Go.Proofs.YtinjbfgjfmfibaaW.PrintLast Go.Proofs.YtinjbfgjfmfibaaW.PrintMore Go.Proofs.Ytinjbfgjfmfibaa.Bs Go.Proofs.Ytinjbfgjfmfibaa.Mp
set_option linter.unusedVariables false
set_option linter.unusedSimpArgs false
open Go.Maps (Keyed)

/-- A block of an address, as a key. -/
def encK (x : Int × Int) : Value := .agg #[.int .u32 x.1, .int .i64 x.2]
def okK (x : Int × Int) : Prop := (Lit.int .u32 x.1).wf = true ∧ (Lit.int .i64 x.2).wf = true
theorem laidOut : laidOutB Try.prog = true := by kernel_rfl
theorem keyTy : Try.prog.keyType 64 = true := by kernel_rfl
theorem tsize : ∃ m, Try.prog.types.size = m + 1 := ⟨Try.prog.types.size - 1, by kernel_rfl⟩
theorem keyOf_K (x : Int × Int) (h : okK x) : ∃ l, keyOf Try.prog 64 (encK x) = some l := by
  obtain ⟨m, hm⟩ := tsize
  have c0 : Try.prog.cellsOf 64 = 2 := by kernel_rfl
  have c1 : Try.prog.cellsOf 30 = 1 := by kernel_rfl
  have c2 : Try.prog.cellsOf 3 = 1 := by kernel_rfl
  have hf : (encK x).formed Try.prog 64 = true := by
    unfold encK Value.formed
    rw [Try.underlying64, c0]
    rfl
  have hl : ∃ ls, Try.prog.keyLits (Try.prog.types.size + 1) 64 (encK x).cells.toList = some ls := by
    rw [hm]
    simp [Program.keyLits, encK, Value.cells, Try.underlying64, Try.underlying30, Try.underlying3, c0, c1, c2, h.1, h.2]
  obtain ⟨ls, hl⟩ := hl
  unfold keyOf
  rw [Try.underlying64]
  simp only [keyTy, hf, Bool.and_self, if_true, hl, Option.map_some]
  exact ⟨_, rfl⟩
def KK : KeyK Try.prog 64 (Int × Int) where
  enc := encK
  ok := okK
  key := keyOf_K
  inj := fun x y h => by
    unfold encK at h
    simp at h
    exact Prod.ext h.1 h.2
  law := Keyed.of_law (deep_law_laid laidOut (m := 2) (by omega) (of_decide_eq_true (by kernel_rfl)) (by kernel_rfl) (by kernel_rfl))
end Go.Proofs.Ytinjbfgjfmfibaa.Tr
