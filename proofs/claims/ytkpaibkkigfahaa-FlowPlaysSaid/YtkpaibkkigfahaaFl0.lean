/- flow.Table: its keys, how it lies in memory; sessions in order. -/
import Derived.Test.YtkpaibkkigfahaaMp3
import Derived.Test.YtkpaibkkigfahaaMp2
import Derived.Test.YtkpaibkkigfahaaPFlowPlaysx1
import Derived.Test.YtkpaibkkigfahaaFlP
namespace Go.Proofs.Ytkpaibkkigfahaa.Fl
open Go.RowKit Go.Proofs.YtkpaibkkigfahaaW.PrintWords Go.Proofs.YtkpaibkkigfahaaW.PrintLast Go.Proofs.YtkpaibkkigfahaaW.PrintMore Go.Proofs.Ytkpaibkkigfahaa.Bs Go.Proofs.Ytkpaibkkigfahaa.Fr Go.Proofs.Ytkpaibkkigfahaa.Mp
open Go.Proofs.Ytkpaibkkigfahaa.PFlowPlays Go.Proofs.Ytkpaibkkigfahaa.FlP
set_option linter.unusedVariables false
set_option linter.unusedSimpArgs false
open Go.Maps (Keyed)

abbrev Key := Int × Int × Int × Int × Int
def encF (f : S46) : List Value := [.int .i64 f.f0, .int .u32 f.f1.f0, .int .i64 f.f1.f1, .int .u32 f.f2.f0, .int .i64 f.f2.f1, .int .i64 f.f3, .int .i64 f.f4, .int .i64 f.f5]
def valF (f : S46) : Value := .agg #[.int .i64 f.f0, .int .u32 f.f1.f0, .int .i64 f.f1.f1, .int .u32 f.f2.f0, .int .i64 f.f2.f1, .int .i64 f.f3, .int .i64 f.f4, .int .i64 f.f5]
def keyF (f : S46) : Key := (f.f0, f.f1.f0, f.f1.f1, f.f2.f0, f.f2.f1)
def encK (x : Key) : Value := .agg #[.int .i64 x.1, .int .u32 x.2.1, .int .i64 x.2.2.1, .int .u32 x.2.2.2.1, .int .i64 x.2.2.2.2]
def okK (x : Key) : Prop := (Lit.int .i64 x.1).wf = true ∧ (Lit.int .u32 x.2.1).wf = true ∧ (Lit.int .i64 x.2.2.1).wf = true ∧ (Lit.int .u32 x.2.2.2.1).wf = true ∧ (Lit.int .i64 x.2.2.2.2).wf = true
theorem laidOut : laidOutB Try.prog = true := by kernel_rfl
theorem keyTy : Try.prog.keyType 99 = true := by kernel_rfl
theorem tsize : ∃ m, Try.prog.types.size = m + 2 := ⟨Try.prog.types.size - 2, by kernel_rfl⟩
theorem keyOf_K (x : Key) (h : okK x) : ∃ l, keyOf Try.prog 99 (encK x) = some l := by
  obtain ⟨m, hm⟩ := tsize
  have c0 : Try.prog.cellsOf 99 = 5 := by kernel_rfl
  have c1 : Try.prog.cellsOf 27 = 1 := by kernel_rfl
  have c2 : Try.prog.cellsOf 3 = 1 := by kernel_rfl
  have c3 : Try.prog.cellsOf 29 = 2 := by kernel_rfl
  have hf : (encK x).formed Try.prog 99 = true := by
    unfold encK Value.formed
    rw [Try.underlying99, c0]
    rfl
  obtain ⟨h0, h1, h2, h3, h4⟩ := h
  have hl : ∃ ls, Try.prog.keyLits (Try.prog.types.size + 1) 99 (encK x).cells.toList = some ls := by
    rw [hm]
    simp [Program.keyLits, encK, Value.cells, Try.underlying99, Try.underlying29, Try.underlying27, Try.underlying3, c0, c1, c2, c3, h0, h1, h2, h3, h4]
    rw [if_pos (by decide), if_pos (by decide)]
    exact ⟨_, rfl⟩
  obtain ⟨ls, hl⟩ := hl
  unfold keyOf
  rw [Try.underlying99]
  simp only [keyTy, hf, Bool.and_self, if_true, hl, Option.map_some]
  exact ⟨_, rfl⟩
def KF : KeyK Try.prog 99 Key where
  enc := encK
  ok := okK
  key := keyOf_K
  inj := fun x y h => by
    unfold encK at h
    simp at h
    obtain ⟨h0, h1, h2, h3, h4⟩ := h
    exact Prod.ext h0 (Prod.ext h1 (Prod.ext h2 (Prod.ext h3 h4)))
  law := Keyed.of_law (deep_law_laid laidOut (m := 3) (by omega) (of_decide_eq_true (by kernel_rfl)) (by kernel_rfl) (by kernel_rfl))
def ents (l : List S46) : List (Key × Value) := l.map (fun f => (keyF f, valF f))
/-- How two keys stand: less than 0: the first comes first. -/
def cmpI (a b : Int) : Int := if a < b then -1 else if b < a then 1 else 0
def orI (a b : Int) : Int := if a = 0 then b else a
def agK (x y : Key) : Int := orI (cmpI x.1 y.1) (orI (cmpI x.2.1 y.2.1) (orI (cmpI x.2.2.1 y.2.2.1) (orI (cmpI x.2.2.2.1 y.2.2.2.1) (cmpI x.2.2.2.2 y.2.2.2.2))))
def Srt (M : List S46) : Prop := M.Pairwise (fun x y => agK (keyF x) (keyF y) < 0)
/-- The table of block g, its map of block b, its sessions in order. -/
structure FT (w : World) (base g b : Nat) (M : List S46) : Prop where
  blk : w.heap[g]? = some (.cells #[.map (some b)] 92 (0, 0))
  map : ∃ l, l.Perm M ∧ MapIs KF w b (ents l)
  srt : Srt M
  ge : base ≤ g
  geb : base ≤ b
section
variable {w w' : World} {base g b : Nat} {M : List S46}
theorem FT.lt (h : FT w base g b M) : g < w.heap.size := blk_lt h.blk
theorem FT.ltb (h : FT w base g b M) : b < w.heap.size := by obtain ⟨l, _, hm⟩ := h.map; exact hm.lt
theorem FT.ne (h : FT w base g b M) : g ≠ b := fun he => by
  obtain ⟨l, _, hm⟩ := h.map
  obtain ⟨es, c, hb⟩ := hm.obj
  have := h.blk
  rw [he, hb] at this
  cases this
theorem FT.keep (h : FT w base g b M) {F : Nat → Prop} (k : Fr w w' F) (h1 : ¬ F g) (h2 : ¬ F b) : FT w' base g b M where
  blk := k.blk h.blk h1
  map := by obtain ⟨l, hp, hm⟩ := h.map; exact ⟨l, hp, hm.move (k.2.2 b hm.lt h2)⟩
  srt := h.srt
  ge := h.ge
  geb := h.geb
theorem FT.below (h : FT w base g b M) (hb : Below w.heap.size w w') : FT w' base g b M := h.keep (Fr.of_below hb (fun _ => False)) id id
end
set_option maxHeartbeats 1000000 in
set_option maxRecDepth 100000 in
theorem New_calls (w : World) : Calls Try.prog 21 #[] w fun e w' => ∃ g b, e = .returned (.pointer (some ⟨g, 0, none⟩)) ∧ FT w' w.heap.size g b [] ∧ Below w.heap.size w w' := by
  have hmm := @run_makeMap Try.prog
  go_enter Try.func21, Try.ntmps21
  go_wp2
  go_ret
  refine ⟨_, w.heap.size, rfl, ⟨(by have h := blk_new (w.alloc (.map #[] 0)) (.cells #[.map (some w.heap.size)] 92); rw [World.size_alloc] at h; exact h), ⟨[], List.Perm.refl _, (MapIs.made KF w).alloc _⟩, List.Pairwise.nil, by simp, Nat.le_refl _⟩, ?_⟩
  exact ((Below.refl _ _).alloc (Nat.le_refl _) _).alloc (by simp) _
theorem run_neq_map (b : Nat) (w : World) : (binOp BinOp.neq 90 (.map (some b)) (.map none)).run Try.prog w = .ok (.bool true) w := by kernel_rfl
set_option maxHeartbeats 1000000 in
set_option maxRecDepth 100000 in
theorem made_calls (w : World) (base g b : Nat) (M : List S46) (h : FT w base g b M) : Calls Try.prog 82 #[.pointer (some ⟨g, 0, none⟩)] w fun e w' => e = .returned (.bool true) ∧ w = w' := by
  have k0 : w.cell? ⟨g, 0, none⟩ = some (.map (some b)) := blk_cell h.blk 0
  clear h
  go_enter Try.func82, Try.ntmps82
  have hnm := run_neq_map b
  go_wp2
  go_ret
  exact ⟨rfl, rfl⟩
end Go.Proofs.Ytkpaibkkigfahaa.Fl
