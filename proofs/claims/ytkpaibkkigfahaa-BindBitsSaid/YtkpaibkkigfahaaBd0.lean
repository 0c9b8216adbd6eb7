/- bind.Table: its keys, how it lies in memory; New, made, Check, own. -/
import Derived.Test.YtkpaibkkigfahaaMp2
import Derived.Test.YtkpaibkkigfahaaMp4
import Derived.Test.YtkpaibkkigfahaaFr
import Derived.Test.YtkpaibkkigfahaaPBindLetsx1
namespace Go.Proofs.Ytkpaibkkigfahaa.Bd
open Go.RowKit Go.Proofs.YtkpaibkkigfahaaW.PrintWords Go.Proofs.YtkpaibkkigfahaaW.PrintLast Go.Proofs.YtkpaibkkigfahaaW.PrintMore Go.Proofs.Ytkpaibkkigfahaa.Bs Go.Proofs.Ytkpaibkkigfahaa.Fr Go.Proofs.Ytkpaibkkigfahaa.Mp
open Go.Proofs.Ytkpaibkkigfahaa.PBindLets
set_option linter.unusedVariables false
set_option linter.unusedSimpArgs false
open Go.Maps (Keyed)

abbrev Key := Int × Int × Int
def encK (x : Key) : Value := .agg #[.int .i64 x.1, .int .u32 x.2.1, .int .i64 x.2.2]
def okK (x : Key) : Prop := (Lit.int .i64 x.1).wf = true ∧ (Lit.int .u32 x.2.1).wf = true ∧ (Lit.int .i64 x.2.2).wf = true
theorem laidOut : laidOutB Try.prog = true := by kernel_rfl
theorem keyTy : Try.prog.keyType 85 = true := by kernel_rfl
theorem tsize : ∃ m, Try.prog.types.size = m + 2 := ⟨Try.prog.types.size - 2, by kernel_rfl⟩
theorem keyOf_K (x : Key) (h : okK x) : ∃ l, keyOf Try.prog 85 (encK x) = some l := by
  obtain ⟨m, hm⟩ := tsize
  have c0 : Try.prog.cellsOf 85 = 3 := by kernel_rfl
  have c1 : Try.prog.cellsOf 27 = 1 := by kernel_rfl
  have c2 : Try.prog.cellsOf 3 = 1 := by kernel_rfl
  have c3 : Try.prog.cellsOf 29 = 2 := by kernel_rfl
  have hf : (encK x).formed Try.prog 85 = true := by
    unfold encK Value.formed
    rw [Try.underlying85, c0]
    rfl
  obtain ⟨h0, h1, h2⟩ := h
  have hl : ∃ ls, Try.prog.keyLits (Try.prog.types.size + 1) 85 (encK x).cells.toList = some ls := by
    rw [hm]
    simp [Program.keyLits, encK, Value.cells, Try.underlying85, Try.underlying29, Try.underlying27, Try.underlying3, c0, c1, c2, c3, h0, h1, h2]
    rw [if_pos (by decide)]
    exact ⟨_, rfl⟩
  obtain ⟨ls, hl⟩ := hl
  unfold keyOf
  rw [Try.underlying85]
  simp only [keyTy, hf, Bool.and_self, if_true, hl, Option.map_some]
  exact ⟨_, rfl⟩
def KB : KeyK Try.prog 85 Key where
  enc := encK
  ok := okK
  key := keyOf_K
  inj := fun x y h => by
    unfold encK at h
    simp at h
    obtain ⟨h0, h1, h2⟩ := h
    exact Prod.ext h0 (Prod.ext h1 h2)
  law := Keyed.of_law (deep_law_laid laidOut (m := 3) (by omega) (of_decide_eq_true (by kernel_rfl)) (by kernel_rfl) (by kernel_rfl))
/-- A mapping without times, nonce and filters. -/
def vM (p ia ip oa op : Int) : Value := .agg #[.int .i64 p, .int .u32 ia, .int .i64 ip, .int .u32 oa, .int .i64 op, .int .i64 0, .int .i64 0, .int .u8 0, .int .u8 0, .int .u8 0, .int .u8 0, .int .u8 0, .int .u8 0, .int .u8 0, .int .u8 0, .int .u8 0, .int .u8 0, .int .u8 0, .int .u8 0, .slice none 0 0]
/-- The table of block g, its maps of the blocks bi, bo. -/
structure BT (w : World) (base g bi bo : Nat) (Li Lo : List (Key × Value)) : Prop where
  blk : w.heap[g]? = some (.cells #[.map (some bi), .map (some bo)] 83 (0, 0))
  min : MapIs KB w bi Li
  mout : MapIs KB w bo Lo
  ge : base ≤ g
  gei : base ≤ bi
  geo : base ≤ bo
  nio : bi ≠ bo
section
variable {w w' : World} {base g bi bo : Nat} {Li Lo : List (Key × Value)}
theorem BT.lt (h : BT w base g bi bo Li Lo) : g < w.heap.size := blk_lt h.blk
theorem BT.ni (h : BT w base g bi bo Li Lo) : g ≠ bi := fun he => by
  obtain ⟨es, c, hb⟩ := h.min.obj
  have := h.blk
  rw [he, hb] at this
  cases this
theorem BT.no (h : BT w base g bi bo Li Lo) : g ≠ bo := fun he => by
  obtain ⟨es, c, hb⟩ := h.mout.obj
  have := h.blk
  rw [he, hb] at this
  cases this
theorem BT.below (h : BT w base g bi bo Li Lo) (hb : Below w.heap.size w w') : BT w' base g bi bo Li Lo where
  blk := blk_below h.blk hb
  min := h.min.below hb
  mout := h.mout.below hb
  ge := h.ge
  gei := h.gei
  geo := h.geo
  nio := h.nio
end
set_option maxHeartbeats 1000000 in
set_option maxRecDepth 100000 in
theorem New_calls (w : World) : Calls Try.prog 14 #[] w fun e w' => ∃ g bi bo, e = .returned (.pointer (some ⟨g, 0, none⟩)) ∧ BT w' w.heap.size g bi bo [] [] ∧ Below w.heap.size w w' := by
  have hmm := @run_makeMap Try.prog
  go_enter Try.func14, Try.ntmps14
  go_wp2
  go_ret
  refine ⟨_, w.heap.size, w.heap.size + 1, rfl, ⟨(by have h := blk_new ((w.alloc (.map #[] 0)).alloc (.map #[] 0)) (.cells #[.map (some w.heap.size), .map (some (w.heap.size + 1))] 83); rw [World.size_alloc, World.size_alloc] at h; exact h), ((MapIs.made KB w).alloc _).alloc _, (by have h := (MapIs.made KB (w.alloc (.map #[] 0))).alloc (.cells #[.map (some w.heap.size), .map (some (w.heap.size + 1))] 83); rw [World.size_alloc] at h; exact h), by omega, Nat.le_refl _, by omega, by omega⟩, ?_⟩
  exact (((Below.refl _ _).alloc (Nat.le_refl _) _).alloc (by simp) _).alloc (by rw [World.size_alloc, World.size_alloc]; omega) _
theorem run_neq_map (b : Nat) (w : World) : (binOp BinOp.neq 80 (.map (some b)) (.map none)).run Try.prog w = .ok (.bool true) w := by kernel_rfl
set_option maxHeartbeats 1000000 in
set_option maxRecDepth 100000 in
theorem made_calls (w : World) (base g bi bo : Nat) (Li Lo : List (Key × Value)) (h : BT w base g bi bo Li Lo) : Calls Try.prog 49 #[.pointer (some ⟨g, 0, none⟩)] w fun e w' => e = .returned (.bool true) ∧ w = w' := by
  have k0 : w.cell? ⟨g, 0, none⟩ = some (.map (some bi)) := blk_cell h.blk 0
  clear h
  go_enter Try.func49, Try.ntmps49
  have hnm := run_neq_map bi
  go_wp2
  go_ret
  exact ⟨rfl, rfl⟩
theorem run_eql_nil (w : World) : (binOp BinOp.eql 31 (.slice none 0 0) (.slice none 0 0)).run Try.prog w = .ok (.bool true) w := by kernel_rfl
set_option maxHeartbeats 1000000 in
set_option maxRecDepth 100000 in
theorem Clone_nil (w : World) : Calls Try.prog 80 #[.slice none 0 0] w fun e w' => e = .returned (.slice none 0 0) ∧ w = w' := by
  go_enter Try.func80, Try.ntmps80
  have hnm := run_eql_nil
  go_wp2
  go_ret
  exact ⟨rfl, rfl⟩
def OM (p ia ip oa op : Int) : Obj := .cells #[.int .i64 p, .int .u32 ia, .int .i64 ip, .int .u32 oa, .int .i64 op, .int .i64 0, .int .i64 0, .int .u8 0, .int .u8 0, .int .u8 0, .int .u8 0, .int .u8 0, .int .u8 0, .int .u8 0, .int .u8 0, .int .u8 0, .int .u8 0, .int .u8 0, .int .u8 0, .slice none 0 0] 33
set_option maxHeartbeats 1000000 in
set_option maxRecDepth 100000 in
theorem port_ok (w : World) (p : Int) (h : 0 ≤ p ∧ p ≤ 65535) : Calls Try.prog 72 #[.int .i64 p] w fun e w' => e = .returned (.bool true) ∧ w = w' := by
  have h1 : decide (p ≥ 0) = true := decide_eq_true h.1
  have h2 : decide (p ≤ 65535) = true := decide_eq_true h.2
  clear h
  go_enter Try.func72, Try.ntmps72
  go_wp2
  go_ret
  exact ⟨rfl, rfl⟩
set_option maxHeartbeats 1000000 in
set_option maxRecDepth 100000 in
theorem time_ok (w : World) : Calls Try.prog 73 #[.int .i64 0] w fun e w' => e = .returned (.bool true) ∧ w = w' := by
  go_enter Try.func73, Try.ntmps73
  go_wp2
  go_ret
  exact ⟨rfl, rfl⟩
set_option maxHeartbeats 4000000 in
set_option maxRecDepth 100000 in
theorem Check_calls (w : World) (p ia ip oa op : Int) (hp : p = 6 ∨ p = 17) (h1 : 0 ≤ ip ∧ ip ≤ 65535) (h2 : 0 ≤ op ∧ op ≤ 65535) : Calls Try.prog 46 #[vM p ia ip oa op] w fun e w' => e = .returned (.int .i64 0) ∧ Below w.heap.size w w' := by
  have H1 := Aside0.mk h1
  have H2 := Aside0.mk h2
  clear h1 h2
  unfold vM
  rcases hp with rfl | rfl <;>
  · go_enter Try.func46, Try.ntmps46
    go_wp2_with fail
    refine (port_ok _ ip H1.out).mono ?_
    rintro e w2 ⟨rfl, rfl⟩
    go_wp2_with fail
    refine (port_ok _ op H2.out).mono ?_
    rintro e w2 ⟨rfl, rfl⟩
    go_wp2_with fail
    refine (time_ok _).mono ?_
    rintro e w2 ⟨rfl, rfl⟩
    go_wp2_with fail
    refine (time_ok _).mono ?_
    rintro e w2 ⟨rfl, rfl⟩
    go_wp2_with fail
    go_loopg [3, 45] 0 (fun r v3 v45 wr => v45 = .int .i64 0 ∧ v3 = .bool true ∧ Aside0 (Below w.heap.size w wr))
    case atStart => exact ⟨rfl, rfl, ⟨below_alloc (Below.refl _ _) _⟩⟩
    case round =>
      obtain ⟨rfl, rfl, hb⟩ := hrel
      go_wp2_with fail
      go_ret
      exact ⟨rfl, hb.out⟩
end Go.Proofs.Ytkpaibkkigfahaa.Bd
