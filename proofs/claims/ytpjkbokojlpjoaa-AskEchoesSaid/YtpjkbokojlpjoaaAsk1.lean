/- ask.Read: too short; a version that is not known. -/
import Derived.Test.YtpjkbokojlpjoaaAsk0
namespace Go.Proofs.Ytpjkbokojlpjoaa.Ak
open Go.RowKit Go.Proofs.YtpjkbokojlpjoaaW.PrintWords Go.Proofs.YtpjkbokojlpjoaaW.PrintLast Go.Proofs.YtpjkbokojlpjoaaW.PrintMore Go.Proofs.Ytpjkbokojlpjoaa.Bs Go.Proofs.Ytpjkbokojlpjoaa.Fr Go.Proofs.Ytpjkbokojlpjoaa.Oct
set_option linter.unusedVariables false
set_option linter.unusedSimpArgs false

/-- The cells of a request. -/
structure AM where
  op : Int
  life : Int
  cl : List Int
  no : List Int
  pr : Int
  po : Int
  wp : Int
  wa : List Int
  fp : Int
  fa : List Int
  os : Value
def AM.cells (m : AM) : List Value := .int .i64 m.op :: .int .u32 m.life :: (encs (Value.int .u8) m.cl ++ (encs (Value.int .u8) m.no ++ (.int .i64 m.pr :: .int .i64 m.po :: .int .i64 m.wp :: (encs (Value.int .u8) m.wa ++ (.int .i64 m.fp :: (encs (Value.int .u8) m.fa ++ [m.os])))))) 
def AM.val (m : AM) : Value := .agg m.cells.toArray
structure AM.ok (m : AM) : Prop where
  cl : m.cl.length = 16
  no : m.no.length = 12
  wa : m.wa.length = 16
  fa : m.fa.length = 16
  os : m.os.oneCell' = true
def az : AM := ⟨0, 0, List.replicate 16 0, List.replicate 12 0, 0, 0, 0, List.replicate 16 0, 0, List.replicate 16 0, .slice none 0 0⟩
theorem az_ok : az.ok := ⟨rfl, rfl, rfl, rfl, rfl⟩
theorem AM.len {m : AM} (h : m.ok) : m.cells.length = 67 := by
  unfold AM.cells
  simp only [List.length_cons, List.length_append, encs_length, h.cl, h.no, h.wa, h.fa, List.length_nil]
theorem AM.one {m : AM} (h : m.ok) : ∀ v ∈ m.cells, v.oneCell' = true := by
  intro v hv
  unfold AM.cells at hv
  simp only [List.mem_cons, List.mem_append, List.not_mem_nil, or_false] at hv
  have he : ∀ l : List Int, v ∈ encs (Value.int .u8) l → v.oneCell' = true := by
    intro l hl
    unfold encs at hl
    obtain ⟨x, _, rfl⟩ := List.mem_map.1 hl
    rfl
  rcases hv with rfl | rfl | h1 | h1 | rfl | rfl | rfl | h1 | rfl | h1 | rfl
  · rfl
  · rfl
  · exact he _ h1
  · exact he _ h1
  · rfl
  · rfl
  · rfl
  · exact he _ h1
  · rfl
  · exact he _ h1
  · exact h.os
def zc29 : Array Value := az.cells.toArray
def zc52 : Array Value := (Value.slice none 0 0 :: az.cells).toArray
theorem z29 (w : World) : (zeroValue 29).run Try.prog w = .ok (.agg zc29) w := by kernel_rfl
theorem z52 (w : World) : (zeroValue 52).run Try.prog w = .ok (.agg zc52) w := by kernel_rfl
theorem b29 (w : World) : (Instr.build 29 #[]).run Try.prog w = .ok (.agg zc29) w := by kernel_rfl
theorem b52 (A : Option Addr) (n c : Nat) (w : World) : (Instr.build 52 #[(0, .slice A n c)]).run Try.prog w = .ok (.agg (Value.slice A n c :: az.cells).toArray) w := by kernel_rfl
theorem ta48 (t : TypeId) (c : Int) (w : World) : (Instr.typeAssert (.iface 48 (.int .i64 c)) t 48 true).run Try.prog w = .ok (.tuple #[.int .i64 c, .bool true]) w := by kernel_rfl
theorem info29 : (Try.prog.info? 29).map (·.size) = some 67 := by kernel_rfl
theorem info52 : (Try.prog.info? 52).map (·.size) = some 68 := by kernel_rfl
theorem zc29_size : zc29.size = 67 := by unfold zc29; rw [List.size_toArray, AM.len az_ok]
set_option maxRecDepth 100000 in
theorem results_ask {fn : Func} (h : fn.results = #[.cell 4 29, .cell 5 3, .cell 6 4]) (tmps : Array Value) (w : World) (g r k : Nat) (cs : List Value) (t : TypeId) (fr : Nat × Nat) (x y : Value)
    (h4 : tmps.getD 4 undef = .pointer (some ⟨g, 0, none⟩)) (h5 : tmps.getD 5 undef = .pointer (some ⟨r, 0, none⟩)) (h6 : tmps.getD 6 undef = .pointer (some ⟨k, 0, none⟩))
    (hg : w.heap[g]? = some (.cells cs.toArray t fr)) (hn : cs.length = 67) (hx : w.cell? ⟨r, 0, none⟩ = some x) (hy : w.cell? ⟨k, 0, none⟩ = some y) :
    (results fn tmps).run Try.prog w = .ok (.tuple #[.agg cs.toArray, x, y]) w := by
  have h4' : tmps[4]?.getD undef = .pointer (some ⟨g, 0, none⟩) := by simpa using h4
  have h5' : tmps[5]?.getD undef = .pointer (some ⟨r, 0, none⟩) := by simpa using h5
  have h6' : tmps[6]?.getD undef = .pointer (some ⟨k, 0, none⟩) := by simpa using h6
  have h1 := Go.run_loadVar_row (P := Try.prog) w g t 29 cs.toArray fr _ hg Try.underlying29 rfl (by rw [info29]; simp [hn])
  have h2 : (loadVar 3 ⟨r, 0, none⟩).run Try.prog w = .ok x w := by simp [go_sem, hx]
  have h3 : (loadVar 4 ⟨k, 0, none⟩).run Try.prog w = .ok y w := by simp [go_sem, hy]
  simp [results, h, h4', h5', h6', asAddr, h1, h2, h3, Result.andThen]
structure Res (w : World) (s : Nat) (x : AM) (cd : Int) (b : Bool) : Prop where
  ask : w.heap[s + 1]? = some (.cells x.cells.toArray 29 (0, 0))
  code : w.heap[s + 1 + 1]? = some (.cells #[.int .i64 cd] 3 (0, 0))
  is : w.heap[s + 1 + 1 + 1]? = some (.cells #[.bool b] 4 (0, 0))
theorem Res.k5 {w : World} {s : Nat} {x : AM} {cd : Int} {b : Bool} (h : Res w s x cd b) : w.cell? ⟨s + 1 + 1, 0, none⟩ = some (.int .i64 cd) := blk_cell h.code 0
theorem Res.k6 {w : World} {s : Nat} {x : AM} {cd : Int} {b : Bool} (h : Res w s x cd b) : w.cell? ⟨s + 1 + 1 + 1, 0, none⟩ = some (.bool b) := blk_cell h.is 0
theorem Res.fr {w w' : World} {s : Nat} {x : AM} {cd : Int} {b : Bool} (h : Res w s x cd b) {F : Nat → Prop} (k : Fr w w' F) (hF : ∀ k, F k → k < s + 1 ∨ s + 3 < k) : Res w' s x cd b :=
  ⟨k.blk h.ask (fun hf => by have := hF _ hf; omega), k.blk h.code (fun hf => by have := hF _ hf; omega), k.blk h.is (fun hf => by have := hF _ hf; omega)⟩
theorem Res.f5 {w : World} {s : Nat} {x : AM} {cd : Int} {b : Bool} (h : Res w s x cd b) : w.frozen? ⟨s + 1 + 1, 0, none⟩ = false := blk_frozen h.code _
theorem Res.f6 {w : World} {s : Nat} {x : AM} {cd : Int} {b : Bool} (h : Res w s x cd b) : w.frozen? ⟨s + 1 + 1 + 1, 0, none⟩ = false := blk_frozen h.is _
theorem Res.after {w w' : World} {s : Nat} {x y : AM} {cd : Int} {b : Bool} (h : Res w s x cd b) (hy : w'.heap[s + 1]? = some (.cells y.cells.toArray 29 (0, 0))) (k : Fr w w' (fun k => k = s + 1)) : Res w' s y cd b :=
  ⟨hy, k.blk h.code (fun hf => by omega), k.blk h.is (fun hf => by omega)⟩
/-- The code and whether it is one are laid. -/
theorem Res.set {w : World} {s : Nat} {x : AM} {cd : Int} {b : Bool} (h : Res w s x cd b) (cd' : Int) (b' : Bool) : Res ((w.setCell ⟨s + 1 + 1, 0, none⟩ (.int .i64 cd')).setCell ⟨s + 1 + 1 + 1, 0, none⟩ (.bool b')) s x cd' b' := by
  exact ⟨blk_far (blk_far h.ask (by simp) _) (by simp) _, blk_far (blk_set h.code 0 _) (by simp) _, blk_set (blk_far h.is (by simp) _) 0 _⟩
def W0 (w : World) (fm : Int) : World := (((w.alloc (Obj.cells #[Value.int IntKind.u32 fm] 23)).alloc (Obj.cells zc29 29)).alloc (Obj.cells #[Value.int IntKind.i64 0] 3)).alloc (Obj.cells #[Value.bool false] 4)
theorem W0_res (w : World) (fm : Int) : Res (W0 w fm) w.heap.size az 0 false := by
  unfold W0
  refine ⟨?_, ?_, ?_⟩
  · refine blk_alloc (blk_alloc ?_ _) _
    have h := blk_new (w.alloc (Obj.cells #[Value.int IntKind.u32 fm] 23)) (Obj.cells zc29 29)
    rw [World.size_alloc] at h
    exact h
  · refine blk_alloc ?_ _
    have h := blk_new ((w.alloc (Obj.cells #[Value.int IntKind.u32 fm] 23)).alloc (Obj.cells zc29 29)) (Obj.cells #[Value.int IntKind.i64 0] 3)
    rw [World.size_alloc, World.size_alloc] at h
    exact h
  · have h := blk_new (((w.alloc (Obj.cells #[Value.int IntKind.u32 fm] 23)).alloc (Obj.cells zc29 29)).alloc (Obj.cells #[Value.int IntKind.i64 0] 3)) (Obj.cells #[Value.bool false] 4)
    rw [World.size_alloc, World.size_alloc, World.size_alloc] at h
    exact h
theorem W0_from (w : World) (fm : Int) : (W0 w fm).heap[w.heap.size]? = some (.cells #[.int .u32 fm] 23 (0, 0)) := by
  unfold W0
  exact blk_alloc (blk_alloc (blk_alloc (blk_new w _) _) _) _
theorem W0_size (w : World) (fm : Int) : (W0 w fm).heap.size = w.heap.size + 4 := by
  unfold W0
  rw [World.size_alloc, World.size_alloc, World.size_alloc, World.size_alloc]
theorem W0_below (w : World) (fm : Int) : Below w.heap.size w (W0 w fm) := by
  unfold W0
  refine Below.alloc (Below.alloc (Below.alloc (below_alloc (Below.refl _ _) _) ?_ _) ?_ _) ?_ _
  · rw [World.size_alloc]; omega
  · rw [World.size_alloc, World.size_alloc]; omega
  · rw [World.size_alloc, World.size_alloc, World.size_alloc]; omega
set_option maxHeartbeats 1000000 in
set_option maxRecDepth 100000 in
theorem Read_short (A : Option Addr) (m c : Nat) (hm : m < 2) (fm : Int) (w : World) :
    Calls Try.prog 9 #[.slice A m c, .int .u32 fm] w fun e w' => e = .returned (.tuple #[az.val, .int .i64 0, .bool false]) ∧ Below w.heap.size w w' := by
  have hlt : (m : Int) < 2 := by omega
  have hlb := decide_eq_true hlt
  have h29 := z29
  have hb29 := b29
  go_enter_defers Try.func9, Try.ntmps9
  go_upto_region 2 with fail
  show Code.wp _ _ _ _ (W0 w fm)
  have X0 := Aside0.mk (W0_res w fm)
  have B0 := Aside0.mk (W0_below w fm)
  generalize W0 w fm = w1 at *
  go_wp2_with (refine wp_fill rfl 29 (.tmp 4) (.tmp 21) rfl (w.heap.size + 1) _ 29 az.cells X0.out.ask rfl rfl (AM.len az_ok).symm.symm (by rw [info29]; rfl) (AM.one az_ok) ?_; intro w3 hx3 hf3; have R3 := Aside0.mk (Res.after X0.out hx3 hf3); have F3 := Aside0.mk hf3; have k5 := R3.out.k5; have f5 := R3.out.f5; have k6 := R3.out.k6; have f6 := R3.out.f6; clear hx3 hf3)
  refine ⟨_, results_ask rfl _ _ (w.heap.size + 1) (w.heap.size + 1 + 1) (w.heap.size + 1 + 1 + 1) az.cells _ _ _ _ rfl rfl rfl (R3.out.set 0 false).ask (AM.len az_ok) (R3.out.set 0 false).k5 (R3.out.set 0 false).k6, rfl, ?_⟩
  have h0 := below_fr B0.out B0.out.size F3.out (fun k hk => by omega)
  exact (h0.setCell (by show w.heap.size ≤ w.heap.size + 1 + 1; omega) _).setCell (by show w.heap.size ≤ w.heap.size + 1 + 1 + 1; omega) _
theorem af_one (s k : Nat) (h : k = s + 1) : s ≤ k := by omega
set_option maxHeartbeats 1000000 in
set_option maxRecDepth 100000 in
/-- A result that was thrown is caught, and laid. -/
theorem catch_calls (s : Nat) (x : AM) (cd0 : Int) (b0 : Bool) (c : Int) (w : World) (h : Res w s x cd0 b0) (hx : x.ok) :
    CallsD Try.prog 20 #[.pointer (some ⟨s + 1, 0, none⟩), .pointer (some ⟨s + 1 + 1, 0, none⟩), .pointer (some ⟨s + 1 + 1 + 1, 0, none⟩)] (.panicking [{ v := .iface 48 (.int .i64 c), recovered := false }]) w fun e u' w' =>
      e = .returned (.tuple #[]) ∧ u' = .panicking [{ v := .iface 48 (.int .i64 c), recovered := true }] ∧ Res w' s az c true ∧ Below s w w' := by
  have hb29 := z29
  have hta := ta48
  refine callsD_of_wpS Try.func20 rfl fun c₀ cs hu => ?_
  apply wpS_seq
  apply wpS_region
  simp [wpOpsS, go_sem, recoverD, hu, Try.ntmps20, Exit.thenS]
  have htm : (#[Value.pointer (some ⟨s + 1, 0, none⟩), Value.pointer (some ⟨s + 1 + 1, 0, none⟩), Value.pointer (some ⟨s + 1 + 1 + 1, 0, none⟩)] ++ ((Array.replicate 16 undef).setIfInBounds 3 (Value.iface 48 (Value.int .i64 c))).setIfInBounds 0 (Value.iface 48 (Value.int .i64 c))) = #[Value.pointer (some ⟨s + 1, 0, none⟩), Value.pointer (some ⟨s + 1 + 1, 0, none⟩), Value.pointer (some ⟨s + 1 + 1 + 1, 0, none⟩), Value.iface 48 (Value.int .i64 c), undef, undef, Value.iface 48 (Value.int .i64 c), undef, undef, undef, undef, undef, undef, undef, undef, undef, undef, undef, undef] := rfl
  rw [htm]
  clear htm
  refine wpS_of_wp ?_
  go_wp2_with (refine wp_fill rfl 29 (.tmp 0) (.tmp 17) rfl (s + 1) _ 29 az.cells h.ask rfl rfl (by rw [List.size_toArray, AM.len az_ok, AM.len hx]) (by rw [info29, List.size_toArray, AM.len hx]) (AM.one az_ok) ?_; intro w3 hx3 hf3; have R3 := Aside0.mk (Res.after h hx3 hf3); have F3 := Aside0.mk hf3; have k5 := R3.out.k5; have f5 := R3.out.f5; have k6 := R3.out.k6; have f6 := R3.out.f6; clear hx3 hf3)
  refine ⟨rfl, _, rfl, _, by simp [results, Try.results20], rfl, rfl, R3.out.set c true, ?_⟩
  have h0 := (F3.out.to (B := s) (by have := blk_lt h.ask; omega) (fun k hk => by omega))
  exact (h0.setCell (by show s ≤ s + 1 + 1; omega) _).setCell (by show s ≤ s + 1 + 1 + 1; omega) _
set_option maxHeartbeats 1000000 in
set_option maxRecDepth 100000 in
/-- Nothing was thrown: nothing is done. -/
theorem idle_calls (s : Nat) (w : World) : CallsD Try.prog 20 #[.pointer (some ⟨s + 1, 0, none⟩), .pointer (some ⟨s + 1 + 1, 0, none⟩), .pointer (some ⟨s + 1 + 1 + 1, 0, none⟩)] .returning w fun e u' w' => e = .returned (.tuple #[]) ∧ u' = .returning ∧ w' = w := by
  refine callsD_of_wpS Try.func20 rfl fun c₀ cs hu => ?_
  apply wpS_seq
  apply wpS_region
  simp [wpOpsS, go_sem, recoverD, hu, Try.ntmps20, Exit.thenS]
  refine wpS_of_wp ?_
  have htm : (#[Value.pointer (some ⟨s + 1, 0, none⟩), Value.pointer (some ⟨s + 1 + 1, 0, none⟩), Value.pointer (some ⟨s + 1 + 1 + 1, 0, none⟩)] ++ ((Array.replicate 16 undef).setIfInBounds 3 (Value.nilIface)).setIfInBounds 0 (Value.nilIface)) = #[Value.pointer (some ⟨s + 1, 0, none⟩), Value.pointer (some ⟨s + 1 + 1, 0, none⟩), Value.pointer (some ⟨s + 1 + 1 + 1, 0, none⟩), Value.nilIface, undef, undef, Value.nilIface, undef, undef, undef, undef, undef, undef, undef, undef, undef, undef, undef, undef] := rfl
  rw [htm]
  clear htm
  go_wp2
  cases c₀
  simp_all [bodyPostS, results, Try.results20]
end Go.Proofs.Ytpjkbokojlpjoaa.Ak
