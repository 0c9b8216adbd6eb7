/- sector.write: built out of a place and a sector. -/
import Derived.Test.YtdnjjhdhldgcmaaSec1
namespace Go.Proofs.Ytdnjjhdhldgcmaa.Sec
open Go.RowKit Go.Proofs.YtdnjjhdhldgcmaaW.PrintWords Go.Proofs.YtdnjjhdhldgcmaaW.PrintLast Go.Proofs.YtdnjjhdhldgcmaaW.PrintMore Go.Proofs.Ytdnjjhdhldgcmaa.Bs Go.Proofs.Ytdnjjhdhldgcmaa.Fr
set_option linter.unusedVariables false
set_option linter.unusedSimpArgs false

theorem info91 : (Try.prog.info? 91).map (·.size) = some Try.zeroCells91.size := by kernel_rfl
theorem one_w (i : Int) (xs : List Int) : ∀ v ∈ Value.int .i64 i :: encs (Value.int .u8) xs, v.oneCell' = true := by
  intro v hv
  rcases List.mem_cons.1 hv with rfl | hv
  · rfl
  · exact one_u8 xs v hv
theorem fold_set (o : Nat) : ∀ (l : List Value) (k : Nat) (A : Array Value), o + k + l.length ≤ A.size → ((l.zipIdx k).foldl (fun cs x => cs.setIfInBounds (o + x.2) x.1) A).toList = A.toList.take (o + k) ++ l ++ A.toList.drop (o + k + l.length)
  | [], k, A, h => by simp
  | v :: r, k, A, h => by
    simp only [List.length_cons] at h
    simp only [List.zipIdx_cons, List.foldl_cons]
    rw [fold_set o r (k + 1) _ (by simp; omega), Array.toList_setIfInBounds]
    have ho : o + k < A.toList.length := by rw [Array.length_toList]; omega
    rw [show o + (k + 1) = o + k + 1 by omega, List.drop_set_of_lt (by omega), List.take_set, List.take_add_one, List.getElem?_eq_getElem ho]
    simp only [List.length_cons, Option.toList_some]
    rw [List.set_append_right _ _ (by rw [List.length_take]; omega)]
    have : o + k - (A.toList.take (o + k)).length = 0 := by rw [List.length_take]; omega
    rw [this, show o + k + 1 + r.length = o + k + (r.length + 1) by omega]
    simp
theorem run_build91 (w : World) (i : Int) (b : List Int) (hb : b.length = 64) :
    (Instr.build 91 #[(0, Value.int .i64 i), (1, Value.agg (encs (Value.int .u8) b).toArray)]).run Try.prog w = .ok (.agg (Value.int .i64 i :: encs (Value.int .u8) b).toArray) w := by
  have hl : (encs (Value.int .u8) b).length = 64 := by rw [encs_length]; exact hb
  have hz : Try.zeroCells91.size = 65 := by decide
  have h1 : (List.foldl (fun cs (x : Value × Nat) => cs.setIfInBounds (1 + x.2) x.1) (Try.zeroCells91.setIfInBounds 0 (Value.int IntKind.i64 i)) (encs (Value.int .u8) b).zipIdx) = (Value.int .i64 i :: encs (Value.int .u8) b).toArray := by
    apply Array.ext'
    rw [fold_set 1 _ 0 _ (by rw [hl]; simp [hz]), hl]
    have h2 : (Try.zeroCells91.setIfInBounds 0 (Value.int IntKind.i64 i)).toList.length = 65 := by simp [hz]
    rw [List.drop_of_length_le (by omega)]
    have h3 : (Try.zeroCells91.setIfInBounds 0 (Value.int IntKind.i64 i)).toList.take (1 + 0) = [Value.int .i64 i] := by rfl
    rw [h3]
    simp
  have hn1 : ¬ (¬ (encs (Value.int .u8) b).length = 64 ∨ 65 < 1 + (encs (Value.int .u8) b).length) := by omega
  go_simp
theorem build_w (a : Act) (o : Oper) (w : World) (x y : Operand) (i : Int) (b : List Int) (hb : b.length = 64) (ho : o.op = Op.build 91 #[(0, x), (1, y)]) (hx : a.eval x = .int .i64 i) (hy : a.eval y = .agg (encs (Value.int .u8) b).toArray) :
    (execOp a.eval o).run Try.prog w = .ok (.value (.agg (Value.int .i64 i :: encs (Value.int .u8) b).toArray)) w := by
  have h := run_build91 w i b hb
  unfold execOp
  simp [ho, hx, hy, h, Result.andThen]
theorem run_bs86 (w : World) (cs : List Value) (hl : cs.length = 65) :
    (Instr.buildSlice 86 1 #[(0, Value.agg cs.toArray)]).run Try.prog w = .ok (.slice (some ⟨w.heap.size, 0, none⟩) 1 1) (w.alloc (.cells cs.toArray 91)) := by
  have hz : Try.zeroCells91.size = 65 := by decide
  have h1 : ∀ A : Array Value, A.size = 65 → (List.foldl (fun cs (x : Value × Nat) => cs.setIfInBounds x.2 x.1) A cs.zipIdx) = cs.toArray := by
    intro A hA
    apply Array.ext'
    have h2 := fold_set 0 cs 0 A (by omega)
    simp only [Nat.zero_add, Nat.add_zero, List.take_zero, List.nil_append] at h2
    rw [h2, List.drop_of_length_le (by rw [Array.length_toList]; omega)]
    simp
  go_simp
theorem bs_w (a : Act) (o : Oper) (w : World) (x : Operand) (cs : List Value) (hl : cs.length = 65) (ho : o.op = Op.buildSlice 86 1 #[(0, x)]) (hx : a.eval x = .agg cs.toArray) :
    (execOp a.eval o).run Try.prog w = .ok (.value (.slice (some ⟨w.heap.size, 0, none⟩) 1 1)) (w.alloc (.cells cs.toArray 91)) := by
  have h := run_bs86 w cs hl
  unfold execOp
  simp [ho, hx, h, Result.andThen]
def zW : Value := .agg (Value.int .i64 0 :: encs (Value.int .u8) (List.replicate 64 0)).toArray
theorem info91z : (Try.prog.info? 91).map (fun i => (i.zero, i.size, i.bytes)) = some (some zW, 65, 72) := by kernel_rfl
theorem mW {w : World} {base : Nat} {ok : Nat → Prop} (i : Int) (b : List Int) (hb : b.length = 64) : kW.M w base ok (i, b) (Value.int .i64 i :: encs (Value.int .u8) b) :=
  ⟨[Value.int .i64 i], encs (Value.int .u8) b, rfl, rfl, Kd.arr_of_cells hb⟩
end Go.Proofs.Ytdnjjhdhldgcmaa.Sec
