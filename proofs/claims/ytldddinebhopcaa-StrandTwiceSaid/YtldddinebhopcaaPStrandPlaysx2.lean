-- PRINTED BY print.sh 35421559b90ae4d0a3588c463048766b98c2df88dd9212a6774a882060cdf62d: not written by this session
import Derived.Test.YtldddinebhopcaaPStrandPlaysx0
namespace Go.Proofs.Ytldddinebhopcaa.PStrandPlays
open Go.RowKit Go.Proofs.YtldddinebhopcaaW.PrintWords Go.Proofs.YtldddinebhopcaaW.PrintLast Go.Proofs.YtldddinebhopcaaW.PrintMore
attribute [local go_sem] max2_int min2_int max_two min_two max_three min_three max_four min_four   -- for this text's walks alone
set_option linter.unusedVariables false
set_option linter.unusedSimpArgs false

/-- A state of type 101 at block g of W; what its slices lead to came in by w0. -/
def IsS101 (w0 W : World) (g : Nat) (f0 : Int) (f1 : List Int) (f2 : List Int) (f3 : List (S107)) (f4 : List Int) (f5 : Int) : Prop := ∃ A1 c1, ∃ A2 c2, ∃ A3 c3, ∃ A4 c4, W.heap[g]? = some (.cells #[.int .i64 f0, .slice A1 f1.length c1, .slice A2 f2.length c2, .slice A3 f3.length c3, .slice A4 f4.length c4, .int .i64 f5] 101 (0, 0)) ∧ w0.heap.size ≤ g ∧ Kd.C (Kd.int .u8) w0 A1 f1.length f1 ∧ Kd.C (Kd.int .u8) w0 A2 f2.length f2 ∧ Kd.C k107 w0 A3 f3.length f3 ∧ Kd.C (Kd.int .u8) w0 A4 f4.length f4
theorem IsS101.grown {w0 W : World} {g : Nat} {f0 : Int} {f1 : List Int} {f2 : List Int} {f3 : List (S107)} {f4 : List Int} {f5 : Int} {W1 : World} {row : Option Nat} (h : IsS101 w0 W g f0 f1 f2 f3 f4 f5) (hw : W.grownBy W1 row) (hne : some g ≠ row) : IsS101 w0 W1 g f0 f1 f2 f3 f4 f5 := by
  obtain ⟨A1, c1, A2, c2, A3, c3, A4, c4, hb, hg, hr1, hr2, hr3, hr4⟩ := h
  exact ⟨A1, c1, A2, c2, A3, c3, A4, c4, blk_grown hb hw hne, hg, hr1, hr2, hr3, hr4⟩
theorem IsS101.own_neN {w0 W : World} {g : Nat} {f0 : Int} {f1 : List Int} {f2 : List Int} {f3 : List (S107)} {f4 : List Int} {f5 : Int} {α : Type} {d : Kd α} {e : Nat} {base : Nat} {ok : Nat → Prop} {v : Value} {xs : List α} (h : IsS101 w0 W g f0 f1 f2 f3 f4 f5) (ho : Kd.N d e W base ok v xs) (ht : e ≠ 101) : some g ≠ v.ownBlock := by
  obtain ⟨A1, c1, A2, c2, A3, c3, A4, c4, hb, hg, hr1, hr2, hr3, hr4⟩ := h
  exact Kd.N_ne ho hb ht
theorem IsS101.fresh {w0 W : World} {g : Nat} {f0 : Int} {f1 : List Int} {f2 : List Int} {f3 : List (S107)} {f4 : List Int} {f5 : Int} (h : IsS101 w0 W g f0 f1 f2 f3 f4 f5) : ∀ k, W.heap.size ≤ k → k ≠ g := by
  obtain ⟨A1, c1, A2, c2, A3, c3, A4, c4, hb, hg, hr1, hr2, hr3, hr4⟩ := h
  exact Kd.freshB hb
theorem IsS101.kept {w0 W : World} {g : Nat} {f0 : Int} {f1 : List Int} {f2 : List Int} {f3 : List (S107)} {f4 : List Int} {f5 : Int} {W1 : World} {S : Nat → Prop} (h : IsS101 w0 W g f0 f1 f2 f3 f4 f5) (hk : Kept W W1 S) (hne : ¬ S g) : IsS101 w0 W1 g f0 f1 f2 f3 f4 f5 := by
  obtain ⟨A1, c1, A2, c2, A3, c3, A4, c4, hb, hg, hr1, hr2, hr3, hr4⟩ := h
  exact ⟨A1, c1, A2, c2, A3, c3, A4, c4, blk_kept hb hk hne, hg, hr1, hr2, hr3, hr4⟩
theorem IsS101.below {w0 W : World} {g : Nat} {f0 : Int} {f1 : List Int} {f2 : List Int} {f3 : List (S107)} {f4 : List Int} {f5 : Int} {W1 : World} (h : IsS101 w0 W g f0 f1 f2 f3 f4 f5) (hw : Below W.heap.size W W1) : IsS101 w0 W1 g f0 f1 f2 f3 f4 f5 := h.grown (grown_of_below hw none) (by simp)
theorem IsS101.alloc {w0 W : World} {g : Nat} {f0 : Int} {f1 : List Int} {f2 : List Int} {f3 : List (S107)} {f4 : List Int} {f5 : Int} (h : IsS101 w0 W g f0 f1 f2 f3 f4 f5) (o : Obj) : IsS101 w0 (W.alloc o) g f0 f1 f2 f3 f4 f5 := h.below (below_alloc (Below.refl _ _) o)
theorem IsS101.drewN {w0 W : World} {g : Nat} {f0 : Int} {f1 : List Int} {f2 : List Int} {f3 : List (S107)} {f4 : List Int} {f5 : Int} (h : IsS101 w0 W g f0 f1 f2 f3 f4 f5) (m : Nat) : IsS101 w0 (W.drewN m) g f0 f1 f2 f3 f4 f5 := h
theorem IsS101.drew {w0 W : World} {g : Nat} {f0 : Int} {f1 : List Int} {f2 : List Int} {f3 : List (S107)} {f4 : List Int} {f5 : Int} (h : IsS101 w0 W g f0 f1 f2 f3 f4 f5) : IsS101 w0 W.drew g f0 f1 f2 f3 f4 f5 := h
theorem IsS101.at_ {w0 W : World} {g : Nat} {f0 : Int} {f1 : List Int} {f2 : List Int} {f3 : List (S107)} {f4 : List Int} {f5 : Int} {w' : World} {m : Nat} (hq : W.drewN m = w') (h : IsS101 w0 W g f0 f1 f2 f3 f4 f5) : IsS101 w0 w' g f0 f1 f2 f3 f4 f5 := by subst hq; exact IsS101.drewN h m
theorem IsS101.apart {w0 W : World} {g : Nat} {f0 : Int} {f1 : List Int} {f2 : List Int} {f3 : List (S107)} {f4 : List Int} {f5 : Int} {α : Type} {d : Kd α} {e : Nat} {base : Nat} {ok : Nat → Prop} {v : Value} {xs : List α} (h : IsS101 w0 W g f0 f1 f2 f3 f4 f5) (ho : d.R e W base ok v xs) (ht : ∀ q, q ∈ e :: d.E → q ≠ 101) : d.R e W base (fun k => ok k ∧ k ≠ g) v xs := by
  obtain ⟨A1, c1, A2, c2, A3, c3, A4, c4, hb, hg, hr1, hr2, hr3, hr4⟩ := h
  exact Kd.R_types ho hb ht
theorem IsS101.own_ne {w0 W : World} {g : Nat} {f0 : Int} {f1 : List Int} {f2 : List Int} {f3 : List (S107)} {f4 : List Int} {f5 : Int} {α : Type} {d : Kd α} {e : Nat} {base : Nat} {ok : Nat → Prop} {v : Value} {xs : List α} (h : IsS101 w0 W g f0 f1 f2 f3 f4 f5) (ho : d.R e W base ok v xs) (ht : e ≠ 101) : some g ≠ v.ownBlock := by
  obtain ⟨A1, c1, A2, c2, A3, c3, A4, c4, hb, hg, hr1, hr2, hr3, hr4⟩ := h
  exact Kd.R_ne ho hb ht
theorem IsS101.apartQ {w0 W : World} {g : Nat} {f0 : Int} {f1 : List Int} {f2 : List Int} {f3 : List (S107)} {f4 : List Int} {f5 : Int} {α : Type} {d : Kd α} {e : Nat} {base : Nat} {ok : Nat → Prop} {v : Value} {xs : List α} (h : IsS101 w0 W g f0 f1 f2 f3 f4 f5) (ho : d.Q e W base ok v xs) (ht : ∀ q, q ∈ e :: d.E → q ≠ 101) : d.Q e W base (fun k => ok k ∧ k ≠ g) v xs := by
  obtain ⟨A1, c1, A2, c2, A3, c3, A4, c4, hb, hg, hr1, hr2, hr3, hr4⟩ := h
  exact Kd.Q_types ho hb ht
theorem IsS101.own_neQ {w0 W : World} {g : Nat} {f0 : Int} {f1 : List Int} {f2 : List Int} {f3 : List (S107)} {f4 : List Int} {f5 : Int} {α : Type} {d : Kd α} {e : Nat} {base : Nat} {ok : Nat → Prop} {v : Value} {xs : List α} (h : IsS101 w0 W g f0 f1 f2 f3 f4 f5) (ho : d.Q e W base ok v xs) (ht : e ≠ 101) : some g ≠ v.ownBlock := by
  obtain ⟨A1, c1, A2, c2, A3, c3, A4, c4, hb, hg, hr1, hr2, hr3, hr4⟩ := h
  exact Kd.Q_ne ho hb ht
theorem IsS101.apartS {w0 W : World} {g : Nat} {f0 : Int} {f1 : List Int} {f2 : List Int} {f3 : List (S107)} {f4 : List Int} {f5 : Int} {α : Type} {d : Kd α} {e : Nat} {base : Nat} {ok : Nat → Prop} {v : Value} {xs : List α} (h : IsS101 w0 W g f0 f1 f2 f3 f4 f5) (ho : d.S e W base ok v xs) (ht : ∀ q, q ∈ e :: d.E → q ≠ 101) : d.S e W base (fun k => ok k ∧ k ≠ g) v xs := by
  obtain ⟨A1, c1, A2, c2, A3, c3, A4, c4, hb, hg, hr1, hr2, hr3, hr4⟩ := h
  exact Kd.S_types ho hb ht
theorem IsS101.own_neS {w0 W : World} {g : Nat} {f0 : Int} {f1 : List Int} {f2 : List Int} {f3 : List (S107)} {f4 : List Int} {f5 : Int} {α : Type} {d : Kd α} {e : Nat} {base : Nat} {ok : Nat → Prop} {v : Value} {xs : List α} (h : IsS101 w0 W g f0 f1 f2 f3 f4 f5) (ho : d.S e W base ok v xs) (ht : e ≠ 101) : some g ≠ v.ownBlock := by
  obtain ⟨A1, c1, A2, c2, A3, c3, A4, c4, hb, hg, hr1, hr2, hr3, hr4⟩ := h
  exact Kd.S_ne ho hb ht
theorem IsS101.lt {w0 W : World} {g : Nat} {f0 : Int} {f1 : List Int} {f2 : List Int} {f3 : List (S107)} {f4 : List Int} {f5 : Int} (h : IsS101 w0 W g f0 f1 f2 f3 f4 f5) : g < W.heap.size := by
  obtain ⟨A1, c1, A2, c2, A3, c3, A4, c4, hb, hg, hr1, hr2, hr3, hr4⟩ := h
  exact blk_lt hb
theorem IsS101.ge {w0 W : World} {g : Nat} {f0 : Int} {f1 : List Int} {f2 : List Int} {f3 : List (S107)} {f4 : List Int} {f5 : Int} (h : IsS101 w0 W g f0 f1 f2 f3 f4 f5) : w0.heap.size ≤ g := by
  obtain ⟨A1, c1, A2, c2, A3, c3, A4, c4, hb, hg, hr1, hr2, hr3, hr4⟩ := h
  exact hg
theorem IsS101.ne_blk {w0 W : World} {g : Nat} {f0 : Int} {f1 : List Int} {f2 : List Int} {f3 : List (S107)} {f4 : List Int} {f5 : Int} {a : Nat} {cs : Array Value} {t : TypeId} {fr : Nat × Nat} (h : IsS101 w0 W g f0 f1 f2 f3 f4 f5) (hb2 : W.heap[a]? = some (.cells cs t fr)) (ht : t ≠ 101) : g ≠ a := by
  obtain ⟨A1, c1, A2, c2, A3, c3, A4, c4, hb, hg, hr1, hr2, hr3, hr4⟩ := h
  rintro rfl
  rw [hb] at hb2
  injection hb2 with hb2
  injection hb2 with _ ht2
  exact ht ht2.symm
theorem IsS101.far {w0 W : World} {g : Nat} {f0 : Int} {f1 : List Int} {f2 : List Int} {f3 : List (S107)} {f4 : List Int} {f5 : Int} {p : Addr} (h : IsS101 w0 W g f0 f1 f2 f3 f4 f5) (hne : g ≠ p.block) (u : Value) : IsS101 w0 (W.setCell p u) g f0 f1 f2 f3 f4 f5 := by
  obtain ⟨A1, c1, A2, c2, A3, c3, A4, c4, hb, hg, hr1, hr2, hr3, hr4⟩ := h
  exact ⟨A1, c1, A2, c2, A3, c3, A4, c4, blk_far hb hne u, hg, hr1, hr2, hr3, hr4⟩
theorem cellS101_0 {W : World} {g : Nat} {A1 : Option Addr} {c1 : Nat} {A2 : Option Addr} {c2 : Nat} {A3 : Option Addr} {c3 : Nat} {A4 : Option Addr} {c4 : Nat} {f0 : Int} {f1 : List Int} {f2 : List Int} {f3 : List (S107)} {f4 : List Int} {f5 : Int} (h : W.heap[g]? = some (.cells #[.int .i64 f0, .slice A1 f1.length c1, .slice A2 f2.length c2, .slice A3 f3.length c3, .slice A4 f4.length c4, .int .i64 f5] 101 (0, 0))) : W.cell? ⟨g, 0, none⟩ = some (.int .i64 f0) := (blk_cell h 0).trans rfl
theorem IsS101.set_0 {w0 W : World} {g : Nat} {f0 : Int} {f1 : List Int} {f2 : List Int} {f3 : List (S107)} {f4 : List Int} {f5 : Int} (h : IsS101 w0 W g f0 f1 f2 f3 f4 f5) (x : Int) : IsS101 w0 (W.setCell ⟨g, 0, none⟩ (.int .i64 x)) g x f1 f2 f3 f4 f5 := by
  obtain ⟨A1, c1, A2, c2, A3, c3, A4, c4, hb, hg, hr1, hr2, hr3, hr4⟩ := h
  exact ⟨A1, c1, A2, c2, A3, c3, A4, c4, by simpa using blk_set hb 0 (.int .i64 x), hg, hr1, hr2, hr3, hr4⟩
theorem cellS101_1 {W : World} {g : Nat} {A1 : Option Addr} {c1 : Nat} {A2 : Option Addr} {c2 : Nat} {A3 : Option Addr} {c3 : Nat} {A4 : Option Addr} {c4 : Nat} {f0 : Int} {f1 : List Int} {f2 : List Int} {f3 : List (S107)} {f4 : List Int} {f5 : Int} (h : W.heap[g]? = some (.cells #[.int .i64 f0, .slice A1 f1.length c1, .slice A2 f2.length c2, .slice A3 f3.length c3, .slice A4 f4.length c4, .int .i64 f5] 101 (0, 0))) : W.cell? ⟨g, 1, none⟩ = some (.slice A1 f1.length c1) := (blk_cell h 1).trans rfl
theorem cellS101_2 {W : World} {g : Nat} {A1 : Option Addr} {c1 : Nat} {A2 : Option Addr} {c2 : Nat} {A3 : Option Addr} {c3 : Nat} {A4 : Option Addr} {c4 : Nat} {f0 : Int} {f1 : List Int} {f2 : List Int} {f3 : List (S107)} {f4 : List Int} {f5 : Int} (h : W.heap[g]? = some (.cells #[.int .i64 f0, .slice A1 f1.length c1, .slice A2 f2.length c2, .slice A3 f3.length c3, .slice A4 f4.length c4, .int .i64 f5] 101 (0, 0))) : W.cell? ⟨g, 2, none⟩ = some (.slice A2 f2.length c2) := (blk_cell h 2).trans rfl
theorem cellS101_3 {W : World} {g : Nat} {A1 : Option Addr} {c1 : Nat} {A2 : Option Addr} {c2 : Nat} {A3 : Option Addr} {c3 : Nat} {A4 : Option Addr} {c4 : Nat} {f0 : Int} {f1 : List Int} {f2 : List Int} {f3 : List (S107)} {f4 : List Int} {f5 : Int} (h : W.heap[g]? = some (.cells #[.int .i64 f0, .slice A1 f1.length c1, .slice A2 f2.length c2, .slice A3 f3.length c3, .slice A4 f4.length c4, .int .i64 f5] 101 (0, 0))) : W.cell? ⟨g, 3, none⟩ = some (.slice A3 f3.length c3) := (blk_cell h 3).trans rfl
theorem cellS101_4 {W : World} {g : Nat} {A1 : Option Addr} {c1 : Nat} {A2 : Option Addr} {c2 : Nat} {A3 : Option Addr} {c3 : Nat} {A4 : Option Addr} {c4 : Nat} {f0 : Int} {f1 : List Int} {f2 : List Int} {f3 : List (S107)} {f4 : List Int} {f5 : Int} (h : W.heap[g]? = some (.cells #[.int .i64 f0, .slice A1 f1.length c1, .slice A2 f2.length c2, .slice A3 f3.length c3, .slice A4 f4.length c4, .int .i64 f5] 101 (0, 0))) : W.cell? ⟨g, 4, none⟩ = some (.slice A4 f4.length c4) := (blk_cell h 4).trans rfl
theorem cellS101_5 {W : World} {g : Nat} {A1 : Option Addr} {c1 : Nat} {A2 : Option Addr} {c2 : Nat} {A3 : Option Addr} {c3 : Nat} {A4 : Option Addr} {c4 : Nat} {f0 : Int} {f1 : List Int} {f2 : List Int} {f3 : List (S107)} {f4 : List Int} {f5 : Int} (h : W.heap[g]? = some (.cells #[.int .i64 f0, .slice A1 f1.length c1, .slice A2 f2.length c2, .slice A3 f3.length c3, .slice A4 f4.length c4, .int .i64 f5] 101 (0, 0))) : W.cell? ⟨g, 5, none⟩ = some (.int .i64 f5) := (blk_cell h 5).trans rfl
theorem IsS101.set_5 {w0 W : World} {g : Nat} {f0 : Int} {f1 : List Int} {f2 : List Int} {f3 : List (S107)} {f4 : List Int} {f5 : Int} (h : IsS101 w0 W g f0 f1 f2 f3 f4 f5) (x : Int) : IsS101 w0 (W.setCell ⟨g, 5, none⟩ (.int .i64 x)) g f0 f1 f2 f3 f4 x := by
  obtain ⟨A1, c1, A2, c2, A3, c3, A4, c4, hb, hg, hr1, hr2, hr3, hr4⟩ := h
  exact ⟨A1, c1, A2, c2, A3, c3, A4, c4, by simpa using blk_set hb 5 (.int .i64 x), hg, hr1, hr2, hr3, hr4⟩
theorem IsS101.new (w0 W : World) (A1 : Option Addr) (c1 : Nat) (A2 : Option Addr) (c2 : Nat) (A3 : Option Addr) (c3 : Nat) (A4 : Option Addr) (c4 : Nat) (f0 : Int) (f1 : List Int) (f2 : List Int) (f3 : List (S107)) (f4 : List Int) (f5 : Int) (hB : Below w0.heap.size w0 W) (hr1 : Kd.C (Kd.int .u8) w0 A1 f1.length f1) (hr2 : Kd.C (Kd.int .u8) w0 A2 f2.length f2) (hr3 : Kd.C k107 w0 A3 f3.length f3) (hr4 : Kd.C (Kd.int .u8) w0 A4 f4.length f4) : IsS101 w0 (W.alloc (.cells #[.int .i64 f0, .slice A1 f1.length c1, .slice A2 f2.length c2, .slice A3 f3.length c3, .slice A4 f4.length c4, .int .i64 f5] 101)) W.heap.size f0 f1 f2 f3 f4 f5 := ⟨A1, c1, A2, c2, A3, c3, A4, c4, by simpa using heap_alloc_new W _, hB.size, hr1, hr2, hr3, hr4⟩

/-! ### bailiwickref7_Disk_Read: function 53 -/
mutual
def bailiwickref7_Disk_Read.j0 : Nat → Int → Bool → Int → List Int → List Int → List (S107) → List Int → Int → Option (List Int × Int × Int × Int)
  | 0, _, _, _, _, _, _, _, _ => none
  | k + 1, x1, x17, x1000, x1001, x1002, x1003, x1004, x1005 => if x17 = true then (some (([] : List Int), 1, x1000, x1005)) else (bailiwickref7_Disk_Read.l0 k x1 ([] : List Int) 0 x1000 x1001 x1002 x1003 x1004 x1005)
def bailiwickref7_Disk_Read.l0 : Nat → Int → List Int → Int → Int → List Int → List Int → List (S107) → List Int → Int → Option (List Int × Int × Int × Int)
  | 0, _, _, _, _, _, _, _, _, _ => none
  | k + 1, x1, x6, x7, x1000, x1001, x1002, x1003, x1004, x1005 => if x7 < 64 then (if 0 ≤ (wrap64 ((wrap64 (x1 * 64)) + x7)) then (if (wrap64 ((wrap64 (x1 * 64)) + x7)) < (x1002.length : Int) then (if x6.length < 140737488355328 then (bailiwickref7_Disk_Read.l0 k x1 (x6 ++ [rd x1002 (wrap64 ((wrap64 (x1 * 64)) + x7))]) (wrap64 (x7 + 1)) x1000 x1001 x1002 x1003 x1004 x1005) else (none)) else (none)) else (none)) else (some (x6, 0, x1000, x1005))
end
def bailiwickref7_Disk_Read.f (k : Nat) (s0_0 : Int) (s0_1 : List Int) (s0_2 : List Int) (s0_3 : List (S107)) (s0_4 : List Int) (s0_5 : Int) (a1 : Int) : Option (List Int × Int × Int × Int) := if a1 < 0 then (bailiwickref7_Disk_Read.j0 k a1 true s0_0 s0_1 s0_2 s0_3 s0_4 s0_5) else (bailiwickref7_Disk_Read.j0 k a1 (decide (a1 ≥ s0_0)) s0_0 s0_1 s0_2 s0_3 s0_4 s0_5)
theorem bailiwickref7_Disk_Read.mono_l : ∀ k, (∀ y0 y1 y2 y3 y4 y5 y6 y7, LeO (bailiwickref7_Disk_Read.j0 k y0 y1 y2 y3 y4 y5 y6 y7) (bailiwickref7_Disk_Read.j0 (k + 1) y0 y1 y2 y3 y4 y5 y6 y7)) ∧ (∀ y0 y1 y2 y3 y4 y5 y6 y7 y8, LeO (bailiwickref7_Disk_Read.l0 k y0 y1 y2 y3 y4 y5 y6 y7 y8) (bailiwickref7_Disk_Read.l0 (k + 1) y0 y1 y2 y3 y4 y5 y6 y7 y8))
  | 0 => ⟨fun _ _ _ _ _ _ _ _ r h => by simp [bailiwickref7_Disk_Read.j0] at h, fun _ _ _ _ _ _ _ _ _ r h => by simp [bailiwickref7_Disk_Read.l0] at h⟩
  | k + 1 => by
    obtain ⟨ih0, ih1⟩ := bailiwickref7_Disk_Read.mono_l k
    refine ⟨?_, ?_⟩
    · intro y0 y1 y2 y3 y4 y5 y6 y7
      unfold bailiwickref7_Disk_Read.j0
      repeat' first
      | (with_reducible exact ih0 _ _ _ _ _ _ _ _)
      | (with_reducible exact ih1 _ _ _ _ _ _ _ _ _)
      | (with_reducible exact LeO.refl _)
      | (with_reducible exact LeO.none _)
      | (with_reducible refine LeO.ite ?_ ?_)
      | (with_reducible refine LeO.bind ?_ (fun _ => ?_))
      | exact ih0 _ _ _ _ _ _ _ _
      | exact ih1 _ _ _ _ _ _ _ _ _
      | exact LeO.none _
      | refine LeO.ite ?_ ?_
      | refine LeO.bind ?_ (fun _ => ?_)
    · intro y0 y1 y2 y3 y4 y5 y6 y7 y8
      unfold bailiwickref7_Disk_Read.l0
      repeat' first
      | (with_reducible exact ih0 _ _ _ _ _ _ _ _)
      | (with_reducible exact ih1 _ _ _ _ _ _ _ _ _)
      | (with_reducible exact LeO.refl _)
      | (with_reducible exact LeO.none _)
      | (with_reducible refine LeO.ite ?_ ?_)
      | (with_reducible refine LeO.bind ?_ (fun _ => ?_))
      | exact ih0 _ _ _ _ _ _ _ _
      | exact ih1 _ _ _ _ _ _ _ _ _
      | exact LeO.none _
      | refine LeO.ite ?_ ?_
      | refine LeO.bind ?_ (fun _ => ?_)
theorem bailiwickref7_Disk_Read.mono : ∀ a0 a1 a2 a3 a4 a5 a6 k, LeO (bailiwickref7_Disk_Read.f k a0 a1 a2 a3 a4 a5 a6) (bailiwickref7_Disk_Read.f (k + 1) a0 a1 a2 a3 a4 a5 a6) := by
  intro a0 a1 a2 a3 a4 a5 a6 k
  obtain ⟨ih0, ih1⟩ := bailiwickref7_Disk_Read.mono_l k
  unfold bailiwickref7_Disk_Read.f
  repeat' first
      | (with_reducible exact ih0 _ _ _ _ _ _ _ _)
      | (with_reducible exact ih1 _ _ _ _ _ _ _ _ _)
      | (with_reducible exact LeO.refl _)
      | (with_reducible exact LeO.none _)
      | (with_reducible refine LeO.ite ?_ ?_)
      | (with_reducible refine LeO.bind ?_ (fun _ => ?_))
      | exact ih0 _ _ _ _ _ _ _ _
      | exact ih1 _ _ _ _ _ _ _ _ _
      | exact LeO.none _
      | refine LeO.ite ?_ ?_
      | refine LeO.bind ?_ (fun _ => ?_)
set_option maxHeartbeats 8000000 in
set_option maxRecDepth 100000 in
theorem bailiwickref7_Disk_Read.calls (k : Nat) (g : Nat) (s0_0 : Int) (s0_1 : List Int) (s0_2 : List Int) (s0_3 : List (S107)) (s0_4 : List Int) (s0_5 : Int) (a1 : Int) (r1 : List Int) (r2 : Int) (r3 : Int) (r4 : Int) (w0 w : World) (hI : IsS101 w0 w g s0_0 s0_1 s0_2 s0_3 s0_4 s0_5) (hB : Below w0.heap.size w0 w) (h : bailiwickref7_Disk_Read.f k s0_0 s0_1 s0_2 s0_3 s0_4 s0_5 a1 = some (r1, r2, r3, r4)) :
    Calls Try.prog 53 #[.pointer (some ⟨g, 0, none⟩), .int .i64 a1] w fun e w' => ∃ v0_ : Value, e = .returned (.tuple #[v0_, .int .i64 r2]) ∧ Kd.R (Kd.int .u8) 5 w' w.heap.size (fun _ => True) v0_ r1 ∧ IsS101 w0 w' g r3 s0_1 s0_2 s0_3 s0_4 r4 ∧ Below w0.heap.size w0 w' ∧ KeepBut w w' g none := by
  have HI0 := Aside0.mk hI
  have HK := Aside0.mk (KeepBut.refl w g none)
  have HL := Aside0.mk hB.size
  clear hI
  have HW0 := Aside0.mk hB.size
  have HB := Aside0.mk hB
  clear hB
  have H : (if a1 < 0 then (bailiwickref7_Disk_Read.j0 k a1 true s0_0 s0_1 s0_2 s0_3 s0_4 s0_5) else (bailiwickref7_Disk_Read.j0 k a1 (decide (a1 ≥ s0_0)) s0_0 s0_1 s0_2 s0_3 s0_4 s0_5)) = some (r1, r2, r3, r4) := h
  clear h
  have HC3 := Aside0.mk H
  clear H
  go_enter Try.func53, Try.ntmps53
  go_upto_region 1 with (fail)
  go_cut [17] (fun v17 wc => ∃ (kq : Nat) (x17_2 : Bool), v17 = .bool x17_2 ∧ Aside0 (bailiwickref7_Disk_Read.j0 kq a1 x17_2 s0_0 s0_1 s0_2 s0_3 s0_4 s0_5 = some (r1, r2, r3, r4)) ∧ Aside0 (kq ≤ k) ∧ Aside0 (IsS101 w0 wc g s0_0 s0_1 s0_2 s0_3 s0_4 s0_5) ∧ Aside0 (KeepBut w wc g none) ∧ Aside0 (Below w0.heap.size w0 wc))
  case first =>
    have H := HC3.out
    clear HC3
    by_cases c4 : a1 < 0
    · rw [if_pos c4] at H
      have c4b0 : decide (a1 < 0) = true := decide_eq_true c4
      clear c4
      (first | rw [c4b0] | (simp only [i64_w, i32_w]; rw [c4b0]) | skip)
      have H' := Aside0.mk H
      clear H
      go_wp2
      go_meet
      case rel => exact ⟨_, (true), (by first | rfl | (simp; done) | (simp [*]; done)), H', ⟨by first | omega | exact Nat.le_refl _⟩, ⟨by repeat (first | (with_reducible first | exact HI0.out | apply IsS101.alloc | apply IsS101.drewN | apply IsS101.drew | apply IsS101.set_0 | apply IsS101.set_5) | exact HI0.out)⟩, ⟨by repeat (first | (with_reducible first | exact HK.out | apply KeepBut.set_ | apply keep_drewN | apply keep_drew | apply keep_alloc) | exact HK.out)⟩, ⟨by repeat (first | (with_reducible first | exact HB.out | apply below_alloc | apply pw_below_drewN | apply below_drew1 | refine below_set ?_ (IsS101.ge HI0.out)) | exact HB.out)⟩⟩
    · rw [if_neg c4] at H
      have c4b0 : decide (a1 < 0) = false := decide_eq_false c4
      clear c4
      (first | rw [c4b0] | (simp only [i64_w, i32_w]; rw [c4b0]) | skip)
      have H' := Aside0.mk H
      clear H
      obtain ⟨ASz5_1, cSz5_1, ASz5_2, cSz5_2, ASz5_3, cSz5_3, ASz5_4, cSz5_4, HGz5, hgz5, HSz5_1, HSz5_2, HSz5_3, HSz5_4⟩ := HI0.out
      have hcz5_0 := cellS101_0 HGz5
      have hcz5_1 := cellS101_1 HGz5
      have hcz5_2 := cellS101_2 HGz5
      have hcz5_3 := cellS101_3 HGz5
      have hcz5_4 := cellS101_4 HGz5
      have hcz5_5 := cellS101_5 HGz5
      have hfz5_0 := blk_frozen HGz5 0
      have hfz5_5 := blk_frozen HGz5 5
      clear HGz5 hgz5
      go_wp2
      go_meet
      case rel => exact ⟨_, (decide (a1 ≥ s0_0)), (by first | rfl | (simp; done) | (simp [*]; done)), H', ⟨by first | omega | exact Nat.le_refl _⟩, ⟨by repeat (first | (with_reducible first | exact HI0.out | apply IsS101.alloc | apply IsS101.drewN | apply IsS101.drew | apply IsS101.set_0 | apply IsS101.set_5) | exact HI0.out)⟩, ⟨by repeat (first | (with_reducible first | exact HK.out | apply KeepBut.set_ | apply keep_drewN | apply keep_drew | apply keep_alloc) | exact HK.out)⟩, ⟨by repeat (first | (with_reducible first | exact HB.out | apply below_alloc | apply pw_below_drewN | apply below_drew1 | refine below_set ?_ (IsS101.ge HI0.out)) | exact HB.out)⟩⟩
  case rest =>
    clear HC3
    try clear p2
    try clear c4
    try clear c4b0
    try clear c5
    try clear hcz5_0
    try clear hcz5_1
    try clear hcz5_2
    try clear hcz5_3
    try clear hcz5_4
    try clear hcz5_5
    try clear hfz5_0
    try clear hfz5_5
    obtain ⟨kq, x17_2, rfl, HA, HJ2, HI0, HK, HB⟩ := hcut
    cases kq with
    | zero => exact absurd HA.out (by simp [bailiwickref7_Disk_Read.j0])
    | succ kj2 =>
      have H := HA.out
      clear HA
      simp only [bailiwickref7_Disk_Read.j0] at H
      by_cases c6 : x17_2 = true
      · subst c6
        have H1 : (some (([] : List Int), 1, s0_0, s0_5)) = some (r1, r2, r3, r4) := by rw [if_pos rfl] at H; exact H
        clear H
        have H := H1
        clear H1
        simp only [Option.some.injEq, Prod.mk.injEq] at H
        obtain ⟨rfl, rfl, rfl, rfl⟩ := H
        go_wp2
        go_ret2
        exact ⟨_, by first | rfl | (simp [errW_none, errW_some] <;> rfl) | (simp [*, errW_none, errW_some] <;> rfl), by first | exact Kd.R_nil _ _ _ _ _ | exact Kd.N_nil _ _ _ _ _ | exact Kd.V_nil _ _ _ _ _ | exact Kd.Q_nil _ _ _ _ _ | exact Kd.S_nil _ _ _ _ _, by repeat (first | (with_reducible first | exact HI0.out | apply IsS101.alloc | apply IsS101.drewN | apply IsS101.drew | apply IsS101.set_0 | apply IsS101.set_5) | exact HI0.out), by repeat (first | (with_reducible first | exact HB.out | apply below_alloc | apply pw_below_drewN | apply below_drew1 | refine below_set ?_ (IsS101.ge HI0.out)) | exact HB.out), by repeat (first | (with_reducible first | exact HK.out | apply KeepBut.set_ | apply keep_drewN | apply keep_drew | apply keep_alloc) | exact HK.out)⟩
      · replace c6 := Bool.eq_false_iff.mpr c6
        subst c6
        have H1 : (bailiwickref7_Disk_Read.l0 kj2 a1 ([] : List Int) 0 s0_0 s0_1 s0_2 s0_3 s0_4 s0_5) = some (r1, r2, r3, r4) := by rw [if_neg (show ¬ (false = true) by decide)] at H; exact H
        clear H
        have H := H1
        clear H1
        have H' := Aside0.mk H
        clear H
        go_wp2
        go_loopg [6, 7] kj2 (fun kq v6 v7 w' => ∃ (x6_2 : List Int) (x7_2 : Int), v7 = .int .i64 x7_2 ∧ Aside0 (bailiwickref7_Disk_Read.l0 kq a1 x6_2 x7_2 s0_0 s0_1 s0_2 s0_3 s0_4 s0_5 = some (r1, r2, r3, r4)) ∧ Aside0 (kq ≤ kj2) ∧ Aside0 (Kd.R (Kd.int .u8) 5 w' w.heap.size (fun _ => True) v6 x6_2) ∧ Aside0 (IsS101 w0 w' g s0_0 s0_1 s0_2 s0_3 s0_4 s0_5) ∧ Aside0 (KeepBut w w' g none) ∧ Aside0 (Below w0.heap.size w0 w'))
        case atStart => exact ⟨(([] : List Int)), (0), (by first | rfl | (simp; done) | (simp [*]; done)), H', ⟨Nat.le_refl _⟩, ⟨by first | exact Kd.R_nil _ _ _ _ _ | exact Kd.N_nil _ _ _ _ _ | exact Kd.V_nil _ _ _ _ _ | exact Kd.Q_nil _ _ _ _ _ | exact Kd.S_nil _ _ _ _ _⟩, ⟨by repeat (first | (with_reducible first | exact HI0.out | apply IsS101.alloc | apply IsS101.drewN | apply IsS101.drew | apply IsS101.set_0 | apply IsS101.set_5) | exact HI0.out)⟩, ⟨by repeat (first | (with_reducible first | exact HK.out | apply KeepBut.set_ | apply keep_drewN | apply keep_drew | apply keep_alloc) | exact HK.out)⟩, ⟨by repeat (first | (with_reducible first | exact HB.out | apply below_alloc | apply pw_below_drewN | apply below_drew1 | refine below_set ?_ (IsS101.ge HI0.out)) | exact HB.out)⟩⟩
        case round =>
          clear H'
          try clear p2
          try clear c4
          try clear c4b0
          try clear c5
          try clear c6
          try clear hcz5_0
          try clear hcz5_1
          try clear hcz5_2
          try clear hcz5_3
          try clear hcz5_4
          try clear hcz5_5
          try clear hfz5_0
          try clear hfz5_5
          try clear p2
          obtain ⟨x6_2, x7_2, rfl, HA, HK2, HO_6, HI0, HK, HB⟩ := hrel
          cases gk with
          | zero => exact absurd HA.out (by simp [bailiwickref7_Disk_Read.l0])
          | succ k2 =>
            have H := HA.out
            clear HA
            simp only [bailiwickref7_Disk_Read.l0] at H
            by_cases c7 : x7_2 < 64
            · rw [if_pos c7] at H
              have c7b0 : decide (x7_2 < 64) = true := decide_eq_true c7
              clear c7
              obtain ⟨ji8, hji8⟩ : ∃ j_ : Int, (wrap64 ((wrap64 (a1 * 64)) + x7_2)) = j_ := ⟨_, rfl⟩
              replace H : (if 0 ≤ (ji8) then (if (ji8) < (s0_2.length : Int) then (if x6_2.length < 140737488355328 then (bailiwickref7_Disk_Read.l0 k2 a1 (x6_2 ++ [rd s0_2 (ji8)]) (wrap64 (x7_2 + 1)) s0_0 s0_1 s0_2 s0_3 s0_4 s0_5) else (none)) else (none)) else (none)) = some (r1, r2, r3, r4) := by first | (rw [hji8] at H; exact H) | (simp only [hji8] at H ⊢; exact H)
              have hji8w : (IntKind.i64.wrap ((wrap64 (a1 * 64)) + x7_2)) = ji8 := (i64_w _).trans hji8
              by_cases c9 : 0 ≤ (ji8)
              · rw [if_pos c9] at H
                have c9b0 : decide (0 ≤ (ji8)) = true := decide_eq_true c9
                clear c9
                by_cases c10 : (ji8) < (s0_2.length : Int)
                · rw [if_pos c10] at H
                  have c10b0 : decide ((ji8) < (s0_2.length : Int)) = true := decide_eq_true c10
                  clear c10
                  by_cases c11 : x6_2.length < 140737488355328
                  · rw [if_pos c11] at H
                    have LMc11 := Aside0.mk c11
                    clear c11
                    obtain ⟨y122, hy122⟩ : ∃ y_ : List Int, y_ = (x6_2 ++ [rd s0_2 (ji8)]) := ⟨_, rfl⟩
                    replace H : (bailiwickref7_Disk_Read.l0 k2 a1 y122 (wrap64 (x7_2 + 1)) s0_0 s0_1 s0_2 s0_3 s0_4 s0_5) = some (r1, r2, r3, r4) := by first | (rw [hy122]; with_reducible exact H) | (have H2_ := (Option.bind_some _ _).symm.trans H; rw [hy122]; with_reducible exact H2_) | (have H2_ := (Option.bind_some _ _).symm.trans H; with_reducible exact H2_) | with_reducible exact H | (rw [hy122]; exact H) | exact H
                    have Ny122 := Aside0.mk hy122
                    clear hy122
                    have H' := Aside0.mk H
                    clear H
                    obtain ⟨ASz12_1, cSz12_1, ASz12_2, cSz12_2, ASz12_3, cSz12_3, ASz12_4, cSz12_4, HGz12, hgz12, HSz12_1, HSz12_2, HSz12_3, HSz12_4⟩ := HI0.out
                    have hcz12_0 := cellS101_0 HGz12
                    have hcz12_1 := cellS101_1 HGz12
                    have hcz12_2 := cellS101_2 HGz12
                    have hcz12_3 := cellS101_3 HGz12
                    have hcz12_4 := cellS101_4 HGz12
                    have hcz12_5 := cellS101_5 HGz12
                    have hfz12_0 := blk_frozen HGz12 0
                    have hfz12_5 := blk_frozen HGz12 5
                    clear HGz12 hgz12
                    have p121 : 0 ≤ ((ji8) : Int) := of_decide_eq_true (by first | (with_reducible assumption) | assumption)
                    have q121 : (ji8) < (s0_2.length : Int) := of_decide_eq_true (by first | (with_reducible assumption) | assumption)
                    obtain ⟨ad121, e121, hx121_0⟩ := Kd.at_int HSz12_2 (ji8) p121 q121
                    cases e121
                    replace hx121_0 := pw_cell_below HB.out hx121_0
                    replace p121 := eq_true p121
                    replace q121 := eq_true q121
                    go_wp2_with (first | ((with_reducible refine gate_builtin (b := .append) (xs := #[.tmp 22, .tmp 33]) rfl ?_); at_builtin; refine Kd.R_append (Kd.int .u8) w.heap.size rfl (.tmp 22) (.tmp 33) 23 5 (.int .u8 0) 1 rfl Try.underlying23 info5 rfl (by decide) (by omega) u6 x6_2 (rd s0_2 (ji8)) [.int .u8 (rd s0_2 (ji8))] (fun _ => True) (fun _ => False) rfl rfl ?aP (fun _ hk => hk.elim) ?aF ?aO (Below.refl _ _) ?aS ?aL ?_; (case aP => exact rfl); (case aF => exact (fun _ _ => trivial)); (case aO => exact (by (with_reducible repeat (first | apply Kd.R_alloc | apply Kd.R_drewN | apply Kd.R_drew)); exact HO_6.out)); (case aS => exact (keep_size (w := w) (g := g) (row := none) (by repeat (first | (with_reducible first | exact HK.out | apply KeepBut.set_ | apply keep_drewN | apply keep_drew | apply keep_alloc) | exact HK.out)))); (case aL => have := LMc11.out; omega); intro v123 w13 ho hb hg hat; rw [← Ny122.out] at ho; have n0_ := Aside0.mk (IsS101.grown (by repeat (first | (with_reducible first | exact HI0.out | apply IsS101.alloc | apply IsS101.drewN | apply IsS101.drew | apply IsS101.set_0 | apply IsS101.set_5) | exact HI0.out)) hg (IsS101.own_ne HI0.out HO_6.out (by decide))); have n1_ := Aside0.mk (below_weaken (by repeat (first | (with_reducible first | exact HB.out | apply below_alloc | apply pw_below_drewN | apply below_drew1 | refine below_set ?_ (IsS101.ge HI0.out)) | exact HB.out)) HL.out hb); have n2_ := Aside0.mk (KeepBut.trans (by repeat (first | (with_reducible first | exact HK.out | apply KeepBut.set_ | apply keep_drewN | apply keep_drew | apply keep_alloc) | exact HK.out)) (KeepBut.of_grown hg g) (Kd.R_base2 HO_6.out)); have n3_ := Aside0.mk (ho); clear HI0; clear HB; clear HK; clear HO_6; have HI0 := n0_; have HB := n1_; have HK := n2_; have HO124 := n3_; clear n0_ n1_ n2_ n3_; clear ho hb hg hat))
                    go_roundg k2
                    case measure => have := HJ2.out; have := HK2.out; omega
                    case rel => exact ⟨(y122), (wrap64 (x7_2 + 1)), (by first | rfl | (simp; done) | (simp [*]; done)), H', ⟨by have := HJ2.out; have := HK2.out; omega⟩, ⟨by (with_reducible repeat (first | apply Kd.R_alloc | apply Kd.R_drewN | apply Kd.R_drew)); exact HO124.out⟩, ⟨by repeat (first | (with_reducible first | exact HI0.out | apply IsS101.alloc | apply IsS101.drewN | apply IsS101.drew | apply IsS101.set_0 | apply IsS101.set_5) | exact HI0.out)⟩, ⟨by repeat (first | (with_reducible first | exact HK.out | apply KeepBut.set_ | apply keep_drewN | apply keep_drew | apply keep_alloc) | exact HK.out)⟩, ⟨by repeat (first | (with_reducible first | exact HB.out | apply below_alloc | apply pw_below_drewN | apply below_drew1 | refine below_set ?_ (IsS101.ge HI0.out)) | exact HB.out)⟩⟩
                  · rw [if_neg c11] at H
                    exact absurd H (by simp)
                · rw [if_neg c10] at H
                  exact absurd H (by simp)
              · rw [if_neg c9] at H
                exact absurd H (by simp)
            · rw [if_neg c7] at H
              have c7b0 : decide (x7_2 < 64) = false := decide_eq_false c7
              clear c7
              simp only [Option.some.injEq, Prod.mk.injEq] at H
              obtain ⟨rfl, rfl, rfl, rfl⟩ := H
              go_wp2
              go_ret2
              exact ⟨_, by first | rfl | (simp [errW_none, errW_some] <;> rfl) | (simp [*, errW_none, errW_some] <;> rfl), by (with_reducible repeat (first | apply Kd.R_alloc | apply Kd.R_drewN | apply Kd.R_drew)); exact HO_6.out, by repeat (first | (with_reducible first | exact HI0.out | apply IsS101.alloc | apply IsS101.drewN | apply IsS101.drew | apply IsS101.set_0 | apply IsS101.set_5) | exact HI0.out), by repeat (first | (with_reducible first | exact HB.out | apply below_alloc | apply pw_below_drewN | apply below_drew1 | refine below_set ?_ (IsS101.ge HI0.out)) | exact HB.out), by repeat (first | (with_reducible first | exact HK.out | apply KeepBut.set_ | apply keep_drewN | apply keep_drew | apply keep_alloc) | exact HK.out)⟩

/-! ### bailiwickref8_blank: function 54 -/
def bailiwickref8_blank.l0 : Nat → List Int → Int → Option (Bool)
  | 0, _, _ => none
  | k + 1, x0, x3 => if x3 < (x0.length : Int) then (if 0 ≤ x3 then (if (rd x0 x3) = 0 then (bailiwickref8_blank.l0 k x0 (wrap64 (x3 + 1))) else (some false)) else (none)) else (some true)
def bailiwickref8_blank.f (k : Nat) (l0 : List Int) : Option (Bool) := bailiwickref8_blank.l0 k l0 0
theorem bailiwickref8_blank.mono_l : ∀ k, (∀ y0 y1, LeO (bailiwickref8_blank.l0 k y0 y1) (bailiwickref8_blank.l0 (k + 1) y0 y1))
  | 0 => fun _ _ r h => by simp [bailiwickref8_blank.l0] at h
  | k + 1 => by
    have ih0 := bailiwickref8_blank.mono_l k
    · intro y0 y1
      unfold bailiwickref8_blank.l0
      repeat' first
      | (with_reducible exact ih0 _ _)
      | (with_reducible exact LeO.refl _)
      | (with_reducible exact LeO.none _)
      | (with_reducible refine LeO.ite ?_ ?_)
      | (with_reducible refine LeO.bind ?_ (fun _ => ?_))
      | exact ih0 _ _
      | exact LeO.none _
      | refine LeO.ite ?_ ?_
      | refine LeO.bind ?_ (fun _ => ?_)
theorem bailiwickref8_blank.mono : ∀ a0 k, LeO (bailiwickref8_blank.f k a0) (bailiwickref8_blank.f (k + 1) a0) := by
  intro a0 k
  have ih0 := bailiwickref8_blank.mono_l k
  unfold bailiwickref8_blank.f
  repeat' first
      | (with_reducible exact ih0 _ _)
      | (with_reducible exact LeO.refl _)
      | (with_reducible exact LeO.none _)
      | (with_reducible refine LeO.ite ?_ ?_)
      | (with_reducible refine LeO.bind ?_ (fun _ => ?_))
      | exact ih0 _ _
      | exact LeO.none _
      | refine LeO.ite ?_ ?_
      | refine LeO.bind ?_ (fun _ => ?_)
set_option maxHeartbeats 8000000 in
set_option maxRecDepth 100000 in
theorem bailiwickref8_blank.calls (k : Nat) (A0 : Option Addr) (c0 : Nat) (l0 : List Int) (r : Bool) (w : World) (hr0 : Kd.C (Kd.int .u8) w A0 l0.length l0) (hc0 : l0.length ≤ c0) (h : bailiwickref8_blank.f k l0 = some r) :
    Calls Try.prog 54 #[.slice A0 l0.length c0] w fun e w' => e = .returned (.bool r) ∧ Drawn0 w w' := by
  have HR0 := Aside0.mk hr0
  have HC0 := Aside0.mk hc0
  clear hr0 hc0
  have H : (bailiwickref8_blank.l0 k l0 0) = some r := h
  clear h
  have H' := Aside0.mk H
  clear H
  go_enter Try.func54, Try.ntmps54
  go_wp2
  go_loopg [3] k (fun kq v3 w' => ∃ (x3_1 : Int), v3 = .int .i64 x3_1 ∧ Aside0 (bailiwickref8_blank.l0 kq l0 x3_1 = some r) ∧ Aside0 (kq ≤ k) ∧ Drawn0 w w')
  case atStart => exact ⟨(0), (by first | rfl | (simp; done) | (simp [*]; done)), H', ⟨Nat.le_refl _⟩, by repeat (first | exact Drawn0.refl _ | apply Drawn0.step)⟩
  case round =>
    clear H'
    obtain ⟨x3_1, rfl, HA, HK1, ⟨m1, rfl⟩⟩ := hrel
    cases gk with
    | zero => exact absurd HA.out (by simp [bailiwickref8_blank.l0])
    | succ k1 =>
      have H := HA.out
      clear HA
      simp only [bailiwickref8_blank.l0] at H
      by_cases c2 : x3_1 < (l0.length : Int)
      · rw [if_pos c2] at H
        have c2b0 : decide (x3_1 < (l0.length : Int)) = true := decide_eq_true c2
        clear c2
        by_cases c3 : 0 ≤ x3_1
        · rw [if_pos c3] at H
          have c3b0 : decide (0 ≤ x3_1) = true := decide_eq_true c3
          clear c3
          by_cases c4 : (rd l0 x3_1) = 0
          · rw [if_pos c4] at H
            have c4b0 : ((rd l0 x3_1) == 0) = true := beq_iff_eq.mpr c4
            have c4b1 : ((rd l0 x3_1) != 0) = false := bne_eq_false_iff_eq.mpr c4
            clear c4
            have H' := Aside0.mk H
            clear H
            have p125 : 0 ≤ (x3_1 : Int) := of_decide_eq_true (by first | (with_reducible assumption) | assumption)
            have q125 : x3_1 < (l0.length : Int) := of_decide_eq_true (by first | (with_reducible assumption) | assumption)
            obtain ⟨ad125, e125, hx125_0⟩ := Kd.at_int HR0.out x3_1 p125 q125
            cases e125
            replace p125 := eq_true p125
            replace q125 := eq_true q125
            go_wp2
            go_roundg k1
            case measure => have := HK1.out; omega
            case rel => exact ⟨(wrap64 (x3_1 + 1)), (by first | rfl | (simp; done) | (simp [*]; done)), H', ⟨by have := HK1.out; omega⟩, by repeat (first | exact Drawn0.refl _ | apply Drawn0.step)⟩
          · rw [if_neg c4] at H
            have c4b0 : ((rd l0 x3_1) == 0) = false := beq_eq_false_iff_ne.mpr c4
            have c4b1 : ((rd l0 x3_1) != 0) = true := bne_iff_ne.mpr c4
            obtain rfl := Option.some.inj H
            have p125 : 0 ≤ (x3_1 : Int) := of_decide_eq_true (by first | (with_reducible assumption) | assumption)
            have q125 : x3_1 < (l0.length : Int) := of_decide_eq_true (by first | (with_reducible assumption) | assumption)
            obtain ⟨ad125, e125, hx125_0⟩ := Kd.at_int HR0.out x3_1 p125 q125
            cases e125
            replace p125 := eq_true p125
            replace q125 := eq_true q125
            go_wp2
            go_ret
            exact ⟨by first | rfl | (simp; done) | (simp [*]; done), by repeat (first | exact Drawn0.refl _ | apply Drawn0.step)⟩
        · rw [if_neg c3] at H
          exact absurd H (by simp)
      · rw [if_neg c2] at H
        have c2b0 : decide (x3_1 < (l0.length : Int)) = false := decide_eq_false c2
        clear c2
        obtain rfl := Option.some.inj H
        go_wp2
        go_ret
        exact ⟨by first | rfl | (simp; done) | (simp [*]; done), by repeat (first | exact Drawn0.refl _ | apply Drawn0.step)⟩

-- NOT PRINTED: function 28 (bailiwickref8_Open)

/-! ### bailiwickref1_Lay: function 46 -/
def bailiwickref1_Lay.l0 : Nat → List Int → Int → Int → Option (List Int)
  | 0, _, _, _ => none
  | k + 1, x0, x2, x7 => if x7 ≥ 0 then (if 0 ≤ (IntKind.u64.wrap (8 * (IntKind.u64.wrap (x7)))) then (if x0.length < 140737488355328 then (bailiwickref1_Lay.l0 k (x0 ++ [(shr .u64 x2 (IntKind.u64.wrap (8 * (IntKind.u64.wrap (x7))))) % 256]) x2 (wrap64 (x7 - 1))) else (none)) else (none)) else (some x0)
def bailiwickref1_Lay.f (k : Nat) (l0 : List Int) (a1 : Int) (a2 : Int) : Option (List Int) := bailiwickref1_Lay.l0 k l0 a2 (wrap64 (a1 - 1))
theorem bailiwickref1_Lay.mono_l : ∀ k, (∀ y0 y1 y2, LeO (bailiwickref1_Lay.l0 k y0 y1 y2) (bailiwickref1_Lay.l0 (k + 1) y0 y1 y2))
  | 0 => fun _ _ _ r h => by simp [bailiwickref1_Lay.l0] at h
  | k + 1 => by
    have ih0 := bailiwickref1_Lay.mono_l k
    · intro y0 y1 y2
      unfold bailiwickref1_Lay.l0
      repeat' first
      | (with_reducible exact ih0 _ _ _)
      | (with_reducible exact LeO.refl _)
      | (with_reducible exact LeO.none _)
      | (with_reducible refine LeO.ite ?_ ?_)
      | (with_reducible refine LeO.bind ?_ (fun _ => ?_))
      | exact ih0 _ _ _
      | exact LeO.none _
      | refine LeO.ite ?_ ?_
      | refine LeO.bind ?_ (fun _ => ?_)
theorem bailiwickref1_Lay.mono : ∀ a0 a1 a2 k, LeO (bailiwickref1_Lay.f k a0 a1 a2) (bailiwickref1_Lay.f (k + 1) a0 a1 a2) := by
  intro a0 a1 a2 k
  have ih0 := bailiwickref1_Lay.mono_l k
  unfold bailiwickref1_Lay.f
  repeat' first
      | (with_reducible exact ih0 _ _ _)
      | (with_reducible exact LeO.refl _)
      | (with_reducible exact LeO.none _)
      | (with_reducible refine LeO.ite ?_ ?_)
      | (with_reducible refine LeO.bind ?_ (fun _ => ?_))
      | exact ih0 _ _ _
      | exact LeO.none _
      | refine LeO.ite ?_ ?_
      | refine LeO.bind ?_ (fun _ => ?_)
set_option maxHeartbeats 8000000 in
set_option maxRecDepth 100000 in
theorem bailiwickref1_Lay.calls (k : Nat) (P0_ : Nat → Prop) (u9000_ : Value) (l0 : List Int) (a1 : Int) (a2 : Int) (r : List Int) (w0 w : World) (hB : Below w0.heap.size w0 w) (ho0 : Kd.R (Kd.int .u8) 5 w w0.heap.size P0_ u9000_ l0) (h : bailiwickref1_Lay.f k l0 a1 a2 = some r) :
    Calls Try.prog 46 #[u9000_, .int .i64 a1, .int .u64 a2] w fun e w' => ∃ v0_ : Value, e = .returned (v0_) ∧ Kd.R (Kd.int .u8) 5 w' w0.heap.size (fun k_ => (P0_ k_ ∨ w.heap.size ≤ k_)) v0_ r ∧ Below w0.heap.size w0 w' ∧ Kept w w' (fun k_ => P0_ k_) := by
  have HO0 := Aside0.mk (show Kd.R (Kd.int .u8) 5 w w0.heap.size (fun k_ => (P0_ k_ ∨ w.heap.size ≤ k_)) u9000_ l0 from Kd.R_mono ho0 (fun k_ hk => (.inl hk)))
  have HK := Aside0.mk (Kept.refl w (fun k_ => P0_ k_))
  have HW0 := Aside0.mk hB.size
  have HB := Aside0.mk hB
  clear hB
  have H : (bailiwickref1_Lay.l0 k l0 a2 (wrap64 (a1 - 1))) = some r := h
  clear h
  have H' := Aside0.mk H
  clear H
  go_enter Try.func46, Try.ntmps46
  go_wp2
  go_loopg [0, 7] k (fun kq v0 v7 w' => ∃ (x0_1 : List Int) (x7_1 : Int), v7 = .int .i64 x7_1 ∧ Aside0 (bailiwickref1_Lay.l0 kq x0_1 a2 x7_1 = some r) ∧ Aside0 (kq ≤ k) ∧ Aside0 (Kd.R (Kd.int .u8) 5 w' w0.heap.size (fun k_ => (P0_ k_ ∨ w.heap.size ≤ k_)) v0 x0_1) ∧ Aside0 (Kept w w' (fun k_ => P0_ k_)) ∧ Aside0 (Below w0.heap.size w0 w'))
  case atStart => exact ⟨(l0), (wrap64 (a1 - 1)), (by first | rfl | (simp; done) | (simp [*]; done)), H', ⟨Nat.le_refl _⟩, ⟨by (with_reducible repeat (first | apply Kd.R_alloc | apply Kd.R_drewN | apply Kd.R_drew)); exact HO0.out⟩, ⟨by repeat (first | (with_reducible first | exact HK.out | apply Kept.alloc | apply Kept.drewN | apply Kept.drew) | exact HK.out)⟩, ⟨by repeat (first | (with_reducible first | exact HB.out | apply below_alloc | apply pw_below_drewN | apply below_drew1) | exact HB.out)⟩⟩
  case round =>
    clear H'
    try clear p2
    obtain ⟨x0_1, x7_1, rfl, HA, HK1, HO_0, HK, HB⟩ := hrel
    cases gk with
    | zero => exact absurd HA.out (by simp [bailiwickref1_Lay.l0])
    | succ k1 =>
      have H := HA.out
      clear HA
      simp only [bailiwickref1_Lay.l0] at H
      by_cases c4 : x7_1 ≥ 0
      · rw [if_pos c4] at H
        have c4b0 : decide (0 ≤ x7_1) = true := decide_eq_true c4
        clear c4
        obtain ⟨ji5, hji5⟩ : ∃ j_ : Int, (IntKind.u64.wrap (8 * (IntKind.u64.wrap (x7_1)))) = j_ := ⟨_, rfl⟩
        replace H : (if 0 ≤ (ji5) then (if x0_1.length < 140737488355328 then (bailiwickref1_Lay.l0 k1 (x0_1 ++ [(shr .u64 a2 (ji5)) % 256]) a2 (wrap64 (x7_1 - 1))) else (none)) else (none)) = some r := by first | (rw [hji5] at H; exact H) | (simp only [hji5] at H ⊢; exact H)
        by_cases c6 : 0 ≤ (ji5)
        · rw [if_pos c6] at H
          have c6b0 := eq_true c6
          have c6b1 : decide (0 ≤ (ji5)) = true := decide_eq_true c6
          clear c6
          obtain ⟨ji7, hji7⟩ : ∃ j_ : Int, (shr .u64 a2 (ji5)) = j_ := ⟨_, rfl⟩
          replace H : (if x0_1.length < 140737488355328 then (bailiwickref1_Lay.l0 k1 (x0_1 ++ [(ji7) % 256]) a2 (wrap64 (x7_1 - 1))) else (none)) = some r := by first | (rw [hji7] at H; exact H) | (simp only [hji7] at H ⊢; exact H)
          have hji7_ : (a2 / 2 ^ min (ji5).toNat 64) = ji7 := hji7
          have hji7z : (ji5) ≤ 64 → (a2 / 2 ^ (ji5).toNat) = ji7 := shr_small hji7
          by_cases c8 : x0_1.length < 140737488355328
          · rw [if_pos c8] at H
            have LMc8 := Aside0.mk c8
            clear c8
            obtain ⟨y126, hy126⟩ : ∃ y_ : List Int, y_ = (x0_1 ++ [(ji7) % 256]) := ⟨_, rfl⟩
            replace H : (bailiwickref1_Lay.l0 k1 y126 a2 (wrap64 (x7_1 - 1))) = some r := by first | (rw [hy126]; with_reducible exact H) | (have H2_ := (Option.bind_some _ _).symm.trans H; rw [hy126]; with_reducible exact H2_) | (have H2_ := (Option.bind_some _ _).symm.trans H; with_reducible exact H2_) | with_reducible exact H | (rw [hy126]; exact H) | exact H
            have Ny126 := Aside0.mk hy126
            clear hy126
            have H' := Aside0.mk H
            clear H
            go_wp2_with (first | ((with_reducible refine gate_builtin (b := .append) (xs := #[.tmp 14, .tmp 21]) rfl ?_); at_builtin; refine Kd.R_append (Kd.int .u8) (w0 := w0) w0.heap.size rfl (.tmp 14) (.tmp 21) 23 5 (.int .u8 0) 1 rfl Try.underlying23 info5 rfl (by decide) (by omega) u0 x0_1 ((ji7) % 256) [.int .u8 ((ji7) % 256)] (fun k_ => (P0_ k_ ∨ w.heap.size ≤ k_)) (fun _ => False) rfl rfl ?aP (fun _ hk => hk.elim) ?aF ?aO ?aB ?aS ?aL ?_; (case aP => exact rfl); (case aB => exact (by repeat (first | (with_reducible first | exact HB.out | apply below_alloc | apply pw_below_drewN | apply below_drew1) | exact HB.out))); (case aF => exact (fun k_ hk => (.inr (Nat.le_trans (by first | exact HK.out.1 | exact (show Kept w _ (fun k_ => P0_ k_) from by repeat (first | (with_reducible first | exact HK.out | apply Kept.alloc | apply Kept.drewN | apply Kept.drew) | exact HK.out)).1) hk)))); (case aO => exact (by (with_reducible repeat (first | apply Kd.R_alloc | apply Kd.R_drewN | apply Kd.R_drew)); exact HO_0.out)); (case aS => exact (below_size (by repeat (first | (with_reducible first | exact HB.out | apply below_alloc | apply pw_below_drewN | apply below_drew1) | exact HB.out)))); (case aL => have := LMc8.out; omega); intro v127 w9 ho hb hg hat; rw [← Ny126.out] at ho; have n0_ := Aside0.mk (hb); have n1_ := Aside0.mk (Kept.of_grown (S := (fun k_ => P0_ k_)) hg (by repeat (first | (with_reducible first | exact HK.out | apply Kept.alloc | apply Kept.drewN | apply Kept.drew) | exact HK.out)) (fun k_ e_ => (HO_0.out.1 k_ e_))); have n2_ := Aside0.mk (ho); clear HB; clear HK; clear HO_0; have HB := n0_; have HK := n1_; have HO128 := n2_; clear n0_ n1_ n2_; clear ho hb hg hat))
            go_roundg k1
            case measure => have := HK1.out; omega
            case rel => exact ⟨(y126), (wrap64 (x7_1 - 1)), (by first | rfl | (simp; done) | (simp [*]; done)), H', ⟨by have := HK1.out; omega⟩, ⟨by (with_reducible repeat (first | apply Kd.R_alloc | apply Kd.R_drewN | apply Kd.R_drew)); exact HO128.out⟩, ⟨by repeat (first | (with_reducible first | exact HK.out | apply Kept.alloc | apply Kept.drewN | apply Kept.drew) | exact HK.out)⟩, ⟨by repeat (first | (with_reducible first | exact HB.out | apply below_alloc | apply pw_below_drewN | apply below_drew1) | exact HB.out)⟩⟩
          · rw [if_neg c8] at H
            exact absurd H (by simp)
        · rw [if_neg c6] at H
          exact absurd H (by simp)
      · rw [if_neg c4] at H
        have c4b0 : decide (0 ≤ x7_1) = false := decide_eq_false c4
        clear c4
        obtain rfl := Option.some.inj H
        go_wp2
        go_ret
        exact ⟨_, by first | rfl | (simp [errW_none, errW_some] <;> rfl) | (simp [*, errW_none, errW_some] <;> rfl), by (with_reducible repeat (first | apply Kd.R_alloc | apply Kd.R_drewN | apply Kd.R_drew)); exact HO_0.out, by repeat (first | (with_reducible first | exact HB.out | apply below_alloc | apply pw_below_drewN | apply below_drew1) | exact HB.out), by repeat (first | (with_reducible first | exact HK.out | apply Kept.alloc | apply Kept.drewN | apply Kept.drew) | exact HK.out)⟩

-- NOT PRINTED: function 17 (bailiwickref8_Frame)

/-! ### bailiwickref1_Copy: function 19 -/
def bailiwickref1_Copy.l0 : Nat → List Int → List Int → Int → Option (List Int)
  | 0, _, _, _ => none
  | k + 1, x0, x3, x4 => if x4 < (x0.length : Int) then (if 0 ≤ x4 then (if x3.length < 140737488355328 then (bailiwickref1_Copy.l0 k x0 (x3 ++ [rd x0 x4]) (wrap64 (x4 + 1))) else (none)) else (none)) else (some x3)
def bailiwickref1_Copy.f (k : Nat) (l0 : List Int) : Option (List Int) := bailiwickref1_Copy.l0 k l0 ([] : List Int) 0
theorem bailiwickref1_Copy.mono_l : ∀ k, (∀ y0 y1 y2, LeO (bailiwickref1_Copy.l0 k y0 y1 y2) (bailiwickref1_Copy.l0 (k + 1) y0 y1 y2))
  | 0 => fun _ _ _ r h => by simp [bailiwickref1_Copy.l0] at h
  | k + 1 => by
    have ih0 := bailiwickref1_Copy.mono_l k
    · intro y0 y1 y2
      unfold bailiwickref1_Copy.l0
      repeat' first
      | (with_reducible exact ih0 _ _ _)
      | (with_reducible exact LeO.refl _)
      | (with_reducible exact LeO.none _)
      | (with_reducible refine LeO.ite ?_ ?_)
      | (with_reducible refine LeO.bind ?_ (fun _ => ?_))
      | exact ih0 _ _ _
      | exact LeO.none _
      | refine LeO.ite ?_ ?_
      | refine LeO.bind ?_ (fun _ => ?_)
theorem bailiwickref1_Copy.mono : ∀ a0 k, LeO (bailiwickref1_Copy.f k a0) (bailiwickref1_Copy.f (k + 1) a0) := by
  intro a0 k
  have ih0 := bailiwickref1_Copy.mono_l k
  unfold bailiwickref1_Copy.f
  repeat' first
      | (with_reducible exact ih0 _ _ _)
      | (with_reducible exact LeO.refl _)
      | (with_reducible exact LeO.none _)
      | (with_reducible refine LeO.ite ?_ ?_)
      | (with_reducible refine LeO.bind ?_ (fun _ => ?_))
      | exact ih0 _ _ _
      | exact LeO.none _
      | refine LeO.ite ?_ ?_
      | refine LeO.bind ?_ (fun _ => ?_)
set_option maxHeartbeats 8000000 in
set_option maxRecDepth 100000 in
theorem bailiwickref1_Copy.calls (k : Nat) (A0 : Option Addr) (c0 : Nat) (l0 : List Int) (r : List Int) (w : World) (hr0 : Kd.C (Kd.int .u8) w A0 l0.length l0) (hc0 : l0.length ≤ c0) (h : bailiwickref1_Copy.f k l0 = some r) :
    Calls Try.prog 19 #[.slice A0 l0.length c0] w fun e w' => ∃ v0_ : Value, e = .returned (v0_) ∧ Kd.R (Kd.int .u8) 5 w' w.heap.size (fun _ => True) v0_ r ∧ Below w.heap.size w w' := by
  have HR0 := Aside0.mk hr0
  have HC0 := Aside0.mk hc0
  clear hr0 hc0
  have HB := Aside0.mk (Below.refl w.heap.size w)
  have H : (bailiwickref1_Copy.l0 k l0 ([] : List Int) 0) = some r := h
  clear h
  have H' := Aside0.mk H
  clear H
  go_enter Try.func19, Try.ntmps19
  go_wp2
  go_loopg [3, 4] k (fun kq v3 v4 w' => ∃ (x3_1 : List Int) (x4_1 : Int), v4 = .int .i64 x4_1 ∧ Aside0 (bailiwickref1_Copy.l0 kq l0 x3_1 x4_1 = some r) ∧ Aside0 (kq ≤ k) ∧ Aside0 (Kd.R (Kd.int .u8) 5 w' w.heap.size (fun _ => True) v3 x3_1) ∧ Aside0 (Below w.heap.size w w'))
  case atStart => exact ⟨(([] : List Int)), (0), (by first | rfl | (simp; done) | (simp [*]; done)), H', ⟨Nat.le_refl _⟩, ⟨by first | exact Kd.R_nil _ _ _ _ _ | exact Kd.N_nil _ _ _ _ _ | exact Kd.V_nil _ _ _ _ _ | exact Kd.Q_nil _ _ _ _ _ | exact Kd.S_nil _ _ _ _ _⟩, ⟨by repeat (first | (with_reducible first | exact HB.out | apply below_alloc | apply pw_below_drewN | apply below_drew1) | exact HB.out)⟩⟩
  case round =>
    clear H'
    try clear c1
    obtain ⟨x3_1, x4_1, rfl, HA, HK1, HO_3, HB⟩ := hrel
    cases gk with
    | zero => exact absurd HA.out (by simp [bailiwickref1_Copy.l0])
    | succ k1 =>
      have H := HA.out
      clear HA
      simp only [bailiwickref1_Copy.l0] at H
      by_cases c2 : x4_1 < (l0.length : Int)
      · rw [if_pos c2] at H
        have c2b0 : decide (x4_1 < (l0.length : Int)) = true := decide_eq_true c2
        clear c2
        by_cases c3 : 0 ≤ x4_1
        · rw [if_pos c3] at H
          have c3b0 : decide (0 ≤ x4_1) = true := decide_eq_true c3
          clear c3
          by_cases c4 : x3_1.length < 140737488355328
          · rw [if_pos c4] at H
            have LMc4 := Aside0.mk c4
            clear c4
            obtain ⟨y137, hy137⟩ : ∃ y_ : List Int, y_ = (x3_1 ++ [rd l0 x4_1]) := ⟨_, rfl⟩
            replace H : (bailiwickref1_Copy.l0 k1 l0 y137 (wrap64 (x4_1 + 1))) = some r := by first | (rw [hy137]; with_reducible exact H) | (have H2_ := (Option.bind_some _ _).symm.trans H; rw [hy137]; with_reducible exact H2_) | (have H2_ := (Option.bind_some _ _).symm.trans H; with_reducible exact H2_) | with_reducible exact H | (rw [hy137]; exact H) | exact H
            have Ny137 := Aside0.mk hy137
            clear hy137
            have H' := Aside0.mk H
            clear H
            have p136 : 0 ≤ (x4_1 : Int) := of_decide_eq_true (by first | (with_reducible assumption) | assumption)
            have q136 : x4_1 < (l0.length : Int) := of_decide_eq_true (by first | (with_reducible assumption) | assumption)
            obtain ⟨ad136, e136, hx136_0⟩ := Kd.at_int HR0.out x4_1 p136 q136
            cases e136
            replace hx136_0 := (HB.out.cell (World.block_lt_of_cell? w _ hx136_0)).trans hx136_0
            replace p136 := eq_true p136
            replace q136 := eq_true q136
            go_wp2_with (first | ((with_reducible refine gate_builtin (b := .append) (xs := #[.tmp 11, .tmp 16]) rfl ?_); at_builtin; refine Kd.R_append (Kd.int .u8) (w0 := w) w.heap.size rfl (.tmp 11) (.tmp 16) 23 5 (.int .u8 0) 1 rfl Try.underlying23 info5 rfl (by decide) (by omega) u3 x3_1 (rd l0 x4_1) [.int .u8 (rd l0 x4_1)] (fun _ => True) (fun _ => False) rfl rfl ?aP (fun _ hk => hk.elim) ?aF ?aO ?aB ?aS ?aL ?_; (case aP => exact rfl); (case aB => exact (by repeat (first | (with_reducible first | exact HB.out | apply below_alloc | apply pw_below_drewN | apply below_drew1) | exact HB.out))); (case aF => exact (fun _ _ => trivial)); (case aO => exact (by (with_reducible repeat (first | apply Kd.R_alloc | apply Kd.R_drewN | apply Kd.R_drew)); exact HO_3.out)); (case aS => exact (below_size (by repeat (first | (with_reducible first | exact HB.out | apply below_alloc | apply pw_below_drewN | apply below_drew1) | exact HB.out)))); (case aL => have := LMc4.out; omega); intro v138 w5 ho hb hg hat; rw [← Ny137.out] at ho; have n0_ := Aside0.mk (hb); have n1_ := Aside0.mk (ho); clear HB; clear HO_3; have HB := n0_; have HO139 := n1_; clear n0_ n1_; clear ho hb hg hat))
            go_roundg k1
            case measure => have := HK1.out; omega
            case rel => exact ⟨(y137), (wrap64 (x4_1 + 1)), (by first | rfl | (simp; done) | (simp [*]; done)), H', ⟨by have := HK1.out; omega⟩, ⟨by (with_reducible repeat (first | apply Kd.R_alloc | apply Kd.R_drewN | apply Kd.R_drew)); exact HO139.out⟩, ⟨by repeat (first | (with_reducible first | exact HB.out | apply below_alloc | apply pw_below_drewN | apply below_drew1) | exact HB.out)⟩⟩
          · rw [if_neg c4] at H
            exact absurd H (by simp)
        · rw [if_neg c3] at H
          exact absurd H (by simp)
      · rw [if_neg c2] at H
        have c2b0 : decide (x4_1 < (l0.length : Int)) = false := decide_eq_false c2
        clear c2
        obtain rfl := Option.some.inj H
        go_wp2
        go_ret
        exact ⟨_, by first | rfl | (simp [errW_none, errW_some] <;> rfl) | (simp [*, errW_none, errW_some] <;> rfl), by (with_reducible repeat (first | apply Kd.R_alloc | apply Kd.R_drewN | apply Kd.R_drew)); exact HO_3.out, by repeat (first | (with_reducible first | exact HB.out | apply below_alloc | apply pw_below_drewN | apply below_drew1) | exact HB.out)⟩

-- NOT PRINTED: function 55 (bailiwickref8_Strand_next)

-- NOT PRINTED: function 66 (bailiwickref7_Disk_take)

-- NOT PRINTED: function 56 (bailiwickref7_Disk_Write)

-- NOT PRINTED: function 29 (bailiwickref8_Strand_Append)

-- NOT PRINTED: function 57 (bailiwickref7_Disk_Sync)

-- NOT PRINTED: function 30 (bailiwickref8_Strand_Sync)

-- NOT PRINTED: function 31 (bailiwickref7_Disk_Add)

-- NOT PRINTED: function 32 (bailiwickref7_Disk_Crash)

/-! ### bailiwickref1_Same: function 16 -/
def bailiwickref1_Same.l0 : Nat → List Int → List Int → Int → Option (Bool)
  | 0, _, _, _ => none
  | k + 1, x0, x1, x5 => if x5 < (x0.length : Int) then (if 0 ≤ x5 then (if x5 < (x1.length : Int) then (if (rd x0 x5) = (rd x1 x5) then (bailiwickref1_Same.l0 k x0 x1 (wrap64 (x5 + 1))) else (some false)) else (none)) else (none)) else (some true)
def bailiwickref1_Same.f (k : Nat) (l0 : List Int) (l1 : List Int) : Option (Bool) := if (l0.length : Int) = (l1.length : Int) then (bailiwickref1_Same.l0 k l0 l1 0) else (some false)
theorem bailiwickref1_Same.mono_l : ∀ k, (∀ y0 y1 y2, LeO (bailiwickref1_Same.l0 k y0 y1 y2) (bailiwickref1_Same.l0 (k + 1) y0 y1 y2))
  | 0 => fun _ _ _ r h => by simp [bailiwickref1_Same.l0] at h
  | k + 1 => by
    have ih0 := bailiwickref1_Same.mono_l k
    · intro y0 y1 y2
      unfold bailiwickref1_Same.l0
      repeat' first
      | (with_reducible exact ih0 _ _ _)
      | (with_reducible exact LeO.refl _)
      | (with_reducible exact LeO.none _)
      | (with_reducible refine LeO.ite ?_ ?_)
      | (with_reducible refine LeO.bind ?_ (fun _ => ?_))
      | exact ih0 _ _ _
      | exact LeO.none _
      | refine LeO.ite ?_ ?_
      | refine LeO.bind ?_ (fun _ => ?_)
theorem bailiwickref1_Same.mono : ∀ a0 a1 k, LeO (bailiwickref1_Same.f k a0 a1) (bailiwickref1_Same.f (k + 1) a0 a1) := by
  intro a0 a1 k
  have ih0 := bailiwickref1_Same.mono_l k
  unfold bailiwickref1_Same.f
  repeat' first
      | (with_reducible exact ih0 _ _ _)
      | (with_reducible exact LeO.refl _)
      | (with_reducible exact LeO.none _)
      | (with_reducible refine LeO.ite ?_ ?_)
      | (with_reducible refine LeO.bind ?_ (fun _ => ?_))
      | exact ih0 _ _ _
      | exact LeO.none _
      | refine LeO.ite ?_ ?_
      | refine LeO.bind ?_ (fun _ => ?_)
set_option maxHeartbeats 8000000 in
set_option maxRecDepth 100000 in
theorem bailiwickref1_Same.calls (k : Nat) (A0 : Option Addr) (c0 : Nat) (l0 : List Int) (A1 : Option Addr) (c1 : Nat) (l1 : List Int) (r : Bool) (w : World) (hr0 : Kd.C (Kd.int .u8) w A0 l0.length l0) (hc0 : l0.length ≤ c0) (hr1 : Kd.C (Kd.int .u8) w A1 l1.length l1) (hc1 : l1.length ≤ c1) (h : bailiwickref1_Same.f k l0 l1 = some r) :
    Calls Try.prog 16 #[.slice A0 l0.length c0, .slice A1 l1.length c1] w fun e w' => e = .returned (.bool r) ∧ Drawn0 w w' := by
  have HR0 := Aside0.mk hr0
  have HC0 := Aside0.mk hc0
  clear hr0 hc0
  have HR1 := Aside0.mk hr1
  have HC1 := Aside0.mk hc1
  clear hr1 hc1
  have H : (if (l0.length : Int) = (l1.length : Int) then (bailiwickref1_Same.l0 k l0 l1 0) else (some false)) = some r := h
  clear h
  by_cases c3 : (l0.length : Int) = (l1.length : Int)
  · rw [if_pos c3] at H
    have c3b0 : ((l0.length : Int) == (l1.length : Int)) = true := beq_iff_eq.mpr c3
    have c3b1 : ((l0.length : Int) != (l1.length : Int)) = false := bne_eq_false_iff_eq.mpr c3
    have c3b2 : (l0.length == l1.length) = true := by first | simpa using c3 | (simp at c3 ⊢; omega)
    clear c3
    have H' := Aside0.mk H
    clear H
    go_enter Try.func16, Try.ntmps16
    go_wp2
    repeat (go_quiet (fail); try go_wp2)
    go_loopg [5] k (fun kq v5 w' => ∃ (x5_1 : Int), v5 = .int .i64 x5_1 ∧ Aside0 (bailiwickref1_Same.l0 kq l0 l1 x5_1 = some r) ∧ Aside0 (kq ≤ k) ∧ Drawn0 w w')
    case atStart => exact ⟨(0), (by first | rfl | (simp; done) | (simp [*]; done)), H', ⟨Nat.le_refl _⟩, by repeat (first | exact Drawn0.refl _ | apply Drawn0.step)⟩
    case round =>
      clear H'
      try clear c1
      try clear p2
      try clear c3
      try clear c3b0
      try clear c3b1
      try clear c3b2
      obtain ⟨x5_1, rfl, HA, HK1, ⟨m1, rfl⟩⟩ := hrel
      cases gk with
      | zero => exact absurd HA.out (by simp [bailiwickref1_Same.l0])
      | succ k1 =>
        have H := HA.out
        clear HA
        simp only [bailiwickref1_Same.l0] at H
        by_cases c4 : x5_1 < (l0.length : Int)
        · rw [if_pos c4] at H
          have c4b0 : decide (x5_1 < (l0.length : Int)) = true := decide_eq_true c4
          clear c4
          by_cases c5 : 0 ≤ x5_1
          · rw [if_pos c5] at H
            have c5b0 : decide (0 ≤ x5_1) = true := decide_eq_true c5
            clear c5
            by_cases c6 : x5_1 < (l1.length : Int)
            · rw [if_pos c6] at H
              have c6b0 : decide (x5_1 < (l1.length : Int)) = true := decide_eq_true c6
              clear c6
              by_cases c7 : (rd l0 x5_1) = (rd l1 x5_1)
              · rw [if_pos c7] at H
                have c7b0 : ((rd l0 x5_1) == (rd l1 x5_1)) = true := beq_iff_eq.mpr c7
                have c7b1 : ((rd l0 x5_1) != (rd l1 x5_1)) = false := bne_eq_false_iff_eq.mpr c7
                clear c7
                have H' := Aside0.mk H
                clear H
                have p142 : 0 ≤ (x5_1 : Int) := of_decide_eq_true (by first | (with_reducible assumption) | assumption)
                have q142 : x5_1 < (l0.length : Int) := of_decide_eq_true (by first | (with_reducible assumption) | assumption)
                obtain ⟨ad142, e142, hx142_0⟩ := Kd.at_int HR0.out x5_1 p142 q142
                cases e142
                replace p142 := eq_true p142
                replace q142 := eq_true q142
                have p143 : 0 ≤ (x5_1 : Int) := of_decide_eq_true (by first | (with_reducible assumption) | assumption)
                have q143 : x5_1 < (l1.length : Int) := of_decide_eq_true (by first | (with_reducible assumption) | assumption)
                obtain ⟨ad143, e143, hx143_0⟩ := Kd.at_int HR1.out x5_1 p143 q143
                cases e143
                replace p143 := eq_true p143
                replace q143 := eq_true q143
                go_wp2
                repeat (go_quiet (fail); try go_wp2)
                go_roundg k1
                case measure => have := HK1.out; omega
                case rel => exact ⟨(wrap64 (x5_1 + 1)), (by first | rfl | (simp; done) | (simp [*]; done)), H', ⟨by have := HK1.out; omega⟩, by repeat (first | exact Drawn0.refl _ | apply Drawn0.step)⟩
              · rw [if_neg c7] at H
                have c7b0 : ((rd l0 x5_1) == (rd l1 x5_1)) = false := beq_eq_false_iff_ne.mpr c7
                have c7b1 : ((rd l0 x5_1) != (rd l1 x5_1)) = true := bne_iff_ne.mpr c7
                obtain rfl := Option.some.inj H
                have p142 : 0 ≤ (x5_1 : Int) := of_decide_eq_true (by first | (with_reducible assumption) | assumption)
                have q142 : x5_1 < (l0.length : Int) := of_decide_eq_true (by first | (with_reducible assumption) | assumption)
                obtain ⟨ad142, e142, hx142_0⟩ := Kd.at_int HR0.out x5_1 p142 q142
                cases e142
                replace p142 := eq_true p142
                replace q142 := eq_true q142
                have p143 : 0 ≤ (x5_1 : Int) := of_decide_eq_true (by first | (with_reducible assumption) | assumption)
                have q143 : x5_1 < (l1.length : Int) := of_decide_eq_true (by first | (with_reducible assumption) | assumption)
                obtain ⟨ad143, e143, hx143_0⟩ := Kd.at_int HR1.out x5_1 p143 q143
                cases e143
                replace p143 := eq_true p143
                replace q143 := eq_true q143
                go_wp2
                repeat (go_quiet (fail); try go_wp2)
                go_ret
                exact ⟨by first | rfl | (simp; done) | (simp [*]; done), by repeat (first | exact Drawn0.refl _ | apply Drawn0.step)⟩
            · rw [if_neg c6] at H
              exact absurd H (by simp)
          · rw [if_neg c5] at H
            exact absurd H (by simp)
        · rw [if_neg c4] at H
          have c4b0 : decide (x5_1 < (l0.length : Int)) = false := decide_eq_false c4
          clear c4
          obtain rfl := Option.some.inj H
          go_wp2
          repeat (go_quiet (fail); try go_wp2)
          go_ret
          exact ⟨by first | rfl | (simp; done) | (simp [*]; done), by repeat (first | exact Drawn0.refl _ | apply Drawn0.step)⟩
  · rw [if_neg c3] at H
    have c3b0 : ((l0.length : Int) == (l1.length : Int)) = false := beq_eq_false_iff_ne.mpr c3
    have c3b1 : ((l0.length : Int) != (l1.length : Int)) = true := bne_iff_ne.mpr c3
    have c3b2 : (l0.length == l1.length) = false := by first | simpa using c3 | (simp at c3 ⊢; omega)
    obtain rfl := Option.some.inj H
    go_enter Try.func16, Try.ntmps16
    go_wp2
    repeat (go_quiet (fail); try go_wp2)
    go_ret
    exact ⟨by first | rfl | (simp; done) | (simp [*]; done), by repeat (first | exact Drawn0.refl _ | apply Drawn0.step)⟩

end Go.Proofs.Ytldddinebhopcaa.PStrandPlays
