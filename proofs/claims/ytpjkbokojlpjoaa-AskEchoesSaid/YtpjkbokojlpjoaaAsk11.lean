/- ask: the reader's block, field by field; get, size, long. -/
import Derived.Test.YtpjkbokojlpjoaaAsk10
namespace Go.Proofs.Ytpjkbokojlpjoaa.Ak
open Go.RowKit Go.Proofs.YtpjkbokojlpjoaaW.PrintWords Go.Proofs.YtpjkbokojlpjoaaW.PrintLast Go.Proofs.YtpjkbokojlpjoaaW.PrintMore Go.Proofs.Ytpjkbokojlpjoaa.Bs Go.Proofs.Ytpjkbokojlpjoaa.Fr Go.Proofs.Ytpjkbokojlpjoaa.Oct
set_option linter.unusedVariables false
set_option linter.unusedSimpArgs false

section
variable {w : World} {g : Nat} {t : TypeId} {p x y q : List Value}
/-- Some cells in the midst of a block are laid. -/
theorem mid3 (hb : w.heap[g]? = some (.cells (p ++ (x ++ q)).toArray t (0, 0))) (o : Nat) (ho : p.length = o) (hx : x.length = y.length) :
    (w.setCells g o y).heap[g]? = some (.cells (p ++ (y ++ q)).toArray t (0, 0)) := by
  obtain ⟨cur, h1, h2, h3⟩ := setCells_row y o w _ hb (by simp; omega)
  rw [h1]
  have : cur = (p ++ (y ++ q)).toArray := by
    apply Array.ext'
    rw [h3]
    show (p ++ (x ++ q)).take o ++ y ++ (p ++ (x ++ q)).drop (o + y.length) = p ++ (y ++ q)
    rw [List.take_left' ho, ← List.append_assoc p x q, List.drop_left' (by rw [List.length_append]; omega), List.append_assoc]
  rw [this]
theorem mid1 {u v : Value} (hb : w.heap[g]? = some (.cells (p ++ (u :: q)).toArray t (0, 0))) (o : Nat) (ho : p.length = o) :
    (w.setCell ⟨g, o, none⟩ v).heap[g]? = some (.cells (p ++ (v :: q)).toArray t (0, 0)) := by
  have h := blk_set hb o v
  rw [List.setIfInBounds_toArray] at h
  rw [h]
  subst ho
  simp
theorem cell1 {u : Value} (hb : w.heap[g]? = some (.cells (p ++ (u :: q)).toArray t (0, 0))) (o : Nat) (ho : p.length = o) : w.cell? ⟨g, o, none⟩ = some u := by
  rw [blk_cell hb o]
  subst ho
  simp
theorem range3 (hb : w.heap[g]? = some (.cells (p ++ (x ++ q)).toArray t (0, 0))) (o : Nat) (ho : p.length = o) : w.rangeAt g o x := fun j v hv => by
  have hj : j < x.length := (List.getElem?_eq_some_iff.1 hv).1
  rw [blk_cell hb (o + j)]
  subst ho
  rw [List.getElem?_toArray, List.getElem?_append_right (by omega), show p.length + j - p.length = j by omega, List.getElem?_append_left hj]
  exact hv
end
abbrev e8 (l : List Int) : List Value := encs (Value.int .u8) l
/-- The cells ahead of each field. -/
def pLife (s : Value) (m : AM) : List Value := [s, .int .i64 m.op]
def pCl (s : Value) (m : AM) : List Value := [s, .int .i64 m.op, .int .u32 m.life]
def pNo (s : Value) (m : AM) : List Value := pCl s m ++ e8 m.cl
def pPr (s : Value) (m : AM) : List Value := pNo s m ++ e8 m.no
def pPo (s : Value) (m : AM) : List Value := pPr s m ++ [.int .i64 m.pr]
def pWp (s : Value) (m : AM) : List Value := pPo s m ++ [.int .i64 m.po]
def pWa (s : Value) (m : AM) : List Value := pWp s m ++ [.int .i64 m.wp]
def pFp (s : Value) (m : AM) : List Value := pWa s m ++ e8 m.wa
def pFa (s : Value) (m : AM) : List Value := pFp s m ++ [.int .i64 m.fp]
def pOs (s : Value) (m : AM) : List Value := pFa s m ++ e8 m.fa
def qOs (m : AM) : List Value := []
def qFa (m : AM) : List Value := [m.os]
def qFp (m : AM) : List Value := e8 m.fa ++ qFa m
def qWa (m : AM) : List Value := .int .i64 m.fp :: qFp m
def qWp (m : AM) : List Value := e8 m.wa ++ qWa m
def qPo (m : AM) : List Value := .int .i64 m.wp :: qWp m
def qPr (m : AM) : List Value := .int .i64 m.po :: qPo m
def qNo (m : AM) : List Value := .int .i64 m.pr :: qPr m
def qCl (m : AM) : List Value := e8 m.no ++ qNo m
def qLife (m : AM) : List Value := e8 m.cl ++ qCl m
def allC (s : Value) (m : AM) : List Value := s :: m.cells
theorem c_life (s : Value) (m : AM) : allC s m = pLife s m ++ (.int .u32 m.life :: qLife m) := rfl
theorem c_cl (s : Value) (m : AM) : allC s m = pCl s m ++ (e8 m.cl ++ qCl m) := rfl
theorem c_no (s : Value) (m : AM) : allC s m = pNo s m ++ (e8 m.no ++ qNo m) := by unfold pNo; rw [c_cl, List.append_assoc]; rfl
theorem c_pr (s : Value) (m : AM) : allC s m = pPr s m ++ (.int .i64 m.pr :: qPr m) := by unfold pPr; rw [c_no, List.append_assoc]; rfl
theorem c_po (s : Value) (m : AM) : allC s m = pPo s m ++ (.int .i64 m.po :: qPo m) := by unfold pPo; rw [c_pr, List.append_assoc]; rfl
theorem c_wp (s : Value) (m : AM) : allC s m = pWp s m ++ (.int .i64 m.wp :: qWp m) := by unfold pWp; rw [c_po, List.append_assoc]; rfl
theorem c_wa (s : Value) (m : AM) : allC s m = pWa s m ++ (e8 m.wa ++ qWa m) := by unfold pWa; rw [c_wp, List.append_assoc]; rfl
theorem c_fp (s : Value) (m : AM) : allC s m = pFp s m ++ (.int .i64 m.fp :: qFp m) := by unfold pFp; rw [c_wa, List.append_assoc]; rfl
theorem c_fa (s : Value) (m : AM) : allC s m = pFa s m ++ (e8 m.fa ++ qFa m) := by unfold pFa; rw [c_fp, List.append_assoc]; rfl
theorem c_os (s : Value) (m : AM) : allC s m = pOs s m ++ (m.os :: qOs m) := by unfold pOs; rw [c_fa, List.append_assoc]; rfl
section
theorem l_no {m : AM} (h : m.ok) (s : Value) : (pNo s m).length = 19 := by unfold pNo pCl; simp [encs_length, h.cl]
theorem l_pr {m : AM} (h : m.ok) (s : Value) : (pPr s m).length = 31 := by unfold pPr; rw [List.length_append, l_no h]; simp [encs_length, h.no]
theorem l_po {m : AM} (h : m.ok) (s : Value) : (pPo s m).length = 32 := by unfold pPo; rw [List.length_append, l_pr h]; rfl
theorem l_wp {m : AM} (h : m.ok) (s : Value) : (pWp s m).length = 33 := by unfold pWp; rw [List.length_append, l_po h]; rfl
theorem l_wa {m : AM} (h : m.ok) (s : Value) : (pWa s m).length = 34 := by unfold pWa; rw [List.length_append, l_wp h]; rfl
theorem l_fp {m : AM} (h : m.ok) (s : Value) : (pFp s m).length = 50 := by unfold pFp; rw [List.length_append, l_wa h]; simp [encs_length, h.wa]
theorem l_fa {m : AM} (h : m.ok) (s : Value) : (pFa s m).length = 51 := by unfold pFa; rw [List.length_append, l_fp h]; rfl
theorem l_os {m : AM} (h : m.ok) (s : Value) : (pOs s m).length = 67 := by unfold pOs; rw [List.length_append, l_fa h]; simp [encs_length, h.fa]
end
section
variable {w : World} {g : Nat} {A : Option Addr} {n c : Nat} {m : AM}
theorem RB.mk' (h : w.heap[g]? = some (Obj.cells (allC (.slice A n c) m).toArray 52 (0, 0))) : RB w g A n c m := h
theorem RB.cells (h : RB w g A n c m) : w.heap[g]? = some (.cells (allC (.slice A n c) m).toArray 52 (0, 0)) := h
theorem RB.op_ (h : RB w g A n c m) (x : Int) : RB (w.setCell ⟨g, 1, none⟩ (.int .i64 x)) g A n c { m with op := x } := by
  have h' := h.cells; exact mid1 (p := [.slice A n c]) (u := .int .i64 m.op) (q := .int .u32 m.life :: qLife m) h' 1 rfl
theorem RB.life_ (h : RB w g A n c m) (x : Int) : RB (w.setCell ⟨g, 2, none⟩ (.int .u32 x)) g A n c { m with life := x } := by
  have h' := h.cells; rw [c_life] at h'; exact mid1 h' 2 rfl
theorem RB.cl_ (h : RB w g A n c m) (hm : m.ok) (x : List Int) (hx : x.length = 16) : RB (w.setCells g 3 (e8 x)) g A n c { m with cl := x } := by
  have h' := h.cells; rw [c_cl] at h'; exact mid3 h' 3 rfl (by rw [encs_length, encs_length, hm.cl, hx])
theorem RB.no_ (h : RB w g A n c m) (hm : m.ok) (x : List Int) (hx : x.length = 12) : RB (w.setCells g 19 (e8 x)) g A n c { m with no := x } := by
  have h' := h.cells; rw [c_no] at h'
  have h2 := mid3 (y := e8 x) h' 19 (l_no hm _) (by rw [encs_length, encs_length, hm.no, hx])
  refine RB.mk' ?_; rw [c_no]; exact h2
theorem RB.pr_ (h : RB w g A n c m) (hm : m.ok) (x : Int) : RB (w.setCell ⟨g, 31, none⟩ (.int .i64 x)) g A n c { m with pr := x } := by
  have h' := h.cells; rw [c_pr] at h'
  have h2 := mid1 (v := .int .i64 x) h' 31 (l_pr hm _)
  refine RB.mk' ?_; rw [c_pr]; exact h2
theorem RB.po_ (h : RB w g A n c m) (hm : m.ok) (x : Int) : RB (w.setCell ⟨g, 32, none⟩ (.int .i64 x)) g A n c { m with po := x } := by
  have h' := h.cells; rw [c_po] at h'
  have h2 := mid1 (v := .int .i64 x) h' 32 (l_po hm _)
  refine RB.mk' ?_; rw [c_po]; exact h2
theorem RB.wp_ (h : RB w g A n c m) (hm : m.ok) (x : Int) : RB (w.setCell ⟨g, 33, none⟩ (.int .i64 x)) g A n c { m with wp := x } := by
  have h' := h.cells; rw [c_wp] at h'
  have h2 := mid1 (v := .int .i64 x) h' 33 (l_wp hm _)
  refine RB.mk' ?_; rw [c_wp]; exact h2
theorem RB.wa_ (h : RB w g A n c m) (hm : m.ok) (x : List Int) (hx : x.length = 16) : RB (w.setCells g 34 (e8 x)) g A n c { m with wa := x } := by
  have h' := h.cells; rw [c_wa] at h'
  have h2 := mid3 (y := e8 x) h' 34 (l_wa hm _) (by rw [encs_length, encs_length, hm.wa, hx])
  refine RB.mk' ?_; rw [c_wa]; exact h2
theorem RB.fp_ (h : RB w g A n c m) (hm : m.ok) (x : Int) : RB (w.setCell ⟨g, 50, none⟩ (.int .i64 x)) g A n c { m with fp := x } := by
  have h' := h.cells; rw [c_fp] at h'
  have h2 := mid1 (v := .int .i64 x) h' 50 (l_fp hm _)
  refine RB.mk' ?_; rw [c_fp]; exact h2
theorem RB.fa_ (h : RB w g A n c m) (hm : m.ok) (x : List Int) (hx : x.length = 16) : RB (w.setCells g 51 (e8 x)) g A n c { m with fa := x } := by
  have h' := h.cells; rw [c_fa] at h'
  have h2 := mid3 (y := e8 x) h' 51 (l_fa hm _) (by rw [encs_length, encs_length, hm.fa, hx])
  refine RB.mk' ?_; rw [c_fa]; exact h2
theorem RB.os_ (h : RB w g A n c m) (hm : m.ok) (x : Value) : RB (w.setCell ⟨g, 67, none⟩ x) g A n c { m with os := x } := by
  have h' := h.cells; rw [c_os] at h'
  have h2 := mid1 (v := x) h' 67 (l_os hm _)
  refine RB.mk' ?_; rw [c_os]; exact h2
theorem RB.kop (h : RB w g A n c m) : w.cell? ⟨g, 1, none⟩ = some (.int .i64 m.op) := by rw [blk_cell h 1]; rfl
theorem RB.kos (h : RB w g A n c m) (hm : m.ok) : w.cell? ⟨g, 67, none⟩ = some m.os := by
  have h' := h.cells; rw [c_os] at h'; exact cell1 h' 67 (l_os hm _)
theorem RB.rcl (h : RB w g A n c m) : w.rangeAt g 3 (e8 m.cl) := by have h' := h.cells; rw [c_cl] at h'; exact range3 h' 3 rfl
theorem RB.rall (h : RB w g A n c m) : w.rangeAt g 1 m.cells := range_part h
theorem RB.there (h : RB w g A n c m) (hm : m.ok) (o k : Nat) (hk : o + k ≤ 68) : w.there g o k := there_blk h o k (by rw [List.size_toArray, List.length_cons, AM.len hm]; omega)
theorem RB.fz (h : RB w g A n c m) (o : Nat) : w.frozen? ⟨g, o, none⟩ = false := blk_frozen h _
theorem RB.ksome (h : RB w g A n c m) (hm : m.ok) (o : Nat) (ho : o < 68) : (w.cell? ⟨g, o, none⟩).isSome = true := by
  rw [blk_cell h o, List.getElem?_toArray, List.getElem?_eq_getElem (by rw [List.length_cons, AM.len hm]; omega)]; rfl
theorem RB.fr {w' : World} (h : RB w g A n c m) {F : Nat → Prop} (k : Fr w w' F) (hF : ¬ F g) : RB w' g A n c m := k.blk h hF
theorem RB.below {w' : World} (h : RB w g A n c m) (k : Below w.heap.size w w') : RB w' g A n c m := blk_below h k
end
theorem RB.k2 {w : World} {g : Nat} {A : Option Addr} {n c : Nat} {m : AM} (h : RB w g A n c m) : w.cell? ⟨g, 2, none⟩ = some (.int .u32 m.life) := by rw [blk_cell h 2]; rfl
theorem kk {w : World} {g : Nat} {A : Option Addr} {n c : Nat} {m : AM} (h : RB w g A n c m) (hm : m.ok) :
    w.cell? ⟨g, 31, none⟩ = some (.int .i64 m.pr) ∧ w.cell? ⟨g, 32, none⟩ = some (.int .i64 m.po) ∧ w.cell? ⟨g, 33, none⟩ = some (.int .i64 m.wp) ∧ w.cell? ⟨g, 50, none⟩ = some (.int .i64 m.fp) := by
  have h' := h.cells
  refine ⟨?_, ?_, ?_, ?_⟩
  · rw [c_pr] at h'; exact cell1 h' 31 (l_pr hm _)
  · rw [c_po] at h'; exact cell1 h' 32 (l_po hm _)
  · rw [c_wp] at h'; exact cell1 h' 33 (l_wp hm _)
  · rw [c_fp] at h'; exact cell1 h' 50 (l_fp hm _)

/-! ### get, size, long -/
theorem getV_bound (b : List Int) (hB : Byt b) (at_ n : Int) (hn : n ≤ 4) : 0 ≤ getV b at_ n ∧ getV b at_ n < 4294967296 := by
  unfold getV
  split
  · rename_i h
    unfold mayB at h
    have h := of_decide_eq_true h
    have h1 := beN_range ((hB.drop at_.toNat).take n.toNat)
    have h2 : ((b.drop at_.toNat).take n.toNat).length ≤ 4 := by rw [List.length_take]; omega
    refine ⟨h1.1, Int.lt_of_lt_of_le h1.2 ?_⟩
    generalize ((b.drop at_.toNat).take n.toNat).length = k at h2
    have : k = 0 ∨ k = 1 ∨ k = 2 ∨ k = 3 ∨ k = 4 := by omega
    rcases this with rfl | rfl | rfl | rfl | rfl <;> decide
  · decide
set_option maxHeartbeats 1000000 in
set_option maxRecDepth 100000 in
theorem get_calls (g : Nat) (A : Option Addr) (c : Nat) (m : AM) (b : List Int) (at_ n : Int) (hn : n ≤ 4) (w : World) (h : RB w g A b.length c m) (hC : Kd.C (Kd.int .u8) w A b.length b) (hc : b.length ≤ c) (hm : b.length ≤ 1000000) (hB : Byt b) :
    Calls Try.prog 37 #[.pointer (some ⟨g, 0, none⟩), .int .i64 at_, .int .i64 n] w fun e w' => e = .returned (.int .i64 (getV b at_ n)) ∧ w' = w := by
  have k0 := h.k0
  have HV := getV_bound b hB at_ n hn
  have HW : Aside0 (wrap64 (getV b at_ n) = getV b at_ n) := ⟨by unfold wrap64; omega⟩
  have HC := Aside0.mk hC
  have HB := Aside0.mk hB
  have HM := Aside0.mk hm
  have HCC := Aside0.mk hc
  clear hC hB h HV hm hc
  go_enter Try.func37, Try.ntmps37
  go_wp2_with fail
  refine (Get_calls A c b at_ n w HC.out HCC.out (by have := HM.out; omega) HB.out).mono ?_
  rintro e w' ⟨rfl, rfl⟩
  obtain ⟨x, hx⟩ : ∃ x, getV b at_ n = x := ⟨_, rfl⟩
  have HX := Aside0.mk hx
  rw [hx] at HW ⊢
  clear hx
  go_wp2
  go_ret
  exact ⟨by rw [HX.out]; show Ending.returned (.int .i64 (wrap64 x)) = _; rw [HW.out], rfl⟩
def sizeM (op : Int) : Int × Bool := if op = 0 then (0, true) else if op = 1 then (36, true) else if op = 2 then (56, true) else (0, false)
theorem size_calls (op : Int) (w : World) : Calls Try.prog 38 #[.int .i64 op] w fun e w' => e = .returned (.tuple #[.int .i64 (sizeM op).1, .bool (sizeM op).2]) ∧ w' = w := by
  by_cases h0 : op = 0
  · subst h0
    go_enter Try.func38, Try.ntmps38
    go_wp2
    go_ret2
    exact ⟨rfl, rfl⟩
  · by_cases h1 : op = 1
    · subst h1
      go_enter Try.func38, Try.ntmps38
      go_wp2
      go_ret2
      exact ⟨rfl, rfl⟩
    · by_cases h2 : op = 2
      · subst h2
        go_enter Try.func38, Try.ntmps38
        go_wp2
        go_ret2
        exact ⟨rfl, rfl⟩
      · have HS : Aside0 (sizeM op = (0, false)) := ⟨by unfold sizeM; rw [if_neg h0, if_neg h1, if_neg h2]⟩
        have b0 : (op == 0) = false := by simpa using h0
        have b1 : (op == 1) = false := by simpa using h1
        have b2 : (op == 2) = false := by simpa using h2
        clear h0 h1 h2
        go_enter Try.func38, Try.ntmps38
        go_wp2
        go_ret2
        exact ⟨by rw [HS.out]; rfl, rfl⟩
def longM (c : Int) : Int := if c = 1 then 16 else if c = 3 then 20 else 0
theorem long_calls (op : Int) (w : World) : Calls Try.prog 40 #[.int .i64 op] w fun e w' => e = .returned (.int .i64 (longM op)) ∧ w' = w := by
  by_cases h1 : op = 1
  · subst h1
    go_enter Try.func40, Try.ntmps40
    go_wp2
    go_ret
    exact ⟨rfl, rfl⟩
  · by_cases h2 : op = 3
    · subst h2
      go_enter Try.func40, Try.ntmps40
      go_wp2
      go_ret
      exact ⟨rfl, rfl⟩
    · have HS : Aside0 (longM op = 0) := ⟨by unfold longM; rw [if_neg h1, if_neg h2]⟩
      have b1 : (op == 1) = false := by simpa using h1
      have b2 : (op == 3) = false := by simpa using h2
      clear h1 h2
      go_enter Try.func40, Try.ntmps40
      go_wp2
      go_ret
      exact ⟨by rw [HS.out]; rfl, rfl⟩
end Go.Proofs.Ytpjkbokojlpjoaa.Ak
