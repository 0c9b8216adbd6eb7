/- ask: a request's own block. -/
import Derived.Test.YtpjkbokojlpjoaaAsk16
namespace Go.Proofs.Ytpjkbokojlpjoaa.Ak
open Go.RowKit Go.Proofs.YtpjkbokojlpjoaaW.PrintWords Go.Proofs.YtpjkbokojlpjoaaW.PrintLast Go.Proofs.YtpjkbokojlpjoaaW.PrintMore Go.Proofs.Ytpjkbokojlpjoaa.Bs Go.Proofs.Ytpjkbokojlpjoaa.Fr Go.Proofs.Ytpjkbokojlpjoaa.Oct
open Go.Proofs.Ytpjkbokojlpjoaa.PAskReads (S45 k45 z45 k45_open k45_openM k45_mk k45_mkM info45 at_T45 rd_T45)
set_option linter.unusedVariables false
set_option linter.unusedSimpArgs false

/-- So many bytes are laid, the rest is 0. -/
def arrI (l : List Int) (i : Nat) : List Int := l.take i ++ List.replicate (l.length - i) 0
theorem arrI_all (l : List Int) : arrI l l.length = l := by unfold arrI; simp
theorem arrI_zero (l : List Int) : arrI l 0 = List.replicate l.length 0 := by unfold arrI; simp
theorem arrI_len (l : List Int) (i : Nat) (h : i ≤ l.length) : (arrI l i).length = l.length := by unfold arrI; simp; omega
theorem arrI_split (l : List Int) (i : Nat) (h : i < l.length) : arrI l i = l.take i ++ (0 :: List.replicate (l.length - (i + 1)) 0) ∧ arrI l (i + 1) = l.take i ++ (rd l i :: List.replicate (l.length - (i + 1)) 0) := by
  unfold arrI
  constructor
  · rw [show l.length - i = (l.length - (i + 1)) + 1 by omega, List.replicate_succ]
  · rw [take_snoc_rd l i h, List.append_assoc]; rfl
theorem lay1 {w : World} {g : Nat} {t : TypeId} {P Q : List Value} {l : List Int} {i : Nat} (h : w.heap[g]? = some (.cells (P ++ (e8 (arrI l i) ++ Q)).toArray t (0, 0))) (hi : i < l.length) (o : Nat) (ho : P.length = o) :
    (w.setCell ⟨g, o + i, none⟩ (.int .u8 (rd l i))).heap[g]? = some (.cells (P ++ (e8 (arrI l (i + 1)) ++ Q)).toArray t (0, 0)) := by
  obtain ⟨e1, e2⟩ := arrI_split l i hi
  rw [e1] at h
  rw [e2]
  have f : ∀ x : Int, P ++ (e8 (l.take i ++ (x :: List.replicate (l.length - (i + 1)) 0)) ++ Q) = (P ++ e8 (l.take i)) ++ (.int .u8 x :: (e8 (List.replicate (l.length - (i + 1)) 0) ++ Q)) := by
    intro x
    unfold e8 encs
    simp
  rw [f] at h ⊢
  exact mid1 h (o + i) (by rw [List.length_append, encs_length, List.length_take]; omega)
/-- A request's own block. -/
def PB (w : World) (g : Nat) (m : AM) : Prop := w.heap[g]? = some (.cells m.cells.toArray 29 (0, 0))
abbrev sN : Value := .slice none 0 0
theorem t_no (m : AM) : m.cells = (pNo sN m).tail ++ (e8 m.no ++ qNo m) := (List.cons.inj (c_no sN m)).2
theorem t_pr (m : AM) : m.cells = (pPr sN m).tail ++ (.int .i64 m.pr :: qPr m) := (List.cons.inj (c_pr sN m)).2
theorem t_po (m : AM) : m.cells = (pPo sN m).tail ++ (.int .i64 m.po :: qPo m) := (List.cons.inj (c_po sN m)).2
theorem t_wp (m : AM) : m.cells = (pWp sN m).tail ++ (.int .i64 m.wp :: qWp m) := (List.cons.inj (c_wp sN m)).2
theorem t_wa (m : AM) : m.cells = (pWa sN m).tail ++ (e8 m.wa ++ qWa m) := (List.cons.inj (c_wa sN m)).2
theorem t_fp (m : AM) : m.cells = (pFp sN m).tail ++ (.int .i64 m.fp :: qFp m) := (List.cons.inj (c_fp sN m)).2
theorem t_fa (m : AM) : m.cells = (pFa sN m).tail ++ (e8 m.fa ++ qFa m) := (List.cons.inj (c_fa sN m)).2
theorem t_os (m : AM) : m.cells = (pOs sN m).tail ++ (m.os :: qOs m) := (List.cons.inj (c_os sN m)).2
section
variable {w : World} {g : Nat} {m : AM}
theorem PB.mk' {m : AM} (h : w.heap[g]? = some (Obj.cells m.cells.toArray 29 (0, 0))) : PB w g m := h
theorem PB.life_ (h : PB w g m) (x : Int) : PB (w.setCell ⟨g, 1, none⟩ (.int .u32 x)) g { m with life := x } := by
  have h' : w.heap[g]? = some (.cells ([Value.int .i64 m.op] ++ (Value.int .u32 m.life :: qLife m)).toArray 29 (0, 0)) := h
  exact mid1 h' 1 rfl
theorem PB.pr_ (h : PB w g m) (hm : m.ok) (x : Int) : PB (w.setCell ⟨g, 30, none⟩ (.int .i64 x)) g { m with pr := x } := by
  unfold PB at h; rw [t_pr] at h
  have h2 := mid1 (v := .int .i64 x) h 30 (by rw [List.length_tail, l_pr hm])
  refine PB.mk' ?_; rw [t_pr]; exact h2
theorem PB.po_ (h : PB w g m) (hm : m.ok) (x : Int) : PB (w.setCell ⟨g, 31, none⟩ (.int .i64 x)) g { m with po := x } := by
  unfold PB at h; rw [t_po] at h
  have h2 := mid1 (v := .int .i64 x) h 31 (by rw [List.length_tail, l_po hm])
  refine PB.mk' ?_; rw [t_po]; exact h2
theorem PB.wp_ (h : PB w g m) (hm : m.ok) (x : Int) : PB (w.setCell ⟨g, 32, none⟩ (.int .i64 x)) g { m with wp := x } := by
  unfold PB at h; rw [t_wp] at h
  have h2 := mid1 (v := .int .i64 x) h 32 (by rw [List.length_tail, l_wp hm])
  refine PB.mk' ?_; rw [t_wp]; exact h2
theorem PB.wa_ (h : PB w g m) (hm : m.ok) (x : List Int) (hx : x.length = 16) : PB (w.setCells g 33 (e8 x)) g { m with wa := x } := by
  unfold PB at h; rw [t_wa] at h
  have h2 := mid3 (y := e8 x) h 33 (by rw [List.length_tail, l_wa hm]) (by rw [encs_length, encs_length, hm.wa, hx])
  refine PB.mk' ?_; rw [t_wa]; exact h2
theorem PB.fp_ (h : PB w g m) (hm : m.ok) (x : Int) : PB (w.setCell ⟨g, 49, none⟩ (.int .i64 x)) g { m with fp := x } := by
  unfold PB at h; rw [t_fp] at h
  have h2 := mid1 (v := .int .i64 x) h 49 (by rw [List.length_tail, l_fp hm])
  refine PB.mk' ?_; rw [t_fp]; exact h2
theorem PB.fa_ (h : PB w g m) (hm : m.ok) (x : List Int) (hx : x.length = 16) : PB (w.setCells g 50 (e8 x)) g { m with fa := x } := by
  unfold PB at h; rw [t_fa] at h
  have h2 := mid3 (y := e8 x) h 50 (by rw [List.length_tail, l_fa hm]) (by rw [encs_length, encs_length, hm.fa, hx])
  refine PB.mk' ?_; rw [t_fa]; exact h2
theorem PB.os_ (h : PB w g m) (hm : m.ok) (x : Value) : PB (w.setCell ⟨g, 66, none⟩ x) g { m with os := x } := by
  unfold PB at h; rw [t_os] at h
  have h2 := mid1 (v := x) h 66 (by rw [List.length_tail, l_os hm])
  refine PB.mk' ?_; rw [t_os]; exact h2
theorem PB.no1 (h : PB w g m) (hm : m.ok) (l : List Int) (hl : l.length = 12) (i : Nat) (hi : i < 12) (hn : m.no = arrI l i) : PB (w.setCell ⟨g, 18 + i, none⟩ (.int .u8 (rd l i))) g { m with no := arrI l (i + 1) } := by
  unfold PB at h; rw [t_no, hn] at h
  have h2 := lay1 h (by omega) 18 (by rw [List.length_tail, l_no hm])
  refine PB.mk' ?_; rw [t_no]; exact h2
theorem PB.some_ (h : PB w g m) (hm : m.ok) (o : Nat) (ho : o < 67) : ∃ x, w.cell? ⟨g, o, none⟩ = some x := by
  refine Option.isSome_iff_exists.1 ?_
  rw [blk_cell h o, List.getElem?_toArray, List.getElem?_eq_getElem (by rw [AM.len hm]; exact ho)]; rfl
theorem PB.fz (h : PB w g m) (o : Nat) : w.frozen? ⟨g, o, none⟩ = false := blk_frozen h _
theorem PB.kop (h : PB w g m) : w.cell? ⟨g, 0, none⟩ = some (.int .i64 m.op) := by rw [blk_cell h 0]; rfl
theorem PB.there (h : PB w g m) (hm : m.ok) (o k : Nat) (hk : o + k ≤ 67) : w.there g o k := there_blk h o k (by rw [List.size_toArray, AM.len hm]; omega)
theorem PB.kos (h : PB w g m) (hm : m.ok) : w.cell? ⟨g, 66, none⟩ = some m.os := by
  unfold PB at h; rw [t_os] at h; exact cell1 h 66 (by rw [List.length_tail, l_os hm])
theorem PB.below {w' : World} (h : PB w g m) (k : Below w.heap.size w w') : PB w' g m := blk_below h k
theorem PB.fr {w' : World} {F : Nat → Prop} (h : PB w g m) (k : Fr w w' F) (hF : ¬ F g) : PB w' g m := k.blk h hF
end
theorem PB.rcl {w : World} {g : Nat} {m : AM} (h : PB w g m) : w.rangeAt g 2 (e8 m.cl) :=
  range3 (p := [Value.int .i64 m.op, Value.int .u32 m.life]) (x := e8 m.cl) (q := qCl m) h 2 rfl
theorem PB.rno {w : World} {g : Nat} {m : AM} (h : PB w g m) (hm : m.ok) : w.rangeAt g 18 (e8 m.no) := by
  unfold PB at h; rw [t_no] at h; exact range3 h 18 (by rw [List.length_tail, l_no hm])
theorem PB.rwa {w : World} {g : Nat} {m : AM} (h : PB w g m) (hm : m.ok) : w.rangeAt g 33 (e8 m.wa) := by
  unfold PB at h; rw [t_wa] at h; exact range3 h 33 (by rw [List.length_tail, l_wa hm])
theorem PB.rfa {w : World} {g : Nat} {m : AM} (h : PB w g m) (hm : m.ok) : w.rangeAt g 50 (e8 m.fa) := by
  unfold PB at h; rw [t_fa] at h; exact range3 h 50 (by rw [List.length_tail, l_fa hm])
theorem PB.k1 {w : World} {g : Nat} {m : AM} (h : PB w g m) : w.cell? ⟨g, 1, none⟩ = some (.int .u32 m.life) := by rw [blk_cell h 1]; rfl
theorem PB.kk {w : World} {g : Nat} {m : AM} (h : PB w g m) (hm : m.ok) : w.cell? ⟨g, 30, none⟩ = some (.int .i64 m.pr) ∧ w.cell? ⟨g, 31, none⟩ = some (.int .i64 m.po) ∧ w.cell? ⟨g, 32, none⟩ = some (.int .i64 m.wp) ∧ w.cell? ⟨g, 49, none⟩ = some (.int .i64 m.fp) := by
  unfold PB at h
  refine ⟨?_, ?_, ?_, ?_⟩
  · rw [t_pr] at h; exact cell1 h 30 (by rw [List.length_tail, l_pr hm])
  · rw [t_po] at h; exact cell1 h 31 (by rw [List.length_tail, l_po hm])
  · rw [t_wp] at h; exact cell1 h 32 (by rw [List.length_tail, l_wp hm])
  · rw [t_fp] at h; exact cell1 h 49 (by rw [List.length_tail, l_fp hm])
theorem cutM_f1 (b : List Int) (N : Nat) (hb : b.length ≤ N) : ∀ (k at_ : Nat) (acc L : List S45), cutM k b at_ acc = some L → (∀ o ∈ acc, o.f1.length ≤ N) → ∀ o ∈ L, o.f1.length ≤ N := by
  intro k
  induction k with
  | zero => intro at_ acc L h; cases h
  | succ k ih =>
    intro at_ acc L h ha
    simp only [cutM] at h
    split at h
    · split at h
      · cases h
      · refine ih _ _ _ h (fun o ho => ?_)
        rcases List.mem_append.1 ho with h1 | h1
        · exact ha o h1
        · rw [List.mem_singleton] at h1
          subst h1
          unfold optAt
          show ((b.take _).drop _).length ≤ N
          rw [List.length_drop, List.length_take]
          omega
    · cases h
      exact ha
theorem getV2 (b : List Int) (i : Nat) (h : i + 2 ≤ b.length) : getV b (i : Nat) 2 = rd b i * 256 + rd b (i + 1 : Nat) := by
  unfold getV
  have hm : mayB b.length (i : Nat) 2 = true := decide_eq_true ⟨by decide, by decide, by omega, by omega⟩
  rw [if_pos hm, Int.toNat_natCast]
  have e : (b.drop i).take (2 : Int).toNat = [rd b i, rd b (i + 1 : Nat)] := by
    apply List.ext_getElem
    · rw [List.length_take, List.length_drop]; simp; omega
    · intro j h1 h2
      have h3 : j < 2 := h2
      have : j = 0 ∨ j = 1 := by omega
      rcases this with rfl | rfl
      · simp [rd, List.getD_eq_getElem?_getD, List.getElem?_eq_getElem (by omega : i < b.length)]
      · simp [rd, List.getD_eq_getElem?_getD, List.getElem?_eq_getElem (by omega : i + 1 < b.length)]
  rw [e]
  simp [beN]
theorem getV1 (b : List Int) (i : Nat) (h : i + 1 ≤ b.length) : getV b (i : Nat) 1 = rd b i := by
  unfold getV
  have hm : mayB b.length (i : Nat) 1 = true := decide_eq_true ⟨by decide, by decide, by omega, by omega⟩
  rw [if_pos hm, Int.toNat_natCast]
  have e : (b.drop i).take (1 : Int).toNat = [rd b i] := by
    apply List.ext_getElem
    · rw [List.length_take, List.length_drop]; simp; omega
    · intro j h1 h2
      have h3 : j < 1 := h2
      have : j = 0 := by omega
      subst this
      simp [rd, List.getD_eq_getElem?_getD, List.getElem?_eq_getElem (by omega : i < b.length)]
  rw [e]
  simp [beN]
theorem whole_le (n : Nat) : n ≤ wholeN n ∧ wholeN n ≤ n + 3 ∧ wholeN n % 4 = 0 := by unfold wholeN; omega
end Go.Proofs.Ytpjkbokojlpjoaa.Ak
