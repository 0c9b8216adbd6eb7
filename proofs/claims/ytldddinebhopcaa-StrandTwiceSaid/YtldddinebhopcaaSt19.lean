/- strand: Segments. -/
import Derived.Test.YtldddinebhopcaaStC
namespace Go.Proofs.Ytldddinebhopcaa.St
open Go.RowKit Go.Shelf Go.Proofs.YtldddinebhopcaaW.PrintWords Go.Proofs.YtldddinebhopcaaW.PrintLast Go.Proofs.YtldddinebhopcaaW.PrintMore Go.Proofs.Ytldddinebhopcaa.Bs Go.Proofs.Ytldddinebhopcaa.Fr Go.Proofs.Ytldddinebhopcaa.Oct Go.Proofs.Ytldddinebhopcaa.Sec Go.Proofs.Ytldddinebhopcaa.Rg Go.Proofs.Ytldddinebhopcaa.PStrandPlays
set_option linter.unusedVariables false
set_option linter.unusedSimpArgs false
/-- A list made long enough for its place k. -/
def longL (l : List Int) (k : Nat) : List Int := l ++ List.replicate (k + 1 - l.length) 0
def bump (l : List Int) (k : Nat) : List Int := (longL l k).set k ((longL l k).getD k 0 + 1)
def segK (r : List Int × Int) : Nat := (r.2 / 16).toNat
def segL (rs : List (List Int × Int)) : List Int := rs.foldl (fun l r => bump l (segK r)) []
theorem segL_snoc (rs : List (List Int × Int)) (r : List Int × Int) : segL (rs ++ [r]) = bump (segL rs) (segK r) := by unfold segL; rw [List.foldl_append]; rfl
theorem longL_len (l : List Int) (k : Nat) : (longL l k).length = max l.length (k + 1) := by unfold longL; rw [List.length_append, List.length_replicate]; omega
theorem bump_len (l : List Int) (k : Nat) : (bump l k).length = max l.length (k + 1) := by unfold bump; rw [List.length_set, longL_len]
theorem longL_step (l : List Int) (k : Nat) (h : l.length ≤ k) : longL (l ++ [0]) k = longL l k := by
  unfold longL
  rw [List.append_assoc, List.length_append, show ([0] : List Int).length = 1 from rfl, show k + 1 - l.length = (k + 1 - (l.length + 1)) + 1 by omega, List.replicate_succ]
  rfl
theorem longL_end (l : List Int) (k : Nat) (h : k < l.length) : longL l k = l := by unfold longL; rw [show k + 1 - l.length = 0 by omega]; simp
theorem segL_len (rs : List (List Int × Int)) (h : ∀ r ∈ rs, 0 ≤ r.2 ∧ r.2 ≤ 4096) : (segL rs).length ≤ 257 := by
  have key : ∀ (rs : List (List Int × Int)) (l : List Int), l.length ≤ 257 → (∀ r ∈ rs, 0 ≤ r.2 ∧ r.2 ≤ 4096) → (rs.foldl (fun l r => bump l (segK r)) l).length ≤ 257 := by
    intro rs
    induction rs with
    | nil => intro l hl _; exact hl
    | cons r rs ih =>
      intro l hl hr
      refine ih _ ?_ (fun q hq => hr q (List.mem_cons_of_mem _ hq))
      have := hr r List.mem_cons_self
      rw [bump_len]
      unfold segK
      omega
  exact key rs [] (by show 0 ≤ 257; omega) h
/-- All numbers of a list are between 0 and n. -/
def Upto (n : Nat) (l : List Int) : Prop := ∀ x ∈ l, 0 ≤ x ∧ x ≤ n
theorem longL_upto {n : Nat} {l : List Int} (h : Upto n l) (k : Nat) : Upto n (longL l k) := fun x hx => by
  rcases List.mem_append.1 hx with q | q
  · exact h x q
  · rw [List.eq_of_mem_replicate q]; omega
theorem getD_upto {n : Nat} {l : List Int} (h : Upto n l) (k : Nat) : 0 ≤ l.getD k 0 ∧ l.getD k 0 ≤ n := by
  rcases Nat.lt_or_ge k l.length with q | q
  · rw [List.getD_eq_getElem?_getD, List.getElem?_eq_getElem q]; exact h _ (List.getElem_mem q)
  · rw [List.getD_eq_getElem?_getD, List.getElem?_eq_none q]; simp
theorem bump_upto {n : Nat} {l : List Int} (h : Upto n l) (k : Nat) : Upto (n + 1) (bump l k) := fun x hx => by
  rcases List.mem_or_eq_of_mem_set hx with q | q
  · have := longL_upto h k x q; omega
  · have := getD_upto (longL_upto h k) k; omega
theorem segL_upto (rs : List (List Int × Int)) : Upto rs.length (segL rs) := by
  have key : ∀ (rs : List (List Int × Int)) (l : List Int) (n : Nat), Upto n l → Upto (n + rs.length) (rs.foldl (fun l r => bump l (segK r)) l) := by
    intro rs
    induction rs with
    | nil => intro l n h; exact h
    | cons r rs ih =>
      intro l n h
      have := ih _ _ (bump_upto h (segK r))
      rw [List.length_cons, show n + (rs.length + 1) = n + 1 + rs.length by omega]
      exact this
  have := key rs [] 0 (fun x hx => by cases hx)
  rwa [Nat.zero_add] at this
theorem sum_set (l : List Int) (k : Nat) (h : k < l.length) : (l.set k (l.getD k 0 + 1)).sum = l.sum + 1 := by
  induction l generalizing k with
  | nil => simp at h
  | cons x l ih =>
    cases k with
    | zero => simp; omega
    | succ k =>
      simp only [List.set_cons_succ, List.sum_cons, List.getD_cons_succ]
      rw [ih k (by simpa using h)]
      omega
theorem sum_bump (l : List Int) (k : Nat) : (bump l k).sum = l.sum + 1 := by
  unfold bump
  rw [sum_set _ k (by rw [longL_len]; omega)]
  unfold longL
  rw [List.sum_append]
  have : (List.replicate (k + 1 - l.length) (0 : Int)).sum = 0 := by
    generalize k + 1 - l.length = n
    induction n with
    | zero => rfl
    | succ n ih => rw [List.replicate_succ, List.sum_cons, ih]; rfl
  omega
theorem segL_sum (rs : List (List Int × Int)) : (segL rs).sum = rs.length := by
  have key : ∀ (rs : List (List Int × Int)) (l : List Int), (rs.foldl (fun l r => bump l (segK r)) l).sum = l.sum + rs.length := by
    intro rs
    induction rs with
    | nil => intro l; simp
    | cons r rs ih =>
      intro l
      show (rs.foldl (fun l r => bump l (segK r)) (bump l (segK r))).sum = _
      rw [ih, sum_bump, List.length_cons]
      omega
  have := key rs []
  rw [show ([] : List Int).sum = 0 from rfl, Int.zero_add] at this
  exact this
theorem infoI : (Try.prog.info? 3).map (fun i => (i.zero, i.size, i.bytes)) = some (some (.int .i64 0), 1, 8) := by kernel_rfl
set_option maxHeartbeats 4000000 in
set_option maxRecDepth 100000 in
theorem Segments_calls (w : World) (base gs gd : Nat) (ok : Nat → Prop) (v2 v3 : Value) (m : SM) (h : SV w base ok gs gd v2 v3 m) (hn : m.recs.length ≤ 1000000) (hr : ∀ r ∈ m.recs, 0 ≤ r.2 ∧ r.2 ≤ 4096) :
    Calls Try.prog 36 #[.pointer (some ⟨gs, 0, none⟩)] w fun e w' => ∃ v, e = .returned v ∧ Kd.R (Kd.int .i64) 3 w' w.heap.size (fun _ => True) v (segL m.recs) ∧ Below w.heap.size w w' := by
  have HR := Aside0.mk h.recs
  have HN := Aside0.mk hn
  have HRR := Aside0.mk hr
  obtain ⟨A3, c3, rfl⟩ := Kd.R_slice h.recs
  have k3 : w.cell? ⟨gs, 3, none⟩ = some (.slice A3 m.recs.length c3) := blk_cell h.blk 3
  clear h hn hr
  go_enter Try.func36, Try.ntmps36
  go_upto_region 5 with fail
  go_loopg [3, 14] m.recs.length (fun q v3 v14 wr => ∃ i : Nat, v14 = .int .i64 (i : Int) ∧ Aside0 (i + q = m.recs.length) ∧ Aside0 (Kd.R (Kd.int .i64) 3 wr w.heap.size (fun _ => True) v3 (segL (m.recs.take i))) ∧ Aside0 (Below w.heap.size w wr))
  case atStart => exact ⟨0, rfl, ⟨by omega⟩, ⟨Kd.R_nil _ _ _ _ _⟩, ⟨Below.refl _ _⟩⟩
  case round =>
    obtain ⟨i, rfl, Hi, RA, BA⟩ := hrel
    cases gk with
    | zero =>
      have hlt : ¬ ((i : Int) < (m.recs.length : Int)) := by have := Hi.out; omega
      have hlb := decide_eq_false hlt
      have HT : Aside0 (m.recs.take i = m.recs) := ⟨List.take_of_length_le (by have := Hi.out; omega)⟩
      go_wp2
      go_ret
      exact ⟨u3, rfl, by have h := RA.out; rw [HT.out] at h; exact h, BA.out⟩
    | succ q =>
      have hlt : (i : Int) < (m.recs.length : Int) := by have := Hi.out; omega
      have hlb := decide_eq_true hlt
      have hi0 : (0 : Int) ≤ i ∧ (i : Int) < (m.recs.length : Int) := ⟨by omega, hlt⟩
      have hil : (i : Int) ≤ 1000000 := by have := HN.out; omega
      obtain ⟨g, Ab, cb, hA, x0, x1, _⟩ := rec_at HR.out i (by omega)
      subst hA
      have hi' : i < m.recs.length := by omega
      have HTS : Aside0 (segL (m.recs.take (i + 1)) = bump (segL (m.recs.take i)) (segK (m.recs.getD i ([], 0)))) := ⟨by
        rw [List.take_add_one, List.getElem?_eq_getElem hi', Option.toList_some, segL_snoc, List.getD_eq_getElem?_getD, List.getElem?_eq_getElem hi']
        rfl⟩
      have hmem : m.recs.getD i ([], 0) ∈ m.recs := by rw [List.getD_eq_getElem?_getD, List.getElem?_eq_getElem hi']; exact List.getElem_mem hi'
      have hxr := HRR.out _ hmem
      have HU := Aside0.mk (segL_upto (m.recs.take i))
      have HUL : Aside0 ((m.recs.take i).length ≤ 1000000) := ⟨by rw [List.length_take]; have := HN.out; omega⟩
      have HSL := Aside0.mk (segL_len (m.recs.take i) (fun r hr => HRR.out r (List.mem_of_mem_take hr)))
      have y0 := pw_cell_below BA.out x0
      have y1 := pw_cell_below BA.out x1
      have HKE : Aside0 (segK (m.recs.getD i ([], 0)) = ((m.recs.getD i ([], 0)).2 / 16).toNat) := ⟨rfl⟩
      clear x0 x1 hmem hi'
      generalize (m.recs.getD i ([], 0)).1.length = n1 at *
      generalize segK (m.recs.getD i ([], 0)) = k at *
      generalize (m.recs.getD i ([], 0)).2 = x at *
      generalize (m.recs.take i).length = mm at *
      obtain ⟨acc, hacc⟩ : ∃ acc, segL (m.recs.take i) = acc := ⟨_, rfl⟩
      rw [hacc] at RA HTS HU HSL
      clear hacc
      have hxk : x / 16 = (k : Int) := by have := HKE.out; omega
      have HKK : Aside0 (k ≤ 256) := ⟨by omega⟩
      have hxd : Int.tdiv x 16 = (k : Int) := by rw [Int.tdiv_eq_ediv_of_nonneg hxr.1]; exact hxk
      have BA1 := Aside0.mk (Below.alloc BA.out BA.out.size (.cells #[.slice Ab n1 cb, .int .i64 x] 81))
      have RA1 := Aside0.mk (Kd.R_alloc RA.out (.cells #[.slice Ab n1 cb, .int .i64 x] 81))
      have hk0 : 0 ≤ (k : Int) ∧ (k : Int) ≤ 256 := by have := HKK.out; omega
      go_upto_region 8 with fail
      clear hxk hxd hxr y0 y1
      go_loopg [3] (k + 1 - acc.length) (fun p v3 wq => ∃ l : List Int, Aside0 (p = k + 1 - l.length) ∧ Aside0 (l.length ≤ 257 ∧ longL l k = longL acc k) ∧ Aside0 (Kd.R (Kd.int .i64) 3 wq w.heap.size (fun _ => True) v3 l) ∧ Aside0 (Below w.heap.size w wq))
      case atStart => exact ⟨acc, ⟨rfl⟩, ⟨HSL.out, rfl⟩, RA1, BA1⟩
      case round =>
        clear RA1 BA1
        obtain ⟨l, Hp, Hl, RL, BL⟩ := hrel
        obtain ⟨A4, c4, ev⟩ := Kd.R_slice RL.out
        subst ev
        have hll : 0 ≤ (l.length : Int) ∧ (l.length : Int) ≤ 257 := by have := Hl.out.1; omega
        cases gk with
        | zero =>
          have hle : ¬ ((l.length : Int) ≤ (k : Int)) := by have := Hp.out; omega
          have hlb2 := decide_eq_false hle
          have HLE : Aside0 (longL acc k = l) := ⟨by rw [← Hl.out.2]; exact longL_end l k (by have := Hp.out; omega)⟩
          obtain ⟨g4, cap, hv, _⟩ := Kd.R_form RL.out (by have := Hp.out; omega)
          injection hv with hA4 _ hc4
          subst hA4
          subst hc4
          obtain ⟨kc, kf⟩ := Kd.R_cell (0 : Int) RL.out (k : Int) (by omega) (by have := Hp.out; omega)
          rw [Int.toNat_natCast] at kc kf
          have hput := Kd.R_put RL.out (k : Int) (rdOf 0 l (k : Int) + 1)
          rw [Int.toNat_natCast] at hput
          have HPUT := Aside0.mk hput
          have hkr : 0 ≤ (k : Int) ∧ (k : Int) < (l.length : Int) := by omega
          have HUP := longL_upto HU.out k
          rw [HLE.out] at HUP
          have hgd : rdOf 0 l (k : Int) = l.getD k 0 := by unfold rdOf; rw [Int.toNat_natCast]
          have hvr : 0 ≤ rdOf 0 l (k : Int) ∧ rdOf 0 l (k : Int) ≤ 1000000 := by
            rw [hgd]
            have h1 := getD_upto HUP k
            have h2 := HUL.out
            omega
          have HBU : Aside0 (bump acc k = l.set k (rdOf 0 l (k : Int) + 1)) := ⟨by unfold bump; rw [HLE.out, hgd]⟩
          have HG4 : Aside0 (w.heap.size ≤ g4) := ⟨Kd.R_base RL.out g4 rfl⟩
          clear hput HUP hgd
          generalize rdOf 0 l (k : Int) = y at *
          go_wp2
          go_roundg q
          case measure => omega
          case rel => exact ⟨i + 1, by go_num, ⟨by have := Hi.out; omega⟩, ⟨by rw [HTS.out, HBU.out]; exact HPUT.out.1⟩, ⟨BL.out.setCell HG4.out _⟩⟩
        | succ p =>
          have hle : ((l.length : Int) ≤ (k : Int)) := by have := Hp.out; omega
          have hlb2 := decide_eq_true hle
          have HAL : Aside0 ((l.length + 1) * 8 ≤ 140737488355328) := ⟨by have := Hl.out.1; omega⟩
          go_wp2_with ((with_reducible refine gate_builtin (b := .append) (xs := #[.tmp 25, .tmp 26]) rfl ?_); at_builtin; go_loud (refine Kd.R_append (Kd.int .i64) (w0 := w) w.heap.size rfl (.tmp 25) (.tmp 26) 65 3 (.int .i64 0) 8 rfl Try.underlying65 infoI rfl (by decide) (by decide) (.slice A4 l.length c4) l 0 [.int .i64 0] (fun _ => True) (fun _ => False) rfl rfl rfl (fun _ hk => hk.elim) (fun _ _ => trivial) RL.out BL.out BL.out.size HAL.out ?_); intro v5 w5 hr_ hb_ _ _; have R5 := Aside0.mk hr_; have B5 := Aside0.mk hb_; clear hr_ hb_)
          go_roundg p
          case measure => omega
          case rel => exact ⟨l ++ [0], ⟨by rw [List.length_append]; have := Hp.out; show p = k + 1 - (l.length + 1); omega⟩, ⟨by rw [List.length_append]; show l.length + 1 ≤ 257; have := HKK.out; omega, by rw [longL_step l k (by omega)]; exact Hl.out.2⟩, R5, B5⟩
end Go.Proofs.Ytldddinebhopcaa.St
