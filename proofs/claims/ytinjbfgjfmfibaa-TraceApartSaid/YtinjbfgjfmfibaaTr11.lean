/- The statement TraceApart: the document's answer, and the walk. -/
import Derived.Test.YtinjbfgjfmfibaaTr10
namespace Go.Proofs.Ytinjbfgjfmfibaa.Tr
open Go.RowKit Go.Proofs.YtinjbfgjfmfibaaW.PrintWords Go.Proofs.YtinjbfgjfmfibaaW.PrintLast Go.Proofs.YtinjbfgjfmfibaaW.PrintMore Go.Proofs.Ytinjbfgjfmfibaa.Bs Go.Proofs.Ytinjbfgjfmfibaa.Mp
open Go.Proofs.Ytinjbfgjfmfibaa.PTraceSpans
set_option linter.unusedVariables false
set_option linter.unusedSimpArgs false

def cv (s : S61) : PTraceApart.S61 := ⟨s.f0, s.f1, s.f2, s.f3, s.f4, s.f5⟩
theorem cv_C {w : World} {A : Option Addr} {n : Nat} {xs : List S61} (h : Kd.C k61 w A n xs) : Kd.C PTraceApart.k61 w A n (xs.map cv) :=
  C_map cv rfl (fun x c hK => by
    obtain rfl := k61_open hK
    exact PTraceApart.k61_mk _ (cv x)) h
theorem rd_cv (l : List S61) (i : Int) : PTraceApart.rd_T61 (l.map cv) i = cv (rd_T61 l i) := by
  unfold PTraceApart.rd_T61 rd_T61
  rw [List.getD_eq_getElem?_getD, List.getD_eq_getElem?_getD, List.getElem?_map]
  cases l[i.toNat]? <;> rfl
theorem meet_f (a b : S61) : PTraceApart.bailiwickref10_meet.f (cv a).f0 (cv a).f1 (cv a).f2 (cv a).f3 (cv a).f4 (cv a).f5 (cv b).f0 (cv b).f1 (cv b).f2 (cv b).f3 (cv b).f4 (cv b).f5 = some (clash a b) := by
  obtain ⟨a0, a1, a2, a3, a4, a5⟩ := a
  obtain ⟨b0, b1, b2, b3, b4, b5⟩ := b
  simp only [PTraceApart.bailiwickref10_meet.f, cv, clash, wh, mt]
  cases a5 <;> cases b5 <;> simp only [Bool.false_eq_true, if_false, if_true, Bool.false_or, Bool.true_or, Bool.true_and, Bool.and_true]
  · by_cases h1 : a4 ≥ b3 <;> by_cases h2 : b4 ≥ a3 <;> by_cases h3 : a4 ≥ a3 <;> by_cases h4 : b4 ≥ b3 <;> simp [h1, h2, h3, h4] <;> omega
  · by_cases h1 : a4 ≥ b3 <;> by_cases h3 : a4 ≥ a3 <;> simp [h1, h3] <;> omega
  · by_cases h2 : b4 ≥ a3 <;> by_cases h4 : b4 ≥ b3 <;> simp [h2, h4] <;> omega
theorem apart_l (l : List S61) (hl : l.length ≤ 300) : ∀ (N i m j k : Nat), i + N = l.length → j + m = i → i < l.length → N * 400 + m + 1 ≤ k →
    (∀ i', i' < i → ∀ o ∈ ofKey (l.take i') (keyS (rd_T61 l i')), clash (rd_T61 l i') o = false) →
    (∀ j', j' < j → keyS (rd_T61 l j') = keyS (rd_T61 l i) → clash (rd_T61 l i) (rd_T61 l j') = false) →
    PTraceApart.bailiwickref10_Apart.l1 k (l.map cv) (i : Int) (j : Int) = some (apartB l) := by
  intro N
  induction N with
  | zero => intro i m j k hi hj hil; omega
  | succ N ih =>
    intro i m
    induction m with
    | zero =>
      intro j k hi hj hil hk h1 h2
      obtain ⟨k, rfl⟩ : ∃ k', k = k' + 2 := ⟨k - 2, by omega⟩
      have hji : j = i := by omega
      subst hji
      unfold PTraceApart.bailiwickref10_Apart.l1
      rw [if_neg (by omega), wrap_succ j (by omega)]
      have h1' : ∀ i', i' < j + 1 → ∀ o ∈ ofKey (l.take i') (keyS (rd_T61 l i')), clash (rd_T61 l i') o = false := by
        intro i' hi' o ho
        by_cases he : i' = j
        · subst he
          obtain ⟨ho1, ho2⟩ := List.mem_filter.1 ho
          obtain ⟨q, hq⟩ := List.mem_iff_getElem?.1 ho1
          have hql : q < i' := by
            have := (List.getElem?_eq_some_iff.1 hq).1
            rw [List.length_take] at this; omega
          rw [List.getElem?_take_of_lt hql, rd_some (by omega)] at hq
          have hq := Option.some.inj hq
          subst hq
          exact h2 q hql (by simpa using ho2)
        · exact h1 i' (by omega) o ho
      unfold PTraceApart.bailiwickref10_Apart.l0
      by_cases hn : j + 1 < l.length
      · rw [if_pos (by rw [List.length_map]; omega)]
        have := ih (j + 1) (j + 1) 0 k (by omega) (by omega) hn (by omega) h1' (fun j' hj' => by omega)
        exact this
      · rw [if_neg (by rw [List.length_map]; omega)]
        rw [apart_true (fun i' hi' => h1' i' (by omega))]
    | succ m ihm =>
      intro j k hi hj hil hk h1 h2
      obtain ⟨k, rfl⟩ : ∃ k', k = k' + 1 := ⟨k - 1, by omega⟩
      unfold PTraceApart.bailiwickref10_Apart.l1
      rw [List.length_map, if_pos (by omega), if_pos (by omega), if_pos (by omega), if_pos (by omega), if_pos (by omega), rd_cv, rd_cv, meet_f]
      have hgo : (keyS (rd_T61 l j) = keyS (rd_T61 l i) → clash (rd_T61 l i) (rd_T61 l j) = false) → PTraceApart.bailiwickref10_Apart.l1 k (l.map cv) (i : Int) (wrap64 ((j : Int) + 1)) = some (apartB l) := by
        intro hno
        rw [wrap_succ j (by omega)]
        refine ihm (j + 1) k hi (by omega) hil (by omega) h1 (fun j' hj' => ?_)
        by_cases he : j' = j
        · subst he; exact hno
        · exact h2 j' (by omega)
      by_cases e1 : (rd_T61 l i).f1 = (rd_T61 l j).f1
      · rw [if_pos (show (cv (rd_T61 l i)).f1 = (cv (rd_T61 l j)).f1 from e1)]
        by_cases e2 : (rd_T61 l i).f2 = (rd_T61 l j).f2
        · rw [if_pos (show (cv (rd_T61 l i)).f2 = (cv (rd_T61 l j)).f2 from e2)]
          simp only [Option.bind_some]
          have hkey : keyS (rd_T61 l j) = keyS (rd_T61 l i) := by unfold keyS; rw [e1, e2]
          by_cases hc : clash (rd_T61 l i) (rd_T61 l j) = true
          · rw [if_pos hc]
            have hmem : rd_T61 l (j : Int) ∈ ofKey (l.take i) (keyS (rd_T61 l i)) := by
              refine List.mem_filter.2 ⟨List.mem_of_getElem? (i := j) ?_, by simpa using hkey⟩
              rw [List.getElem?_take_of_lt (by omega)]
              exact rd_some (by omega)
            rw [apart_false hil hmem hc]
          · rw [if_neg hc]
            exact hgo (fun _ => by simpa using hc)
        · rw [if_neg (show ¬ (cv (rd_T61 l i)).f2 = (cv (rd_T61 l j)).f2 from e2)]
          exact hgo (fun hk2 => absurd (congrArg Prod.snd hk2).symm e2)
      · rw [if_neg (show ¬ (cv (rd_T61 l i)).f1 = (cv (rd_T61 l j)).f1 from e1)]
        exact hgo (fun hk2 => absurd (congrArg Prod.fst hk2).symm e1)
theorem apart_f (l : List S61) (hl : l.length ≤ 300) : PTraceApart.bailiwickref10_Apart.f 200000 (l.map cv) = some (apartB l) := by
  unfold PTraceApart.bailiwickref10_Apart.f
  rw [show (200000 : Nat) = 199999 + 1 from rfl]
  unfold PTraceApart.bailiwickref10_Apart.l0
  by_cases h : 0 < l.length
  · rw [if_pos (by rw [List.length_map]; omega)]
    exact apart_l l hl l.length 0 0 0 199999 (by omega) (by omega) h (by omega) (fun i' hi' => by omega) (fun j' hj' => by omega)
  · rw [if_neg (by rw [List.length_map]; omega), apart_true (fun i' hi' => by omega)]
theorem hit_clash {a n t : Int} {s o : S61} (hs : hitW a n t s = true) (ho : hitW a n t o = true) : clash s o = true ∧ keyS o = keyS s := by
  simp only [hitW, holdsB, Bool.and_eq_true, Bool.or_eq_true, beq_iff_eq, decide_eq_true_eq] at hs ho
  obtain ⟨hs1, hs2, hs3, hs4⟩ := hs
  obtain ⟨ho1, ho2, ho3, ho4⟩ := ho
  constructor
  · simp only [clash, wh, mt, Bool.and_eq_true, Bool.or_eq_true, decide_eq_true_eq]
    refine ⟨?_, ?_, ?_, ?_⟩
    · exact hs4.imp id (fun h => by omega)
    · exact ho4.imp id (fun h => by omega)
    · exact hs4.imp id (fun h => by omega)
    · exact ho4.imp id (fun h => by omega)
  · unfold keyS; rw [hs1, hs2, ho1, ho2]
/-- Where no two of a block meet, one at most holds a time. -/
theorem coll_apart (l : List S61) (h : apartB l = true) (a n t : Int) : (coll l a n t).length ≤ 1 := by
  have hall : ∀ i, i ≤ l.length → (coll (l.take i) a n t).length ≤ 1 := by
    intro i
    induction i with
    | zero => intro _; simp [coll]
    | succ i ih =>
      intro hi
      have hil : i < l.length := by omega
      rw [coll_step hil]
      by_cases hh : hitW a n t (rd_T61 l i) = true
      · rw [if_pos hh]
        have h0 : coll (l.take i) a n t = [] := by
          unfold coll
          rw [List.map_eq_nil_iff, List.filter_eq_nil_iff]
          intro o ho hho
          obtain ⟨hc, hk⟩ := hit_clash hh hho
          have := apart_false hil (List.mem_filter.2 ⟨ho, by simpa using hk⟩) hc
          rw [h] at this; cases this
        rw [h0]; simp
      · rw [if_neg hh]; exact ih (by omega)
  have := hall l.length (Nat.le_refl _)
  rwa [List.take_length] at this
def wfS (x : S61) : Prop := (Lit.int .u32 x.f0).wf = true ∧ (Lit.int .u32 x.f1).wf = true ∧ (Lit.int .i64 x.f2).wf = true ∧ (Lit.int .i64 x.f3).wf = true ∧ (Lit.int .i64 x.f4).wf = true ∧ True

set_option maxHeartbeats 1000000 in
set_option maxRecDepth 100000 in
theorem apart_walk (w : World) (A : Option Addr) (c : Nat) (l : List S61) (hC : Kd.C k61 w A l.length l) (hc : l.length ≤ c) (hwf : ∀ x ∈ l, wfS x)
    (a : Int) (wa : (Lit.int .u32 a).wf = true) (n : Int) (wn : (Lit.int .i64 n).wf = true) (t : Int) (wt : (Lit.int .i64 t).wf = true) :
    Calls Try.prog 12 #[.slice A l.length c, .agg #[.int .u32 a, .int .i64 n, .int .i64 t]] w fun e w' => e = .returned (.bool true) ∧ Below w.heap.size w w' := by
  have HC := Aside0.mk hC
  have HL := Aside0.mk hc
  have HW : Aside0 (∀ s ∈ l, okK (keyS s)) := ⟨fun s hs => ⟨(hwf s hs).2.1, (hwf s hs).2.2.1⟩⟩
  clear hC hc hwf wa wn wt
  obtain ⟨b, hb⟩ : ∃ b, b = apartB l := ⟨_, rfl⟩
  have HBB := Aside0.mk hb
  clear hb
  have HX0 : Aside0 ((w.alloc (.cells #[.int .u32 a, .int .i64 n, .int .i64 t] 51)).heap[w.heap.size]? = some (.cells #[.int .u32 a, .int .i64 n, .int .i64 t] 51 (0, 0))) := ⟨blk_new _ _⟩
  go_enter Try.func12, Try.ntmps12
  go_wp2_with fail
  refine (awake_calls _).mono ?_
  rintro e w1 ⟨rfl, hb1⟩
  have HX1 := Aside0.mk (blk_below HX0.out hb1)
  have HB1 : Aside0 (Below w.heap.size w w1) := ⟨below_step ((Below.refl _ _).alloc (Nat.le_refl _) _) hb1⟩
  clear hb1
  by_cases hlen : l.length ≤ 300
  · have hl1 : ¬ ((l.length : Int) > 300) := by omega
    have HLEN := Aside0.mk hlen
    go_wp2_with fail
    refine (Apart_calls A c l w1 (Kd.C_below HC.out HB1.out) HL.out (by omega) HW.out).mono ?_
    rintro e w2 ⟨rfl, hb2⟩
    rw [← HBB.out]
    have HX2 := Aside0.mk (blk_below HX1.out hb2)
    have HB2 := Aside0.mk (below_step HB1.out hb2)
    clear hb2 HX1 HB1
    have hlm : (l.map cv).length = l.length := List.length_map _
    have HLM := Aside0.mk hlm
    clear hlm
    go_wp2_with fail
    have hcall : Calls Try.prog 33 #[.slice A l.length c] w2 fun e w' => e = .returned (.bool b) ∧ Below w2.heap.size w2 w' := by
      have h_ := PTraceApart.bailiwickref10_Apart.calls 200000 A c (l.map cv) (apartB l) w2 (by rw [HLM.out]; exact cv_C (Kd.C_below HC.out HB2.out)) (by rw [HLM.out]; exact HL.out) (apart_f l HLEN.out)
      rw [HLM.out, ← HBB.out] at h_
      exact h_
    refine hcall.mono ?_
    rintro e w3 ⟨rfl, hb3⟩
    have HX3 := Aside0.mk (blk_below HX2.out hb3)
    have HB3 := Aside0.mk (below_step HB2.out hb3)
    clear hb3 HX2 HB2
    cases b with
    | false =>
      go_wp2
      go_ret
      exact ⟨rfl, HB3.out⟩
    | true =>
      have k0 : w3.cell? ⟨w.heap.size, 0, none⟩ = some (.int .u32 a) := blk_cell HX3.out 0
      have k1 : w3.cell? ⟨w.heap.size, 1, none⟩ = some (.int .i64 n) := blk_cell HX3.out 1
      have k2 : w3.cell? ⟨w.heap.size, 2, none⟩ = some (.int .i64 t) := blk_cell HX3.out 2
      have HS := Aside0.mk (coll_apart l HBB.out.symm a n t)
      go_wp2_with fail
      refine (Who_short A c l a n t w3 (Kd.C_below HC.out HB3.out) HL.out (by omega) HS.out).mono ?_
      rintro e w4 ⟨v4, rfl, hr4, hb4⟩
      obtain ⟨A4, c4, rfl⟩ := Kd.R_slice hr4
      have HB4 := Aside0.mk (below_step HB3.out hb4)
      have hle : (((coll l a n t).length : Int) ≤ 1) := by have := HS.out; omega
      have HLE := Aside0.mk hle
      clear hr4 hb4 k0 k1 k2 hle
      go_wp2
      go_ret
      refine ⟨?_, HB4.out⟩
      show Ending.returned (Value.bool (decide (((coll l a n t).length : Int) ≤ 1))) = _
      rw [decide_eq_true HLE.out]
  · have hl1 : (l.length : Int) > 300 := by omega
    go_wp2
    go_ret
    exact ⟨rfl, HB1.out⟩
end Go.Proofs.Ytinjbfgjfmfibaa.Tr
