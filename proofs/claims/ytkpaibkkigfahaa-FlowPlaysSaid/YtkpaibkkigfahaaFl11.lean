/- FlowOrders: plain law. -/
import Derived.Test.YtkpaibkkigfahaaFl10
namespace Go.Proofs.Ytkpaibkkigfahaa.Fl
open Go.RowKit Go.Proofs.YtkpaibkkigfahaaW.PrintWords Go.Proofs.YtkpaibkkigfahaaW.PrintLast Go.Proofs.YtkpaibkkigfahaaW.PrintMore Go.Proofs.Ytkpaibkkigfahaa.Bs Go.Proofs.Ytkpaibkkigfahaa.Fr Go.Proofs.Ytkpaibkkigfahaa.Mp Go.Proofs.Ytkpaibkkigfahaa.Srt
open Go.Proofs.Ytkpaibkkigfahaa.PFlowPlays Go.Proofs.Ytkpaibkkigfahaa.FlP
set_option linter.unusedVariables false
set_option linter.unusedSimpArgs false

def std (x : S46) : S46 := ⟨x.f0, x.f1, x.f2, 9, 0, 0⟩
theorem key_std (x : S46) : keyF (std x) = keyF x := rfl
theorem std_key {x y : S46} (h : keyF (std x) = keyF (std y)) : std x = std y := by
  obtain ⟨a0, ⟨a1, a2⟩, ⟨a3, a4⟩, a5, a6, a7⟩ := x
  obtain ⟨b0, ⟨b1, b2⟩, ⟨b3, b4⟩, b5, b6, b7⟩ := y
  simp only [keyF, std, Prod.mk.injEq] at h ⊢
  obtain ⟨rfl, rfl, rfl, rfl, rfl⟩ := h
  rfl
/-- The table holds just those of xs that may be. -/
def Has (M : List S46) (xs : List S46) : Prop := ∀ y, y ∈ M ↔ ∃ x ∈ xs, y = std x ∧ chk y = 0
theorem Has.nil : Has [] [] := fun y => by simp
theorem Has.std {M xs : List S46} (h : Has M xs) {y : S46} (hy : y ∈ M) : y = Fl.std y := by obtain ⟨x, _, rfl, _⟩ := (h y).1 hy; rfl
theorem Has.put {M xs : List S46} (h : Has M xs) (x : S46) : Has (layM M (Fl.std x) false) (x :: xs) := by
  intro y
  unfold layM
  by_cases hc : chk (Fl.std x) = 0
  · by_cases hm : hasM M (keyF (Fl.std x)) = false
    · rw [if_pos ⟨hc, hm⟩]
      have hd : ∀ z ∈ M, keyF z ≠ keyF (Fl.std x) := by
        intro z hz he
        have : (getM M (keyF (Fl.std x))).isSome = true := List.find?_isSome.2 ⟨z, hz, by simpa using he⟩
        unfold hasM at hm
        rw [this] at hm; cases hm
      have hdel : delM M (keyF (Fl.std x)) = M := List.filter_eq_self.2 (fun z hz => by simpa using hd z hz)
      unfold upM
      rw [(ins_perm _ _).mem_iff, hdel, List.mem_cons, h y]
      constructor
      · rintro (rfl | ⟨z, hz, rfl, h2⟩)
        · exact ⟨x, List.mem_cons_self, rfl, hc⟩
        · exact ⟨z, List.mem_cons_of_mem _ hz, rfl, h2⟩
      · rintro ⟨z, hz, rfl, h2⟩
        rcases List.mem_cons.1 hz with rfl | hz
        · exact .inl rfl
        · exact .inr ⟨z, hz, rfl, h2⟩
    · rw [if_neg (fun hh => hm hh.2), h y]
      constructor
      · rintro ⟨z, hz, rfl, h2⟩
        exact ⟨z, List.mem_cons_of_mem _ hz, rfl, h2⟩
      · rintro ⟨z, hz, rfl, h2⟩
        rcases List.mem_cons.1 hz with rfl | hz
        · have hs : (getM M (keyF (Fl.std z))).isSome = true := by
            unfold hasM at hm
            cases hb : (getM M (keyF (Fl.std z))).isSome with
            | true => rfl
            | false => exact absurd hb hm
          obtain ⟨u, hu, hk⟩ := List.find?_isSome.1 hs
          obtain ⟨x', hx', rfl, hc'⟩ := (h u).1 hu
          have := std_key (of_decide_eq_true hk)
          exact ⟨x', hx', this.symm, h2⟩
        · exact ⟨z, hz, rfl, h2⟩
  · rw [if_neg (fun hh => hc hh.1), h y]
    constructor
    · rintro ⟨z, hz, rfl, h2⟩
      exact ⟨z, List.mem_cons_of_mem _ hz, rfl, h2⟩
    · rintro ⟨z, hz, rfl, h2⟩
      rcases List.mem_cons.1 hz with rfl | hz
      · exact absurd h2 hc
      · exact ⟨z, hz, rfl, h2⟩
theorem Has.perm {M xs ys : List S46} (h : Has M xs) (hm : ∀ x, x ∈ xs ↔ x ∈ ys) : Has M ys := fun y => by
  rw [h y]
  exact ⟨fun ⟨x, hx, h2⟩ => ⟨x, (hm x).1 hx, h2⟩, fun ⟨x, hx, h2⟩ => ⟨x, (hm x).2 hx, h2⟩⟩
theorem ag_self (k : Key) : agK k k = 0 := by
  have := good_ag.a k k
  omega
theorem srt_nodup {M : List S46} (h : Srt M) : M.Nodup := List.Pairwise.imp (fun {x y} hxy he => by rw [he, ag_self] at hxy; omega) h
theorem Has.one {M1 M2 xs : List S46} (h1 : Has M1 xs) (h2 : Has M2 xs) (s1 : Srt M1) (s2 : Srt M2) : M1 = M2 := by
  refine srt_unique ?_ s1 s2
  refine (List.perm_ext_iff_of_nodup (srt_nodup s1) (srt_nodup s2)).2 fun y => ?_
  rw [h1 y, h2 y]
theorem Has.due8 {M xs : List S46} (h : Has M xs) : M.filter (fun f => decide (f.f3 ≤ 8)) = [] := List.filter_eq_nil_iff.2 (fun y hy => by rw [h.std hy]; show ¬ decide ((9 : Int) ≤ 8) = true; decide)
theorem Has.due9 {M xs : List S46} (h : Has M xs) : M.filter (fun f => decide (f.f3 ≤ 9)) = M := List.filter_eq_self.2 (fun y hy => by rw [h.std hy]; rfl)
theorem take_next (l : List S46) (i : Nat) (x : S46) (h : l[i]? = some x) : l.take (i + 1) = l.take i ++ [x] := by rw [List.take_add_one, h]; rfl
theorem drop_prev (l : List S46) (k : Nat) (x : S46) (h : l[k]? = some x) : l.drop k = x :: l.drop (k + 1) := by
  obtain ⟨hk, rfl⟩ := List.getElem?_eq_some_iff.1 h
  exact List.drop_eq_getElem_cons hk
theorem Has.take {M l : List S46} {i : Nat} {x : S46} (h : Has M (l.take i)) (hx : l[i]? = some x) : Has (layM M (Fl.std x) false) (l.take (i + 1)) :=
  (h.put x).perm (fun y => by rw [take_next l i x hx]; simp [or_comm])
theorem Has.drop {M l : List S46} {k : Nat} {x : S46} (h : Has M (l.drop (k + 1))) (hx : l[k]? = some x) : Has (layM M (Fl.std x) false) (l.drop k) := by
  rw [drop_prev l k x hx]; exact h.put x
/-- Are two sessions one? -/
def eqS (x y : S46) : Bool := x.f0 == y.f0 && ((x.f1.f0 == y.f1.f0 && (x.f1.f1 == y.f1.f1)) && ((x.f2.f0 == y.f2.f0 && (x.f2.f1 == y.f2.f1)) && (x.f3 == y.f3 && (x.f4 == y.f4 && (x.f5 == y.f5)))))
theorem eqS_iff (x y : S46) : eqS x y = true ↔ x = y := by
  obtain ⟨a0, ⟨a1, a2⟩, ⟨a3, a4⟩, a5, a6, a7⟩ := x
  obtain ⟨b0, ⟨b1, b2⟩, ⟨b3, b4⟩, b5, b6, b7⟩ := y
  simp only [eqS, Bool.and_eq_true, beq_iff_eq, S46.mk.injEq, S29.mk.injEq]
theorem one_of (y : S46) : ∀ X : List S46, X.Nodup → y ∈ X → (X.filter (fun x => eqS x y)).length = 1
  | [], _, h => by cases h
  | x :: r, hn, h => by
    have hn' := List.nodup_cons.1 hn
    by_cases he : x = y
    · subst he
      have : r.filter (fun z => eqS z x) = [] := List.filter_eq_nil_iff.2 (fun z hz hzx => hn'.1 (by rw [← (eqS_iff z x).1 hzx]; exact hz))
      rw [List.filter_cons_of_pos (p := fun z => eqS z x) ((eqS_iff x x).2 rfl), this]
      rfl
    · have hr : y ∈ r := (List.mem_cons.1 h).resolve_left (fun hh => he hh.symm)
      rw [List.filter_cons_of_neg (p := fun z => eqS z y) (fun hh => he ((eqS_iff x y).1 hh))]
      exact one_of y r hn'.2 hr
theorem eql46 (x y : S46) (w : World) : (binOp BinOp.eql 46 (.agg #[.int .i64 x.f0, .int .u32 x.f1.f0, .int .i64 x.f1.f1, .int .u32 x.f2.f0, .int .i64 x.f2.f1, .int .i64 x.f3, .int .i64 x.f4, .int .i64 x.f5]) (.agg #[.int .i64 y.f0, .int .u32 y.f1.f0, .int .i64 y.f1.f1, .int .u32 y.f2.f0, .int .i64 y.f2.f1, .int .i64 y.f3, .int .i64 y.f4, .int .i64 y.f5])).run Try.prog w = .ok (.bool (eqS x y)) w := by
  rw [run_eql_struct, show (10000 : Nat) = 9997 + 3 from rfl, eqA46]
  rfl
theorem eql_run (x y : S46) {o : Oper} {a : Act} {p q : Operand} (ho : o.op = .binOp .eql 46 p q 46) (hp : a.eval p = .agg #[.int .i64 x.f0, .int .u32 x.f1.f0, .int .i64 x.f1.f1, .int .u32 x.f2.f0, .int .i64 x.f2.f1, .int .i64 x.f3, .int .i64 x.f4, .int .i64 x.f5]) (hq : a.eval q = .agg #[.int .i64 y.f0, .int .u32 y.f1.f0, .int .i64 y.f1.f1, .int .u32 y.f2.f0, .int .i64 y.f2.f1, .int .i64 y.f3, .int .i64 y.f4, .int .i64 y.f5]) (w : World) :
    (execOp a.eval o).run Try.prog w = .ok (.value (.bool (eqS x y))) w := by
  have h := eql46 x y w
  unfold execOp
  simp [ho, hp, hq, h, Result.andThen, eqGuard]
theorem of_mem {M : List S46} {y : S46} (hy : y ∈ M) : y ∈ M.filter (fun f => f.f0 == y.f0 && (f.f1.f0 == y.f1.f0 && (f.f1.f1 == y.f1.f1))) := List.mem_filter.2 ⟨hy, by simp⟩
end Go.Proofs.Ytkpaibkkigfahaa.Fl
