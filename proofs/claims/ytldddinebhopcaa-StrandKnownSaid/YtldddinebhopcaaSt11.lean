/- strand over its disk: what stays true; the deeds on both. -/
import Derived.Test.YtldddinebhopcaaSt10
namespace Go.Proofs.Ytldddinebhopcaa.St
open Go.RowKit Go.Shelf Go.Proofs.YtldddinebhopcaaW.PrintWords Go.Proofs.YtldddinebhopcaaW.PrintLast Go.Proofs.YtldddinebhopcaaW.PrintMore Go.Proofs.Ytldddinebhopcaa.Bs Go.Proofs.Ytldddinebhopcaa.Fr Go.Proofs.Ytldddinebhopcaa.Oct Go.Proofs.Ytldddinebhopcaa.Sec Go.Proofs.Ytldddinebhopcaa.Rg
set_option linter.unusedVariables false
set_option linter.unusedSimpArgs false
theorem Byt.app {a b : List Int} (h : Byt a) (k : Byt b) : Byt (a ++ b) := fun x hx => (List.mem_append.1 hx).elim (h x) (k x)
theorem padL_byt {l : List Int} (h : Byt l) : Byt (padL l) := Byt.app h (fun x hx => by rw [List.eq_of_mem_replicate hx]; omega)
theorem set_byt {s : List (List Int)} {b : List Int} (hs : ∀ x ∈ s, Byt x) (hb : Byt b) (i : Nat) : ∀ x ∈ s.set i b, Byt x := fun x hx => by
  rcases List.mem_or_eq_of_mem_set hx with h | h
  · exact hs x h
  · rw [h]; exact hb
theorem getD_byt {s : List (List Int)} (hs : ∀ x ∈ s, Byt x) (i : Nat) : Byt (s.getD i zB) := by
  rcases Nat.lt_or_ge i s.length with h | h
  · rw [List.getD_eq_getElem?_getD, List.getElem?_eq_getElem h]; exact hs _ (List.getElem_mem h)
  · rw [List.getD_eq_getElem?_getD, List.getElem?_eq_none h]; intro x hx; cases (show x ∈ ([] : List Int) from hx)
theorem laid_byt (l : List (Int × List Int)) : ∀ s : List (List Int), (∀ x ∈ s, Byt x) → (∀ p ∈ l, Byt p.2) → ∀ x ∈ laid s l, Byt x := by
  induction l with
  | nil => intro s hs _; exact hs
  | cons p r ih => intro s hs hl; exact ih _ (set_byt hs (hl p List.mem_cons_self) _) (fun q hq => hl q (List.mem_cons_of_mem _ hq))
theorem BM.took {m : DM} (h : BM m) : BM (took m) := h
theorem BM.waits {m : DM} (h : BM m) (l : List Int) : BM (waits m l) := h
theorem BM.wrM {m : DM} (h : BM m) (i : Int) {b : List Int} (hb : Byt b) : BM (wrM m i b) := by
  unfold Sec.wrM
  split
  · split
    · exact h
    · refine ⟨set_byt h.1 hb _, h.2.1, fun p hp => ?_⟩
      rcases List.mem_append.1 (show p ∈ m.since ++ [((i.toNat : Int), b)] from hp) with q | q
      · exact h.2.2 p q
      · rw [List.mem_singleton.1 q]; exact hb
  · exact h
theorem BM.syM {m : DM} (h : BM m) : BM (syM m) := by
  unfold Sec.syM
  split
  · exact h
  · exact ⟨h.1, laid_byt _ _ h.2.1 h.2.2, fun p hp => by cases (show p ∈ ([] : List (Int × List Int)) from hp)⟩
theorem leftM_byt {a b : List Int} (ha : Byt a) (hb : Byt b) (c : Int) : Byt (leftM a b c) := by
  unfold leftM
  split
  · exact hb
  · split
    · exact ha
    · exact Byt.app (hb.take _) (ha.drop _)
theorem crashTo_byt {s : List (List Int)} {l : List (Int × List Int)} (hs : ∀ x ∈ s, Byt x) (hl : ∀ p ∈ l, Byt p.2) (ch : List Int) : ∀ j, ∀ x ∈ crashTo s l ch j, Byt x
  | 0 => hs
  | j + 1 => by
    refine set_byt (crashTo_byt hs hl ch j) (leftM_byt (getD_byt (crashTo_byt hs hl ch j) _) ?_ _) _
    rcases Nat.lt_or_ge j l.length with h | h
    · rw [List.getD_eq_getElem?_getD, List.getElem?_eq_getElem h]; exact hl _ (List.getElem_mem h)
    · rw [List.getD_eq_getElem?_getD, List.getElem?_eq_none h]; intro x hx; cases (show x ∈ ([] : List Int) from hx)
theorem BM.crashed {m : DM} (h : BM m) (ch : List Int) : BM (crashed m ch) := ⟨crashTo_byt h.2.1 h.2.2 ch _, crashTo_byt h.2.1 h.2.2 ch _, fun p hp => by cases (show p ∈ ([] : List (Int × List Int)) from hp)⟩
theorem wrM_len (m : DM) (i : Int) (b : List Int) : (wrM m i b).now.length = m.now.length := by
  unfold wrM
  split
  · split
    · rfl
    · show (m.now.set _ b).length = _; rw [List.length_set]
  · rfl
theorem syM_len (m : DM) : (syM m).now.length = m.now.length := by
  unfold syM
  split <;> rfl
theorem stM_SI {m : SM} {d : DM} (h : SI m d.now.length) (b : List Int) : SI (stM m d b) d.now.length ∧ ((stM m d b).at_ < d.now.length → (stM m d b).ahead.length + (b.length + 7) ≤ 64 ∨ 57 < b.length) := by
  unfold stM stepM
  split
  · rename_i hc
    refine ⟨h.next hc.1, fun _ => ?_⟩
    show 0 + (b.length + 7) ≤ 64 ∨ _
    omega
  · rename_i hc
    refine ⟨h, fun hl => ?_⟩
    have hc : ¬ (m.at_ < (d.now.length : Int) ∧ 64 < m.ahead.length + (b.length + 7)) := hc
    left
    omega
/-- Append of any body. -/
def aE (m : SM) (d : DM) (b : List Int) : Int := if b.length = 0 ∨ 56 < b.length then (if b.length = 0 then 1 else 3) else apE m d b
def aD (m : SM) (d : DM) (b : List Int) : DM := if b.length = 0 ∨ 56 < b.length then d else apD m d b
def aS (m : SM) (d : DM) (b : List Int) : SM := if b.length = 0 ∨ 56 < b.length then m else apS m d b
theorem aD_len (m : SM) (d : DM) (b : List Int) : (aD m d b).now.length = d.now.length := by
  unfold aD apD
  split
  · rfl
  · split
    · rfl
    · exact wrM_len _ _ _
theorem aD_BM {m : SM} {d : DM} (h : BM d) (hi : SI m d.now.length) {b : List Int} (hb : Byt b) : BM (aD m d b) := by
  unfold aD apD
  split
  · exact h
  · split
    · exact h
    · exact h.wrM _ (padL_byt (Byt.app (stM_SI hi b).1.byt (frameL_byt b hb (by omega))))
theorem aS_SI {m : SM} {d : DM} (h : SI m d.now.length) {b : List Int} (hb : Byt b) : SI (aS m d b) d.now.length := by
  obtain ⟨h1, h2⟩ := stM_SI h b
  unfold aS apS
  split
  · exact h
  · rename_i hc
    split
    · exact h1
    · rename_i hf
      have hl : (stM m d b).at_ < d.now.length := by unfold apFull at hf; omega
      split
      · exact h1.next hl
      · refine ⟨h1.a0, h1.a1, ?_, fun _ => hl, Byt.app h1.byt (frameL_byt b hb (by omega))⟩
        show ((stM m d b).ahead ++ frameL b).length ≤ 64
        rw [List.length_append, frameL_len]
        rcases h2 hl with q | q <;> omega
theorem sySM_SI {m : SM} {N : Nat} (h : SI m N) (e : Int) : SI (sySM m e) N := by
  unfold sySM
  split
  · rename_i hc
    exact h.next (h.e (fun hh => hc.2 (by rw [hh]; rfl)))
  · exact h
theorem opA_SI (d : DM) : SI (openM d) d.now.length := ⟨(opA_range _ _).1, (opA_range _ _).2, by show 0 ≤ 64; omega, fun h => absurd rfl h, fun _ h => by cases h⟩
theorem aS_recs (m : SM) (d : DM) (b : List Int) : (aS m d b).recs.length ≤ m.recs.length + 1 := by
  have hst : (stM m d b).recs = m.recs := by unfold stM stepM; split <;> rfl
  unfold aS apS
  split
  · omega
  · split
    · rw [hst]; omega
    · split
      · show (stM m d b).recs.length ≤ _; rw [hst]; omega
      · show ((stM m d b).recs ++ [_]).length ≤ _; rw [hst, List.length_append]; exact Nat.le_refl _
theorem sySM_recs (m : SM) (e : Int) : (sySM m e).recs = m.recs := by unfold sySM; split <;> rfl
theorem aS_short {m : SM} (d : DM) (b : List Int) (h : ∀ r ∈ m.recs, r.1.length ≤ 1000) : ∀ r ∈ (aS m d b).recs, r.1.length ≤ 1000 := by
  have hst : (stM m d b).recs = m.recs := by unfold stM stepM; split <;> rfl
  unfold aS apS
  split
  · exact h
  · rename_i hc
    split
    · rw [hst]; exact h
    · split
      · intro r hr; exact h r (by rw [← hst]; exact hr)
      · intro r hr
        rcases List.mem_append.1 (show r ∈ (stM m d b).recs ++ [(b, (stM m d b).at_)] from hr) with q | q
        · exact h r (by rw [← hst]; exact q)
        · rw [List.mem_singleton.1 q]; show b.length ≤ 1000; omega
/-- A strand over its disk, apart from all of E. -/
structure SD (w : World) (base : Nat) (E : Nat → Prop) (g : Nat) (v0 v1 v2 v3 : Value) (d : DM) (gs : Nat) (u2 u3 : Value) (m : SM) : Prop where
  dv : DV w base g v0 v1 v2 v3 d
  sv : SV w base (fun k => ¬ foot g v0 v1 v2 v3 k ∧ ¬ E k) gs g u2 u3 m
  gn : ¬ foot g v0 v1 v2 v3 gs
  b : base ≤ w.heap.size
  bm : BM d
  i : SI m d.now.length
  gg : base ≤ gs
  short : ∀ r ∈ m.recs, r.1.length ≤ 1000
  e : ∀ k, E k → k < w.heap.size
  ne : ¬ E gs
  nd : ∀ k, foot g v0 v1 v2 v3 k → ¬ E k
/-- All that a strand and its disk may write. -/
def sfoot (g : Nat) (v0 v1 v2 v3 : Value) (gs : Nat) (u3 : Value) : Nat → Prop := fun k => foot g v0 v1 v2 v3 k ∨ k = gs ∨ own u3 k
section
variable {w w' : World} {base : Nat} {E : Nat → Prop} {g : Nat} {v0 v1 v2 v3 : Value} {d : DM} {gs : Nat} {u2 u3 : Value} {m : SM}
theorem SD.keep (h : SD w base E g v0 v1 v2 v3 d gs u2 u3 m) {F : Nat → Prop} (k : Fr w w' F) (hF : ∀ q, F q → E q) : SD w' base E g v0 v1 v2 v3 d gs u2 u3 m :=
  ⟨h.dv.keep k (fun q hq hf => h.nd q hq (hF q hf)), h.sv.keep k (fun q hq hf => hq.2 (hF q hf)) (fun hf => h.ne (hF _ hf)), h.gn, Nat.le_trans h.b k.size, h.bm, h.i, h.gg, h.short, fun q hq => Nat.lt_of_lt_of_le (h.e q hq) k.size, h.ne, h.nd⟩
theorem SD.below (h : SD w base E g v0 v1 v2 v3 d gs u2 u3 m) (hb : Below w.heap.size w w') : SD w' base E g v0 v1 v2 v3 d gs u2 u3 m :=
  h.keep (F := fun _ => False) (Fr.of_below hb _) (fun _ hf => hf.elim)
/-- E may be another, if it is apart from what is written, and from what lies there. -/
theorem SD.lt (h : SD w base E g v0 v1 v2 v3 d gs u2 u3 m) : ∀ k, sfoot g v0 v1 v2 v3 gs u3 k → k < w.heap.size ∧ base ≤ k ∧ ¬ E k := by
  rintro k (hk | rfl | hk)
  · exact ⟨h.dv.foot_lt k hk, h.dv.foot_ge k hk, h.nd k hk⟩
  · exact ⟨blk_lt h.sv.blk, h.gg, h.ne⟩
  · have := h.sv.recs.1 k hk
    exact ⟨Kd.R_lt h.sv.recs k hk, Kd.R_base h.sv.recs k hk, this.2⟩
/-- An argument's row, that was there ahead of all. -/
theorem arg_out {w0 : World} {A : Option Addr} {b : List Int} (hC : Kd.C (Kd.int .u8) w0 A b.length b) (h : SD w base E g v0 v1 v2 v3 d gs u2 u3 m) (hb : w0.heap.size ≤ base) : ∀ a, A = some a → 0 < b.length → ¬ sfoot g v0 v1 v2 v3 gs u3 a.block := by
  intro a ha h0 hf
  obtain ⟨ad, e, hc⟩ := (Kd.reads_of_C (d := (0 : Int)) hC).2.2 h0
  rw [ha] at e
  injection e with e
  subst e
  have h1 := hc 0 h0
  have hlt : a.block < w0.heap.size := by
    have e0 : a.add 0 = a := by unfold Addr.add; simp
    rw [e0] at h1
    obtain ⟨o, ho, _⟩ := not_walk_of_cell h1
    exact blk_lt ho
  have := (h.lt _ hf).2.1
  omega
end
end Go.Proofs.Ytldddinebhopcaa.St
