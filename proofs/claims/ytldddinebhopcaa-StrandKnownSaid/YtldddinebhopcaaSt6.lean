/- strand.Strand: how it lies in memory. -/
import Derived.Test.YtldddinebhopcaaSt5
namespace Go.Proofs.Ytldddinebhopcaa.St
open Go.RowKit Go.Shelf Go.Proofs.YtldddinebhopcaaW.PrintWords Go.Proofs.YtldddinebhopcaaW.PrintLast Go.Proofs.YtldddinebhopcaaW.PrintMore Go.Proofs.Ytldddinebhopcaa.Bs Go.Proofs.Ytldddinebhopcaa.Fr Go.Proofs.Ytldddinebhopcaa.Oct Go.Proofs.Ytldddinebhopcaa.Sec Go.Proofs.Ytldddinebhopcaa.Rg
set_option linter.unusedVariables false
set_option linter.unusedSimpArgs false
def kRec : Kd (List Int × Int) := Kd.pair (Kd.slice 5 (Kd.int .u8)) (Kd.int .i64)
structure SM where
  at_ : Int
  ahead : List Int
  recs : List (List Int × Int)
/-- The strand of block gs over the disk of block gd, its rows told; all their blocks are ok. -/
structure SV (w : World) (base : Nat) (ok : Nat → Prop) (gs gd : Nat) (v2 v3 : Value) (m : SM) : Prop where
  blk : w.heap[gs]? = some (.cells #[.pointer (some ⟨gd, 0, none⟩), .int .i64 m.at_, v2, v3] 77 (0, 0))
  ahead : Kd.R (Kd.int .u8) 5 w base ok v2 m.ahead
  recs : Kd.R kRec 81 w base ok v3 m.recs
section
variable {w w' w1 : World} {base gs gd : Nat} {ok ok' : Nat → Prop} {v2 v3 : Value} {m : SM} {F : Nat → Prop}
theorem SV.keep (h : SV w base ok gs gd v2 v3 m) (k : Fr w w' F) (hn : ∀ q, ok q → ¬ F q) (hg : ¬ F gs) : SV w' base ok gs gd v2 v3 m :=
  ⟨k.blk h.blk hg, Kd.R_kept h.ahead k.2 hn, Kd.R_kept h.recs k.2 hn⟩
theorem SV.below (h : SV w base ok gs gd v2 v3 m) (hb : Below w.heap.size w w') : SV w' base ok gs gd v2 v3 m := ⟨blk_below h.blk hb, Kd.R_below h.ahead hb, Kd.R_below h.recs hb⟩
theorem SV.okto (h : SV w base ok gs gd v2 v3 m) (hk : ∀ k, ok k → base ≤ k → k < w.heap.size → ok' k) : SV w base ok' gs gd v2 v3 m :=
  ⟨h.blk, Kd.R_mono (Kd.R_bound h.ahead) (fun k q => hk k q.1 q.2.1 q.2.2.1), Kd.R_mono (Kd.R_bound h.recs) (fun k q => hk k q.1 q.2.1 q.2.2.1)⟩
theorem SV.lower (h : SV w base ok gs gd v2 v3 m) {base' : Nat} (hb : base' ≤ base) : SV w base' ok gs gd v2 v3 m := ⟨h.blk, Kd.R_lower h.ahead hb, Kd.R_lower h.recs hb⟩
theorem tyU (q : Nat) (hq : q ∈ 5 :: (Kd.int .u8).E) : q ≠ 77 ∧ q ≠ 81 := by rw [List.mem_singleton.1 hq]; decide
theorem tyR (q : Nat) (hq : q ∈ 81 :: kRec.E) : q ≠ 77 := by
  rcases List.mem_cons.1 hq with rfl | h
  · decide
  · rw [List.mem_singleton.1 (show q ∈ [5] from h)]; decide
/-- Another field of the strand is written. -/
theorem SV.set (h : SV w base ok gs gd v2 v3 m) (x : Int) : SV (w.setCell ⟨gs, 1, none⟩ (.int .i64 x)) base ok gs gd v2 v3 ⟨x, m.ahead, m.recs⟩ ∧ Fr w (w.setCell ⟨gs, 1, none⟩ (.int .i64 x)) (fun k => k = gs) :=
  ⟨⟨blk_set h.blk 1 _, Kd.R_set h.ahead h.blk (fun q hq => (tyU q hq).1) 1 _, Kd.R_set h.recs h.blk tyR 1 _⟩, Fr.set (g := gs) (F := fun k => k = gs) (Fr.refl w (fun k => k = gs)) (Or.inl rfl) _⟩
theorem SV.ahd (h : SV w base ok gs gd v2 v3 m) {v : Value} {l : List Int} (hR : Kd.R (Kd.int .u8) 5 w base ok v l) : SV (w.setCell ⟨gs, 2, none⟩ v) base ok gs gd v v3 ⟨m.at_, l, m.recs⟩ ∧ Fr w (w.setCell ⟨gs, 2, none⟩ v) (fun k => k = gs) :=
  ⟨⟨blk_set h.blk 2 _, Kd.R_set hR h.blk (fun q hq => (tyU q hq).1) 2 _, Kd.R_set h.recs h.blk tyR 2 _⟩, Fr.set (g := gs) (F := fun k => k = gs) (Fr.refl w (fun k => k = gs)) (Or.inl rfl) _⟩
theorem SV.push (h : SV w base ok gs gd v2 v3 m) {v : Value} {l : List (List Int × Int)} (hR : Kd.R kRec 81 w1 base ok v l) (hg : w.grownBy w1 v3.ownBlock) :
    SV (w1.setCell ⟨gs, 3, none⟩ v) base ok gs gd v2 v ⟨m.at_, m.ahead, l⟩ ∧ Fr w (w1.setCell ⟨gs, 3, none⟩ v) (fun k => k = gs ∨ own v3 k) := by
  have hb : w1.heap[gs]? = _ := (hg.block gs (blk_lt h.blk) (fun he => Kd.R_ne h.recs h.blk (by decide) he)).trans h.blk
  exact ⟨⟨blk_set hb 3 _, Kd.R_set (Kd.R_over h.ahead h.recs (fun q hq => (tyU q hq).2) hg) hb (fun q hq => (tyU q hq).1) 3 _, Kd.R_set hR hb tyR 3 _⟩,
    (Fr.grown (Fr.refl w (fun k => k = gs ∨ own v3 k)) hg (fun k hk => .inl (.inr hk))).set (.inl (.inl rfl)) _⟩
/-- A record is put behind the others, its body a row that lies there. -/
theorem kRec_M {v : Value} {D : List Int} {x : Int} (h : Kd.R (Kd.int .u8) 5 w base ok v D) : kRec.M w base ok (D, x) [v, .int .i64 x] := ⟨[v], [.int .i64 x], rfl, ⟨v, rfl, h⟩, rfl⟩
end
theorem infoU : (Try.prog.info? 5).map (fun i => (i.zero, i.size, i.bytes)) = some (some (.int .u8 0), 1, 1) := by kernel_rfl
theorem infoRec : (Try.prog.info? 81).map (fun i => (i.zero, i.size, i.bytes)) = some (some (.agg #[.slice none 0 0, .int .i64 0]), 2, 32) := by kernel_rfl
/-- What is found on the first k sectors. -/
def opA (s : List (List Int)) : Nat → Int
  | 0 => 0
  | i + 1 => if blankB (s.getD i zB) = true then opA s i else (i : Int) + 1
def tagL (l : List (List Int)) (i : Int) : List (List Int × Int) := l.map (fun b => (b, i))
def opR (s : List (List Int)) : Nat → List (List Int × Int)
  | 0 => []
  | i + 1 => opR s i ++ tagL (scanL (s.getD i zB)) i
theorem opA_range (s : List (List Int)) : ∀ i, 0 ≤ opA s i ∧ opA s i ≤ i
  | 0 => by unfold opA; omega
  | i + 1 => by
    have := opA_range s i
    unfold opA
    split <;> omega
theorem scanL_len (l : List Int) : (scanL l).length ≤ l.length := scanM_len _ l
def openM (m : DM) : SM := ⟨opA m.now m.now.length, [], opR m.now m.now.length⟩
/-- The bytes of a disk's sectors. -/
def BM (m : DM) : Prop := (∀ s ∈ m.now, Byt s) ∧ (∀ s ∈ m.sure, Byt s) ∧ ∀ p ∈ m.since, Byt p.2
theorem BM.sec {m : DM} (h : BM m) (i : Nat) (hi : i < m.now.length) : Byt (m.now.getD i zB) := h.1 _ (by
  rw [List.getD_eq_getElem?_getD, List.getElem?_eq_getElem hi]
  exact List.getElem_mem hi)
theorem putObj_fr {W : World} {l : Nat} {o : Obj} (o' : Obj) (h : W.heap[l]? = some o) : Fr W (W.putObj l o') (fun k => k = l) :=
  Fr.grown (Fr.refl W _) (grownBy_putObj' W l o') (fun k hk => by cases hk; exact .inl rfl)
end Go.Proofs.Ytldddinebhopcaa.St
