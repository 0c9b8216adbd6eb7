/- A loop over an iterator that hands rows of memory to its rounds, and whose rounds never leave it. -/
import Derived.RangeFuncNested
import Derived.RangeFuncBound
import Derived.RangeFuncCalls
import Derived.RangeFuncLeaves
import Derived.Shelf.Abstract
import Derived.Shelf.RegionOpen
import Derived.WalkKit
import Derived.OwnWalkIn
import Derived.TacticsInMore
import Derived.LoopNIn
import Derived.LoopIn
import Derived.OrdersHeld
import Derived.OrdersIn
import Derived.Test.YtldddinebhopcaaFr
import Derived.Test.YtldddinebhopcaaWLast
namespace Go.Proofs.Ytldddinebhopcaa.Rg
open Go Go.RowKit
set_option linter.unusedVariables false
set_option linter.unusedSimpArgs false
variable {F : Fence} {n : Nat} {P : Program}
/-- The iterator's word: N rounds; round i is handed i and a value of which Gx tells; between rounds it asks for Dx. -/
def SeqD (F : Fence) (n : Nat) (P : Program) (g : Nat) (lb : Array Value) (N : Nat) (Gx : Nat → Value → World → Prop) (Dx : World → Prop) : Prop :=
  ∀ (l : Nat) (J : Nat → World → Prop) (W : World), (∀ i W, J i W → Dx W) → (∀ i W W', J i W → Below W.heap.size W W' → J i W') →
    (∀ i v W1, i < N → J i W1 → Gx i v W1 → YieldAt F (n - 1) P l #[.int .i64 (i : Int), v] W1 fun e W' => e = .returned (.bool true) ∧ J (i + 1) W') →
    J 0 W → CallsIn F n P g (#[.func (.yield l) #[] #[]] ++ lb) W fun e W' => (∃ v, e = .returned v) ∧ J N W'
def rgPost (D : Nat) (R : World → Prop) (W : World) : Exit → Act → World → Prop
  | .normal, _, W' => W'.heap[D]? = W.heap[D]? ∧ W'.heap[D + 1]? = W.heap[D + 1]? ∧ R W'
  | _, _, _ => False
theorem below_new (W : World) (o : Obj) : Below W.heap.size W (W.alloc o) := (Below.refl _ W).alloc (Nat.le_refl _) o
theorem wpIn_range {g : Operand} {ps : Array Tmp} {assign body : Code} {Q : Exit → Act → World → Prop} {a : Act} {w : World}
    (hro : F.round = none) (h1 : 1 ≤ n) {gf : Nat} {lb : Array Value} (hg : a.eval g = .func (.func gf) #[] lb) (hFg : F.fn gf) (eg : ∀ args w, (callFunc gf args).run P w = .ok (.enter gf args) w)
    {N : Nat} {Gx : Nat → Value → World → Prop} {Dx : World → Prop} (hseq : SeqD F (n - 1) P gf lb N Gx Dx) (hps : 2 = ps.size)
    (I : Nat → World → Prop) (hD : ∀ i W, I i W → Dx W) (hIb : ∀ i W W', I i W → Below W.heap.size W W' → I i W')
    (hIp : ∀ i W r o, I i W → W.heap[w.heap.size + 1]? = some (.loop r) → I i (W.putObj (w.heap.size + 1) (.loop o)))
    (hGp : ∀ i v W r o, Gx i v W → W.heap[w.heap.size + 1]? = some (.loop r) → Gx i v (W.putObj (w.heap.size + 1) (.loop o)))
    (h0 : I 0 w) (a₁ : Nat → Value → Act)
    (hassign : ∀ (l i : Nat) (v : Value) (W : World) (K : Act → World → Prop), K (a₁ i v) W →
      assign.wpIn (F.inRound l) (n - 1 - 1) P (Exit.then K (fun _ _ _ => False)) { tmps := (ps.zip #[.int .i64 (i : Int), v]).foldl (fun t (p, v) => t.setIfInBounds p v) a.tmps, defers := [] } W)
    (hbody : ∀ (l i : Nat) (v : Value) (W : World), i < N → I i W → Gx i v W → (∃ r, W.heap[w.heap.size + 1]? = some (.loop r)) → (∃ r, W.heap[w.heap.size]? = some (.deferred r)) →
      body.wpIn (F.inRound l) (n - 1 - 1) P (rgPost w.heap.size (I (i + 1)) W) (a₁ i v) W)
    (hdone : ∀ (W : World), I N W → W.heap[w.heap.size]? = some (.deferred (some [])) → Q .normal { a with defers := { target := .collected w.heap.size, args := #[] } :: a.defers } W) :
    (Code.rangeFunc g ps assign body).wpIn F n P Q a w := by
  refine wpIn_rangeFunc ?_
  intro fn hfn
  rw [hro]
  obtain ⟨rec, hrec⟩ : ∃ rec : LoopState → Option Code → Loop, rec = fun st pe => { state := st, pending := pe, fn, tmps := a.tmps, params := ps, assign, body, defers := w.heap.size } := ⟨_, rfl⟩
  obtain ⟨W1, hW1⟩ : ∃ W1, (w.alloc (.deferred (some []))).alloc (.loop (rec .ready none)) = W1 := ⟨_, rfl⟩
  have hL1 : W1.heap[w.heap.size + 1]? = some (.loop (rec .ready none)) := by
    rw [← hW1]; have := World.alloc_heap_new (w.alloc (.deferred (some []))) (.loop (rec .ready none)); rwa [World.size_alloc] at this
  have hK1 : W1.heap[w.heap.size]? = some (.deferred (some [])) := by
    rw [← hW1]; exact (Below.heap_alloc _ _ _ (by simp)).trans (World.alloc_heap_new w _)
  have hI1 : I 0 W1 := by rw [← hW1]; exact hIb _ _ _ (hIb _ _ _ h0 (below_new _ _)) (below_new _ _)
  refine ⟨w.heap.size + 1, [{ target := .collected w.heap.size, args := #[] }], W1, { target := .fn (.func gf) lb, args := #[.func (.yield (w.heap.size + 1)) #[] #[]] }, W1, gf,
    #[.func (.yield (w.heap.size + 1)) #[] #[]] ++ lb, W1, ?_, ?_, ?_, ?_, fun _ => h1, ?_⟩
  · rw [← hW1, hrec]; exact run_enterLoop_outer _ _ _ _ _
  · simp only [resolve, hg]
    simp [go_sem]
  · intro f' hf'; simp [Target.leads] at hf'; subst hf'; exact hFg
  · simp [invoke, go_sem, eg]
  · refine (hseq (w.heap.size + 1) (fun i W => I i W ∧ W.heap[w.heap.size + 1]? = some (.loop (rec .ready none)) ∧ W.heap[w.heap.size]? = some (.deferred (some []))) W1
      (fun i W h => hD i W h.1)
      (fun i W W' h hb => ⟨hIb i W W' h.1 hb, (hb.block _ (Array.getElem?_eq_some_iff.1 h.2.1).1).trans h.2.1, (hb.block _ (Array.getElem?_eq_some_iff.1 h.2.2).1).trans h.2.2⟩)
      ?_ ⟨hI1, hL1, hK1⟩).mono ?_
    · rintro i x W hi ⟨hI, hl, hk⟩ hgx
      have hlt : w.heap.size + 1 < W.heap.size := (Array.getElem?_eq_some_iff.1 hl).1
      have hy := run_yield (P := P) (args := #[.int .i64 (i : Int), x]) hl (by rw [hrec]; exact hps)
      rw [hrec] at hy
      refine ⟨fn, _, assign, body, hy, roundIn_of_wpIn hfn (hassign _ i x W _ ⟨_, run_beginRound hl (by rw [hrec]), ?_⟩)⟩
      have hl2 : (W.putObj (w.heap.size + 1) (.loop { rec .ready none with state := .busy })).heap[w.heap.size + 1]? = some (.loop { rec .ready none with state := .busy }) := World.putObj_heap_same hlt
      have hk2 : (W.putObj (w.heap.size + 1) (.loop { rec .ready none with state := .busy })).heap[w.heap.size]? = some (.deferred (some [])) := (World.putObj_heap_other (by omega)).trans hk
      refine wpIn_mono (hbody _ i x _ hi (hIp _ _ _ _ hI hl) (hGp _ _ _ _ _ hgx hl) ⟨_, hl2⟩ ⟨_, hk2⟩) ?_
      rintro e a3 W3 hp
      cases e with
      | normal =>
        obtain ⟨hD3, hL3, hI3⟩ := hp
        have hl3 := hL3.trans hl2
        have hr := run_endRound (P := P) none hl3
        rw [hrec] at hr hl3
        refine ⟨_, _, hr, rfl, hIp _ _ _ _ hI3 hl3, ?_, ?_⟩
        · rw [hrec]; exact World.putObj_heap_same (Array.getElem?_eq_some_iff.1 hl3).1
        · exact (World.putObj_heap_other (by omega)).trans (hD3.trans hk2)
      | ret => exact hp.elim
      | exit id => exact hp.elim
      | goto t => exact hp.elim
      | panic ch => exact hp.elim
      | outgrown => exact hp.elim
    · rintro e W2 ⟨⟨v, rfl⟩, hi, hl, hk⟩
      exact ⟨none, _, by have := run_endLoop (P := P) hl (by rw [hrec]; simp); rw [hrec] at this; exact this, hdone _ (hIp _ _ _ _ hi hl) ((World.putObj_heap_other (by omega)).trans hk)⟩
section
variable {ops : Array Oper} {Q : Exit → Act → World → Prop}
theorem rowsIn_wide' {row : String} {args : Array Value} {w : World} {R : Value → World → Prop} (l n : Nat) (h : Rows P row args w R) : RowsIn (Fence.wide.inRound l) n P row args w R :=
  fun c cs _ => let ⟨v, w', r, s⟩ := h c cs; ⟨v, w', r, stepsIn_wide.2 s⟩
theorem calls_round {f : FuncId} {args : Array Value} {w : World} {R : Ending → World → Prop} (l n : Nat) (h : Calls P f args w R) : CallsIn (Fence.wide.inRound l) n P f args w R :=
  CallsIn.inRound l (callsIn_wide.2 h)
/-- What an operation does in an activation it does in a round, if it defers nothing. -/
theorem oper_round {o : Oper} {a : Act} {w : World} {K : Act → World → Prop} (l n : Nat) (hd : ∀ c, o.op ≠ .defer c) (h : o.wp P a w K Q) : o.wpIn (Fence.wide.inRound l) n P a w K Q := by
  refine ⟨fun f _ => trivial, ?_⟩
  rw [Oper.semAt_eq _ _ _ hd]
  unfold Oper.wp at h
  generalize (execOp a.eval o).run P w = r at *
  cases r with
  | ok x w' =>
    cases x with
    | value v => exact h
    | skip => exact h
    | defer d => exact h
    | enter f args => exact ⟨(fun hh => by cases hh), calls_round l _ h⟩
    | row row args => exact ⟨(fun hh => by cases hh), rowsIn_wide' l _ h⟩
    | _ => exact h.elim
  | halt x w' => cases x <;> first | exact h | exact h.elim
def noDefer (ops : Array Oper) : Bool := ops.all fun o => match o.op with | .defer _ => false | _ => true
theorem noDefer_at (h : noDefer ops = true) {i : Nat} {o : Oper} (ho : ops[i]? = some o) : ∀ c, o.op ≠ .defer c := by
  intro c hc
  have hi : i < ops.size := by
    rcases Nat.lt_or_ge i ops.size with h' | h'
    · exact h'
    · simp [Array.getElem?_eq_none h'] at ho
  have h2 := (Array.all_eq_true.1 h) i hi
  rw [Array.getElem?_eq_getElem hi] at ho
  injection ho with ho
  rw [ho, hc] at h2
  cases h2
theorem ops_round (l n : Nat) (hd : noDefer ops = true) (hL : ¬ LetsOut Q) : ∀ (s : List Nat) (a : Act) (w : World), wpOps P ops Q s a w → wpOpsIn (Fence.wide.inRound l) n P ops Q s a w
  | [], _, _, h => h
  | i :: s, a, w, h => by
    unfold wpOpsIn
    unfold wpOps at h
    cases ho : ops[i]? with
    | none => simp only [ho] at h ⊢; exact ops_round l n hd hL s a w h
    | some o =>
      simp only [ho] at h ⊢
      split
      · rename_i hw
        rw [if_pos hw] at h
        rcases h with h | ⟨_, h⟩
        · exact Oper.wpIn_mono (fun a w h => ops_round l n hd hL s a w h) (oper_round l n (noDefer_at hd ho) h)
        · exact absurd h hL
      · rename_i hw
        rw [if_neg hw] at h
        exact ⟨fun _ _ => trivial, ops_round l n hd hL s _ w h⟩
/-- A region that draws its order, in a round: walked as in an activation. -/
theorem region_round {id k : Nat} {a : Act} {w : World} {S : World → Prop} {ds : List Nat} (l n : Nat) (la : Array Bool) (hd : noDefer ops = true) (hL : ¬ LetsOut Q) (hm : P.follows .mixedOrders = true) (hn : ops.size = k) (hl : Array.replicate k false = la) (hS : S w.drew)
    (h : S w.drew → Go.Proofs.YtldddinebhopcaaW.PrintLast.wpAnyLast P .any ops Q S ds k la a w.drew) : (Code.region id ops true).wpIn (Fence.wide.inRound l) n P Q a w := by
  subst hn
  subst hl
  refine wpIn_region_draw fun t => ops_round l n hd hL _ _ _ ?_
  simp only [Region.schedule, hm, Bool.true_or, if_true]
  exact wpAny_sound ops.size t _ a _ (Go.Proofs.YtldddinebhopcaaW.PrintLast.wpAny_of_last _ _ _ _ (h hS))
end
end Go.Proofs.Ytldddinebhopcaa.Rg
