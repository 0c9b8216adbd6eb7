/- ask.Read: a version that is not known. -/
import Derived.Test.YtpjkbokojlpjoaaAsk1
namespace Go.Proofs.Ytpjkbokojlpjoaa.Ak
open Go.RowKit Go.Proofs.YtpjkbokojlpjoaaW.PrintWords Go.Proofs.YtpjkbokojlpjoaaW.PrintLast Go.Proofs.YtpjkbokojlpjoaaW.PrintMore Go.Proofs.Ytpjkbokojlpjoaa.Bs Go.Proofs.Ytpjkbokojlpjoaa.Fr Go.Proofs.Ytpjkbokojlpjoaa.Oct
set_option linter.unusedVariables false
set_option linter.unusedSimpArgs false

/-- A reader of bytes. -/
def RB (w : World) (g : Nat) (A : Option Addr) (n c : Nat) (m : AM) : Prop := w.heap[g]? = some (.cells (Value.slice A n c :: m.cells).toArray 52 (0, 0))
theorem RB.k0 {w : World} {g : Nat} {A : Option Addr} {n c : Nat} {m : AM} (h : RB w g A n c m) : w.cell? ⟨g, 0, none⟩ = some (.slice A n c) := by rw [blk_cell h 0]; rfl
theorem at_one {w : World} {A : Option Addr} {b : List Int} (hC : Kd.C (Kd.int .u8) w A b.length b) (i : Int) (h0 : 0 ≤ i) (h1 : i < b.length) : ∃ ad, A = some ad ∧ w.cell? (ad.add i.toNat) = some (.int .u8 (rd b i)) :=
  (Kd.reads_of_C (d := (0 : Int)) hC).at_ i h0 h1
theorem at_zero {w : World} {ad : Addr} {b : List Int} (hC : Kd.C (Kd.int .u8) w (some ad) b.length b) (h1 : 0 < b.length) : w.cell? ad = some (.int .u8 (rd b 0)) := by
  obtain ⟨_, e, h⟩ := at_one hC 0 (by omega) (by omega)
  cases e
  have e : ad.add 0 = ad := by cases ad; rename_i a b c; cases c <;> simp [Addr.add]
  rw [show (0 : Int).toNat = 0 from rfl, e] at h
  exact h
set_option maxHeartbeats 1000000 in
set_option maxRecDepth 100000 in
theorem head_version (g : Nat) (A : Option Addr) (c : Nat) (m : AM) (b : List Int) (w : World) (h : RB w g A b.length c m) (hC : Kd.C (Kd.int .u8) w A b.length b) (hl : 2 ≤ b.length) (hb : ¬ rd b (0 : Nat) = 2) :
    Calls Try.prog 23 #[.pointer (some ⟨g, 0, none⟩)] w fun e w' => e = thrown 1 ∧ w' = w := by
  have k0 := h.k0
  obtain ⟨ad, e1, _⟩ := at_one hC 0 (by omega) (by omega)
  subst e1
  have c0 := at_zero hC (by omega)
  have hn0 : (0 : Int) ≤ 0 ∧ (0 : Int) < (b.length : Int) := ⟨by omega, by omega⟩
  have hbn : (rd b 0 != 2) = true := by simpa using hb
  clear h hC
  generalize rd b 0 = x at *
  go_enter Try.func23, Try.ntmps23
  go_wp2_with (go_at_call 22; refine (refuse_bad 1 _).mono ?_; rintro e w' ⟨he, rfl⟩; unfold thrown at he; subst he)
  exact ⟨rfl, rfl, rfl⟩
theorem and_128 (x : Int) (h0 : 0 ≤ x) (h1 : x < 128) : Go.bits .and .u8 x 128 = 0 := by
  obtain ⟨n, rfl⟩ := Int.eq_ofNat_of_zero_le h0
  have hn : n < 128 := by omega
  have : ∀ n : Fin 128, Go.bits .and .u8 ((n.val : Nat) : Int) 128 = 0 := by decide
  exact this ⟨n, hn⟩
theorem zc52_ne : ¬ zc52 = #[] := by
  intro h
  have := congrArg Array.size h
  unfold zc52 at this
  simp at this
theorem zc52_set (v : Value) : zc52.setIfInBounds 0 v = (v :: az.cells).toArray := rfl
/-- The parts, as functions. -/
def parts (s g : Nat) : Array Value := #[Value.func (Fn.func 23) #[Value.pointer (some ⟨g, 0, none⟩)] #[], Value.func (Fn.func 21) #[] #[Value.pointer (some ⟨g + 1, 0, none⟩), Value.pointer (some ⟨s, 0, none⟩)], Value.func (Fn.func 24) #[Value.pointer (some ⟨g, 0, none⟩)] #[], Value.func (Fn.func 25) #[Value.pointer (some ⟨g, 0, none⟩)] #[]]
/-- Behind the parts' being laid. -/
def W1 (w1 : World) (s : Nat) (A : Option Addr) (n c : Nat) : World := ((w1.alloc (Obj.cells (Value.slice A n c :: az.cells).toArray 52)).alloc (Obj.cells #[Value.pointer (some ⟨w1.heap.size, 0, none⟩)] 50)).alloc (Obj.cells (parts s w1.heap.size) 1)
theorem W1_rb (w1 : World) (s : Nat) (A : Option Addr) (n c : Nat) : RB (W1 w1 s A n c) w1.heap.size A n c az := by
  unfold RB W1
  exact blk_alloc (blk_alloc (blk_new w1 _) _) _
theorem W1_ptr (w1 : World) (s : Nat) (A : Option Addr) (n c : Nat) : (W1 w1 s A n c).heap[w1.heap.size + 1]? = some (.cells #[Value.pointer (some ⟨w1.heap.size, 0, none⟩)] 50 (0, 0)) := by
  unfold W1
  refine blk_alloc ?_ _
  have h := blk_new (w1.alloc (Obj.cells (Value.slice A n c :: az.cells).toArray 52)) (Obj.cells #[Value.pointer (some ⟨w1.heap.size, 0, none⟩)] 50)
  rw [World.size_alloc] at h
  exact h
theorem W1_parts (w1 : World) (s : Nat) (A : Option Addr) (n c : Nat) : (W1 w1 s A n c).heap[w1.heap.size + 1 + 1]? = some (.cells (parts s w1.heap.size) 1 (0, 0)) := by
  unfold W1
  have h := blk_new ((w1.alloc (Obj.cells (Value.slice A n c :: az.cells).toArray 52)).alloc (Obj.cells #[Value.pointer (some ⟨w1.heap.size, 0, none⟩)] 50)) (Obj.cells (parts s w1.heap.size) 1)
  rw [World.size_alloc, World.size_alloc] at h
  exact h
theorem W1_below (w1 : World) (s : Nat) (A : Option Addr) (n c : Nat) : Below w1.heap.size w1 (W1 w1 s A n c) := by
  unfold W1
  refine Below.alloc (Below.alloc (below_alloc (Below.refl _ _) _) ?_ _) ?_ _
  · rw [World.size_alloc]; omega
  · rw [World.size_alloc, World.size_alloc]; omega
theorem W1_size (w1 : World) (s : Nat) (A : Option Addr) (n c : Nat) : (W1 w1 s A n c).heap.size = w1.heap.size + 3 := by
  unfold W1
  rw [World.size_alloc, World.size_alloc, World.size_alloc]
theorem Res.below {w w' : World} {s : Nat} {x : AM} {cd : Int} {b : Bool} (h : Res w s x cd b) (k : Below w.heap.size w w') : Res w' s x cd b :=
  ⟨blk_below h.ask k, blk_below h.code k, blk_below h.is k⟩
set_option maxHeartbeats 1000000 in
set_option maxRecDepth 100000 in
theorem Read_head (A : Option Addr) (c : Nat) (b : List Int) (fm cd : Int) (w : World) (hC : Kd.C (Kd.int .u8) w A b.length b) (hl : 2 ≤ b.length) (h0 : 0 ≤ rd b 1) (hb : rd b 1 < 128)
    (HT : ∀ w1 g, RB w1 g A b.length c az → Kd.C (Kd.int .u8) w1 A b.length b → Calls Try.prog 23 #[.pointer (some ⟨g, 0, none⟩)] w1 fun e w' => e = thrown cd ∧ w' = w1) :
    Calls Try.prog 9 #[.slice A b.length c, .int .u32 fm] w fun e w' => e = .returned (.tuple #[az.val, .int .i64 cd, .bool true]) ∧ Below w.heap.size w w' := by
  have hmf : ∀ (fn : Fn) (first cap : Array Value) (w : World), (Instr.makeFunc fn first cap).run Try.prog w = .ok (.func fn first cap) w := fun _ _ _ _ => rfl
  have HC := Aside0.mk hC
  have HH := Aside0.mk HT
  obtain ⟨ad, e1, c1⟩ := at_one hC 1 (by omega) (by omega)
  subst e1
  have c1' : (W0 w fm).cell? ⟨ad.block, ad.off + 1, none⟩ = some (.int .u8 (rd b 1)) := pw_cell_below (W0_below w fm) c1
  have hn1 : (0 : Int) ≤ 1 ∧ (1 : Int) < (b.length : Int) := ⟨by omega, by omega⟩
  have hand := and_128 (rd b 1) h0 hb
  have hlt : ¬ (b.length : Int) < 2 := by omega
  have hlb := decide_eq_false hlt
  have h29 := z29
  have h52 := z52
  have hne : ¬ zc52 = #[] := zc52_ne
  have hset := zc52_set
  unfold W0 at c1'
  clear hC HT c1
  go_enter_defers Try.func9, Try.ntmps9
  go_upto_region 3 with fail
  clear c1' hn1 hand hlt hlb h29
  show Code.wp _ _ _ _ (W0 w fm)
  have X0 := Aside0.mk (W0_res w fm)
  have F0 := Aside0.mk (W0_from w fm)
  have B0 := Aside0.mk (W0_below w fm)
  have S0 := Aside0.mk (W0_size w fm)
  generalize W0 w fm = w1 at *
  go_upto_region 7 with fail
  show Code.wp _ _ _ _ (W1 w1 w.heap.size (some ad) b.length c)
  have R1 := Aside0.mk (W1_rb w1 w.heap.size (some ad) b.length c)
  have B1 := Aside0.mk (below_step B0.out (W1_below w1 w.heap.size (some ad) b.length c))
  have X1 := Aside0.mk (X0.out.below (W1_below w1 w.heap.size (some ad) b.length c))
  have kp : (W1 w1 w.heap.size (some ad) b.length c).cell? ⟨w1.heap.size + 1 + 1, 0, none⟩ = some (Value.func (Fn.func 23) #[Value.pointer (some ⟨w1.heap.size, 0, none⟩)] #[]) := blk_cell (W1_parts w1 w.heap.size (some ad) b.length c) 0
  generalize W1 w1 w.heap.size (some ad) b.length c = w2 at *
  have C2 := Aside0.mk (Kd.C_below HC.out B1.out)
  go_loopg [36] 1 (fun q v36 wr => v36 = .int .i64 0 ∧ wr = w2)
  case atStart => exact ⟨rfl, rfl⟩
  case round =>
    obtain ⟨rfl, rfl⟩ := hrel
    go_wp2_with (go_at_call 23; refine (HH.out _ _ R1.out C2.out).mono ?_; rintro e w' ⟨he, rfl⟩; unfold thrown at he; subst he)
    refine leaves_cons (f := 20) (args := #[.pointer (some ⟨w.heap.size + 1, 0, none⟩), .pointer (some ⟨w.heap.size + 1 + 1, 0, none⟩), .pointer (some ⟨w.heap.size + 1 + 1 + 1, 0, none⟩)]) (by simp) (by simp [go_sem]) ?_
    refine (catch_calls w.heap.size az 0 false cd _ X1.out az_ok).mono ?_
    rintro e u' w3 ⟨rfl, rfl, hr, hb3⟩
    refine ⟨_, results_ask rfl _ _ (w.heap.size + 1) (w.heap.size + 1 + 1) (w.heap.size + 1 + 1 + 1) az.cells _ _ _ _ rfl rfl rfl hr.ask (AM.len az_ok) hr.k5 hr.k6, rfl, B1.out.trans hb3⟩
end Go.Proofs.Ytpjkbokojlpjoaa.Ak
