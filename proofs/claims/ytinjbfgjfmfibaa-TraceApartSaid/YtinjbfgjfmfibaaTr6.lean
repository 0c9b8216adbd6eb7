/- trace.Apart: its walk. -/
import Derived.Test.YtinjbfgjfmfibaaMp2
import Derived.Test.YtinjbfgjfmfibaaTr5
import Derived.Test.YtinjbfgjfmfibaaPTraceApartlyx1
namespace Go.Proofs.Ytinjbfgjfmfibaa.Tr
open Go.RowKit Go.Proofs.YtinjbfgjfmfibaaW.PrintWords Go.Proofs.YtinjbfgjfmfibaaW.PrintLast Go.Proofs.YtinjbfgjfmfibaaW.PrintMore Go.Proofs.Ytinjbfgjfmfibaa.Bs Go.Proofs.Ytinjbfgjfmfibaa.Mp
open Go.Proofs.Ytinjbfgjfmfibaa.PTraceSpans
open Go.Proofs.Ytinjbfgjfmfibaa.PTraceApartly (trace_whole.calls trace_meet.calls trace_whole.f trace_meet.f)
set_option linter.unusedVariables false
set_option linter.unusedSimpArgs false

def wh (s : S61) : Bool := s.f5 || decide (s.f3 ≤ s.f4)
def mt (a b : S61) : Bool := (a.f5 || decide (b.f3 ≤ a.f4)) && (b.f5 || decide (a.f3 ≤ b.f4))
def clash (s o : S61) : Bool := wh s && (wh o && mt s o)
def agS (s : S61) : Value := .agg #[.int .u32 s.f0, .int .u32 s.f1, .int .i64 s.f2, .int .i64 s.f3, .int .i64 s.f4, .bool s.f5]
theorem whole_calls (s : S61) (w : World) : Calls Try.prog 39 #[.agg #[.int .u32 s.f0, .int .u32 s.f1, .int .i64 s.f2, .int .i64 s.f3, .int .i64 s.f4, .bool s.f5]] w fun e w' => e = .returned (.bool (wh s)) ∧ Below w.heap.size w w' :=
  trace_whole.calls _ _ _ _ _ _ _ w (by unfold trace_whole.f wh; cases s.f5 <;> simp)
theorem meet_calls (a b : S61) (w : World) : Calls Try.prog 40 #[.agg #[.int .u32 a.f0, .int .u32 a.f1, .int .i64 a.f2, .int .i64 a.f3, .int .i64 a.f4, .bool a.f5], .agg #[.int .u32 b.f0, .int .u32 b.f1, .int .i64 b.f2, .int .i64 b.f3, .int .i64 b.f4, .bool b.f5]] w fun e w' => e = .returned (.bool (mt a b)) ∧ Below w.heap.size w w' :=
  trace_meet.calls _ _ _ _ _ _ _ _ _ _ _ _ _ w (by
    unfold trace_meet.f mt
    cases a.f5 <;> cases b.f5 <;> simp
    all_goals by_cases h : b.f3 ≤ a.f4 <;> simp [h])
def keyS (s : S61) : Int × Int := (s.f1, s.f2)
def ofKey (l : List S61) (k : Int × Int) : List S61 := l.filter (fun o => decide (keyS o = k))
def apartB (l : List S61) : Bool := (List.range l.length).all (fun i => (ofKey (l.take i) (keyS (rd_T61 l i))).all (fun o => !clash (rd_T61 l i) o))
theorem apart_false {l : List S61} {i : Nat} (hi : i < l.length) {o : S61} (ho : o ∈ ofKey (l.take i) (keyS (rd_T61 l i))) (hc : clash (rd_T61 l i) o = true) : apartB l = false := by
  cases h : apartB l with
  | false => rfl
  | true =>
    unfold apartB at h
    have h1 := List.all_eq_true.1 h i (List.mem_range.2 hi)
    have h2 := List.all_eq_true.1 h1 o ho
    rw [hc] at h2; cases h2
theorem apart_true {l : List S61} (h : ∀ i, i < l.length → ∀ o ∈ ofKey (l.take i) (keyS (rd_T61 l i)), clash (rd_T61 l i) o = false) : apartB l = true := by
  unfold apartB
  refine List.all_eq_true.2 fun i hi => List.all_eq_true.2 fun o ho => ?_
  rw [h i (List.mem_range.1 hi) o ho]; rfl
theorem ofKey_step {l : List S61} {i : Nat} (hi : i < l.length) : (fun y => if keyS (rd_T61 l i) = y then ofKey (l.take i) (keyS (rd_T61 l i)) ++ [rd_T61 l i] else ofKey (l.take i) y) = ofKey (l.take (i + 1)) := by
  funext y
  unfold ofKey
  rw [List.take_add_one, rd_some hi, List.filter_append]
  by_cases h : keyS (rd_T61 l i) = y
  · rw [if_pos h]; simp [h]
  · rw [if_neg h]; simp [h]

set_option maxHeartbeats 4000000 in
set_option maxRecDepth 100000 in
theorem Apart_calls (A : Option Addr) (c : Nat) (l : List S61) (w : World) (hC : Kd.C k61 w A l.length l) (hc : l.length ≤ c) (hl : l.length ≤ 1000000) (hw : ∀ s ∈ l, okK (keyS s)) :
    Calls Try.prog 20 #[.slice A l.length c] w fun e w' => e = .returned (.bool (apartB l)) ∧ Below w.heap.size w w' := by
  have HC := Aside0.mk hC
  have HL := Aside0.mk hl
  have HW := Aside0.mk hw
  clear hC hl hw
  have hu61 := Try.underlying61
  have hmk : ∀ w : World, (Instr.makeMap 67 none).run Try.prog w = .ok (.map (some w.heap.size)) (w.alloc (.map #[] 0)) := fun w => by rfl
  go_enter Try.func20, Try.ntmps20
  go_wp2_with fail
  clear hmk
  go_loopg [12] l.length (fun q v12 wr => ∃ (i : Nat) (L : List ((Int × Int) × Value)), v12 = .int .i64 i ∧ Aside0 (q + i = l.length) ∧ Aside0 (MapRows k61 61 KK wr w.heap.size w.heap.size L (ofKey (l.take i)) ∧ Below w.heap.size w wr) ∧ Aside0 (∀ i', i' < i → ∀ o ∈ ofKey (l.take i') (keyS (rd_T61 l i')), clash (rd_T61 l i') o = false))
  case atStart =>
    exact ⟨0, [], rfl, ⟨by omega⟩, ⟨MapRows.made k61 61 KK w w.heap.size, (Below.refl _ _).alloc (Nat.le_refl _) _⟩, ⟨fun i hi => by omega⟩⟩
  case round =>
    obtain ⟨i, L, rfl, hq, hat, hno⟩ := hrel
    by_cases hi : i < l.length
    · have hi1 : decide ((i : Int) < (l.length : Int)) = true := decide_eq_true (by omega)
      obtain ⟨ad, rfl, hx0, hx1, hx2, hx3, hx4, hx5⟩ := at_T61 (Kd.C_below HC.out hat.out.2) i (by omega) (by omega)
      simp only [Int.toNat_natCast] at hx0 hx1 hx2 hx3 hx4 hx5
      have HE : Aside0 (rd_T61 l i ∈ l) := ⟨by have := rd_some hi; exact List.mem_of_getElem? this⟩
      have HF : Aside0 (∀ o, o ∈ ofKey (l.take i) (keyS (rd_T61 l i)) → clash (rd_T61 l i) o = true → apartB l = false) := ⟨fun o ho hc => apart_false hi ho hc⟩
      have HS := Aside0.mk (ofKey_step hi)
      have HN : Aside0 ((∀ o ∈ ofKey (l.take i) (keyS (rd_T61 l i)), clash (rd_T61 l i) o = false) → ∀ i', i' < i + 1 → ∀ o ∈ ofKey (l.take i') (keyS (rd_T61 l i')), clash (rd_T61 l i') o = false) := ⟨fun h i' hi' => by
        by_cases he : i' = i
        · subst he; exact h
        · exact hno.out i' (by omega)⟩
      have hlen : (ofKey (l.take i) (keyS (rd_T61 l i))).length ≤ 1000000 := by
        have := List.length_filter_le (fun o => decide (keyS o = keyS (rd_T61 l i))) (l.take i)
        have := List.length_take_le i l
        have := HL.out
        unfold ofKey; omega
      have HLE := Aside0.mk hlen
      clear hlen hno
      generalize rd_T61 l i = s at *
      have HR := Aside0.mk (hat.out.1.row (keyS s))
      have HV : Aside0 (∃ A1 c1, (aget L (keyS s)).getD (.slice none 0 0) = .slice A1 (ofKey (l.take i) (keyS s)).length c1) := ⟨by obtain ⟨A1, c1, h⟩ := Kd.R_slice HR.out; exact ⟨A1, c1, h⟩⟩
      obtain ⟨A1, c1, hv⟩ := HV.out
      have HVV := Aside0.mk hv
      clear hv HV
      have HM : Aside0 (MapIs KK ((wr.alloc (.cells #[.int .u32 s.f0, .int .u32 s.f1, .int .i64 s.f2, .int .i64 s.f3, .int .i64 s.f4, .bool s.f5] 61)).alloc (.cells #[.int .u32 s.f1, .int .i64 s.f2] 64)) w.heap.size L) := ⟨(hat.out.1.map.alloc _).alloc _⟩
      go_wp2_with (refine wp_look KK rfl HM.out (.tmp 21) (.tmp 22) rfl Try.underlying67 (z := .slice none 0 0) rfl (keyS s) (HW.out s HE.out) rfl rfl ?_; rw [HVV.out])
      obtain ⟨xs, hxs⟩ : ∃ xs, xs = ofKey (l.take i) (keyS s) := ⟨_, rfl⟩
      have HXS := Aside0.mk hxs
      obtain ⟨g5, hg5⟩ : ∃ g, g = wr.heap.size := ⟨_, rfl⟩
      have MM : Aside0 (MapRows k61 61 KK ((wr.alloc (.cells #[.int .u32 s.f0, .int .u32 s.f1, .int .i64 s.f2, .int .i64 s.f3, .int .i64 s.f4, .bool s.f5] 61)).alloc (.cells #[.int .u32 s.f1, .int .i64 s.f2] 64)) w.heap.size w.heap.size L (ofKey (l.take i)) ∧ Below w.heap.size w ((wr.alloc (.cells #[.int .u32 s.f0, .int .u32 s.f1, .int .i64 s.f2, .int .i64 s.f3, .int .i64 s.f4, .bool s.f5] 61)).alloc (.cells #[.int .u32 s.f1, .int .i64 s.f2] 64))) := ⟨(hat.out.1.alloc _).alloc _, (hat.out.2.alloc hat.out.2.size _).alloc (by simp; have := hat.out.2.size; omega) _⟩
      have B5 : Aside0 (((wr.alloc (.cells #[.int .u32 s.f0, .int .u32 s.f1, .int .i64 s.f2, .int .i64 s.f3, .int .i64 s.f4, .bool s.f5] 61)).alloc (.cells #[.int .u32 s.f1, .int .i64 s.f2] 64)).heap[g5]? = some (.cells #[.int .u32 s.f0, .int .u32 s.f1, .int .i64 s.f2, .int .i64 s.f3, .int .i64 s.f4, .bool s.f5] 61 (0, 0)) ∧ ((wr.alloc (.cells #[.int .u32 s.f0, .int .u32 s.f1, .int .i64 s.f2, .int .i64 s.f3, .int .i64 s.f4, .bool s.f5] 61)).alloc (.cells #[.int .u32 s.f1, .int .i64 s.f2] 64)).heap[g5 + 1]? = some (.cells #[.int .u32 s.f1, .int .i64 s.f2] 64 (0, 0))) := ⟨by rw [hg5]; exact blk_alloc (blk_new _ _) _, by rw [hg5]; have h_ := blk_new (wr.alloc (.cells #[.int .u32 s.f0, .int .u32 s.f1, .int .i64 s.f2, .int .i64 s.f3, .int .i64 s.f4, .bool s.f5] 61)) (.cells #[.int .u32 s.f1, .int .i64 s.f2] 64); rw [World.size_alloc] at h_; exact h_⟩
      rw [← hxs] at HF HN HS HLE HVV ⊢
      clear HR HM hat hx0 hx1 hx2 hx3 hx4 hx5 hxs
      rw [← hg5]
      clear hg5
      generalize (wr.alloc (.cells #[.int .u32 s.f0, .int .u32 s.f1, .int .i64 s.f2, .int .i64 s.f3, .int .i64 s.f4, .bool s.f5] 61)).alloc (.cells #[.int .u32 s.f1, .int .i64 s.f2] 64) = wm at *
      have HRX : Aside0 (Kd.R k61 61 wm w.heap.size (fun _ => True) (.slice A1 xs.length c1) xs) := ⟨by have h_ := MM.out.1.row (keyS s); rw [HVV.out, ← HXS.out] at h_; exact h_⟩
      go_loopg [25] xs.length (fun q v25 wr2 => ∃ (j : Nat), v25 = .int .i64 j ∧ Aside0 (q + j = xs.length) ∧ Aside0 (∀ o ∈ xs.take j, clash s o = false) ∧ Aside0 (Below wm.heap.size wm wr2))
      case atStart => exact ⟨0, rfl, ⟨by omega⟩, ⟨fun o ho => by simp at ho⟩, ⟨Below.refl _ _⟩⟩
      case round =>
        obtain ⟨j, rfl, hq2, hno2, hb2⟩ := hrel
        by_cases hj : j < xs.length
        · have hj1 : decide ((j : Int) < (xs.length : Int)) = true := decide_eq_true (by omega)
          obtain ⟨ad2, rfl, y0, y1, y2, y3, y4, y5⟩ := at_T61 (Kd.C_below (Kd.R_reads' HRX.out).2.2 hb2.out) j (by omega) (by omega)
          simp only [Int.toNat_natCast] at y0 y1 y2 y3 y4 y5
          have HEO : Aside0 (rd_T61 xs j ∈ xs) := ⟨List.mem_of_getElem? (rd_some hj)⟩
          have HNO : Aside0 (clash s (rd_T61 xs j) = false → ∀ o ∈ xs.take (j + 1), clash s o = false) := ⟨fun h o ho => by
            rw [List.take_add_one, rd_some hj] at ho
            rcases List.mem_append.1 ho with ho | ho
            · exact hno2.out o ho
            · simp at ho; rw [ho]; exact h⟩
          have HFO : Aside0 (clash s (rd_T61 xs j) = true → apartB l = false) := ⟨fun h => HF.out _ HEO.out h⟩
          generalize rd_T61 xs j = o at *
          have b5 := blk_below B5.out.1 hb2.out
          have hs0 : wr.cell? ⟨g5, 0, none⟩ = some (.int .u32 s.f0) := blk_cell b5 0
          have hs1 : wr.cell? ⟨g5, 1, none⟩ = some (.int .u32 s.f1) := blk_cell b5 1
          have hs2 : wr.cell? ⟨g5, 2, none⟩ = some (.int .i64 s.f2) := blk_cell b5 2
          have hs3 : wr.cell? ⟨g5, 3, none⟩ = some (.int .i64 s.f3) := blk_cell b5 3
          have hs4 : wr.cell? ⟨g5, 4, none⟩ = some (.int .i64 s.f4) := blk_cell b5 4
          have hs5 : wr.cell? ⟨g5, 5, none⟩ = some (.bool s.f5) := blk_cell b5 5
          have hlt5 : g5 < wr.heap.size := blk_lt b5
          clear b5
          obtain ⟨b1, hb1⟩ : ∃ b, b = wh s := ⟨_, rfl⟩
          obtain ⟨b2, hb2_⟩ : ∃ b, b = wh o := ⟨_, rfl⟩
          obtain ⟨b3, hb3_⟩ : ∃ b, b = mt s o := ⟨_, rfl⟩
          have hcl : clash s o = (b1 && (b2 && b3)) := by unfold clash; rw [← hb1, ← hb2_, ← hb3_]
          have HCL := Aside0.mk hcl
          have HW1 := Aside0.mk hb1
          have HW2 := Aside0.mk hb2_
          have HW3 := Aside0.mk hb3_
          clear hcl hb1 hb2_ hb3_
          obtain ⟨g8, hg8⟩ : ∃ g, g = wr.heap.size := ⟨_, rfl⟩
          have HP0 : Aside0 ((wr.alloc (.cells #[.int .u32 o.f0, .int .u32 o.f1, .int .i64 o.f2, .int .i64 o.f3, .int .i64 o.f4, .bool o.f5] 61)).heap[g5]? = some (.cells #[.int .u32 s.f0, .int .u32 s.f1, .int .i64 s.f2, .int .i64 s.f3, .int .i64 s.f4, .bool s.f5] 61 (0, 0)) ∧ (wr.alloc (.cells #[.int .u32 o.f0, .int .u32 o.f1, .int .i64 o.f2, .int .i64 o.f3, .int .i64 o.f4, .bool o.f5] 61)).heap[g8]? = some (.cells #[.int .u32 o.f0, .int .u32 o.f1, .int .i64 o.f2, .int .i64 o.f3, .int .i64 o.f4, .bool o.f5] 61 (0, 0)) ∧ Below wm.heap.size wm (wr.alloc (.cells #[.int .u32 o.f0, .int .u32 o.f1, .int .i64 o.f2, .int .i64 o.f3, .int .i64 o.f4, .bool o.f5] 61))) := ⟨blk_alloc (blk_below B5.out.1 hb2.out) _, by rw [hg8]; exact blk_new _ _, hb2.out.alloc hb2.out.size _⟩
          go_wp2_with fail
          refine (whole_calls s _).mono ?_
          rintro e_ w1 ⟨rfl, hbl⟩
          rw [← HW1.out]
          try rw [← hg8]
          have HP1 : Aside0 (w1.heap[g5]? = some (.cells #[.int .u32 s.f0, .int .u32 s.f1, .int .i64 s.f2, .int .i64 s.f3, .int .i64 s.f4, .bool s.f5] 61 (0, 0)) ∧ w1.heap[g8]? = some (.cells #[.int .u32 o.f0, .int .u32 o.f1, .int .i64 o.f2, .int .i64 o.f3, .int .i64 o.f4, .bool o.f5] 61 (0, 0)) ∧ Below wm.heap.size wm w1) := ⟨blk_below HP0.out.1 hbl, blk_below HP0.out.2.1 hbl, below_step HP0.out.2.2 hbl⟩
          clear hbl HP0 hlt5 hg8 hb2 y0 y1 y2 y3 y4 y5
          clear hs0 hs1 hs2 hs3 hs4 hs5
          cases b1 with
          | false =>
            go_wp2_with fail
            go_roundg (gk - 1)
            case measure => have := hq2.out; omega
            case rel => exact ⟨j + 1, by have := HLE.out; rw [show wrap64 ((j : Int) + 1) = ((j + 1 : Nat) : Int) from by unfold wrap64; omega], ⟨by have := hq2.out; omega⟩, ⟨HNO.out (by rw [HCL.out]; rfl)⟩, ⟨HP1.out.2.2⟩⟩
          | true =>
            have k0 : w1.cell? ⟨g8, 0, none⟩ = some (.int .u32 o.f0) := blk_cell HP1.out.2.1 0
            have k1 : w1.cell? ⟨g8, 1, none⟩ = some (.int .u32 o.f1) := blk_cell HP1.out.2.1 1
            have k2 : w1.cell? ⟨g8, 2, none⟩ = some (.int .i64 o.f2) := blk_cell HP1.out.2.1 2
            have k3 : w1.cell? ⟨g8, 3, none⟩ = some (.int .i64 o.f3) := blk_cell HP1.out.2.1 3
            have k4 : w1.cell? ⟨g8, 4, none⟩ = some (.int .i64 o.f4) := blk_cell HP1.out.2.1 4
            have k5 : w1.cell? ⟨g8, 5, none⟩ = some (.bool o.f5) := blk_cell HP1.out.2.1 5
            go_wp2_with fail
            refine (whole_calls o _).mono ?_
            rintro e_ w2 ⟨rfl, hbl⟩
            rw [← HW2.out]
            have HP2 : Aside0 (w2.heap[g5]? = some (.cells #[.int .u32 s.f0, .int .u32 s.f1, .int .i64 s.f2, .int .i64 s.f3, .int .i64 s.f4, .bool s.f5] 61 (0, 0)) ∧ w2.heap[g8]? = some (.cells #[.int .u32 o.f0, .int .u32 o.f1, .int .i64 o.f2, .int .i64 o.f3, .int .i64 o.f4, .bool o.f5] 61 (0, 0)) ∧ Below wm.heap.size wm w2) := ⟨blk_below HP1.out.1 hbl, blk_below HP1.out.2.1 hbl, below_step HP1.out.2.2 hbl⟩
            clear hbl HP1
            clear k0 k1 k2 k3 k4 k5
            cases b2 with
            | false =>
              go_wp2_with fail
              go_roundg (gk - 1)
              case measure => have := hq2.out; omega
              case rel => exact ⟨j + 1, by have := HLE.out; rw [show wrap64 ((j : Int) + 1) = ((j + 1 : Nat) : Int) from by unfold wrap64; omega], ⟨by have := hq2.out; omega⟩, ⟨HNO.out (by rw [HCL.out]; rfl)⟩, ⟨HP2.out.2.2⟩⟩
            | true =>
              have k0 : w2.cell? ⟨g8, 0, none⟩ = some (.int .u32 o.f0) := blk_cell HP2.out.2.1 0
              have k1 : w2.cell? ⟨g8, 1, none⟩ = some (.int .u32 o.f1) := blk_cell HP2.out.2.1 1
              have k2 : w2.cell? ⟨g8, 2, none⟩ = some (.int .i64 o.f2) := blk_cell HP2.out.2.1 2
              have k3 : w2.cell? ⟨g8, 3, none⟩ = some (.int .i64 o.f3) := blk_cell HP2.out.2.1 3
              have k4 : w2.cell? ⟨g8, 4, none⟩ = some (.int .i64 o.f4) := blk_cell HP2.out.2.1 4
              have k5 : w2.cell? ⟨g8, 5, none⟩ = some (.bool o.f5) := blk_cell HP2.out.2.1 5
              have m0 : w2.cell? ⟨g5, 0, none⟩ = some (.int .u32 s.f0) := blk_cell HP2.out.1 0
              have m1 : w2.cell? ⟨g5, 1, none⟩ = some (.int .u32 s.f1) := blk_cell HP2.out.1 1
              have m2 : w2.cell? ⟨g5, 2, none⟩ = some (.int .i64 s.f2) := blk_cell HP2.out.1 2
              have m3 : w2.cell? ⟨g5, 3, none⟩ = some (.int .i64 s.f3) := blk_cell HP2.out.1 3
              have m4 : w2.cell? ⟨g5, 4, none⟩ = some (.int .i64 s.f4) := blk_cell HP2.out.1 4
              have m5 : w2.cell? ⟨g5, 5, none⟩ = some (.bool s.f5) := blk_cell HP2.out.1 5
              go_wp2_with fail
              refine (meet_calls s o _).mono ?_
              rintro e_ w3 ⟨rfl, hbl⟩
              rw [← HW3.out]
              have HP3 : Aside0 (Below wm.heap.size wm w3) := ⟨below_step HP2.out.2.2 hbl⟩
              clear hbl HP2
              clear k0 k1 k2 k3 k4 k5
              clear m0 m1 m2 m3 m4 m5
              cases b3 with
              | false =>
                go_wp2_with fail
                go_roundg (gk - 1)
                case measure => have := hq2.out; omega
                case rel => exact ⟨j + 1, by have := HLE.out; rw [show wrap64 ((j : Int) + 1) = ((j + 1 : Nat) : Int) from by unfold wrap64; omega], ⟨by have := hq2.out; omega⟩, ⟨HNO.out (by rw [HCL.out]; rfl)⟩, ⟨HP3.out⟩⟩
              | true =>
                have hfin : apartB l = false := HFO.out (by rw [HCL.out]; rfl)
                have HFIN := Aside0.mk hfin
                have HB := Aside0.mk (below_step MM.out.2 HP3.out)
                clear hfin
                go_wp2
                go_ret
                exact ⟨by rw [HFIN.out]; rfl, HB.out⟩
        · have hj1 : decide ((j : Int) < (xs.length : Int)) = false := decide_eq_false (by omega)
          have hall : ∀ o ∈ xs, clash s o = false := by have h_ := hno2.out; rwa [List.take_of_length_le (by omega)] at h_
          have HNN := Aside0.mk (HN.out hall)
          have MR : Aside0 (MapRows k61 61 KK wr w.heap.size w.heap.size L (ofKey (l.take i))) := ⟨MM.out.1.below hb2.out⟩
          have MB : Aside0 (Below w.heap.size w wr) := ⟨below_step MM.out.2 hb2.out⟩
          have b5 := blk_below B5.out.1 hb2.out
          have b6 := blk_below B5.out.2 hb2.out
          have k0 : wr.cell? ⟨g5, 0, none⟩ = some (.int .u32 s.f0) := blk_cell b5 0
          have k1 : wr.cell? ⟨g5, 1, none⟩ = some (.int .u32 s.f1) := blk_cell b5 1
          have k2 : wr.cell? ⟨g5, 2, none⟩ = some (.int .i64 s.f2) := blk_cell b5 2
          have k3 : wr.cell? ⟨g5, 3, none⟩ = some (.int .i64 s.f3) := blk_cell b5 3
          have k4 : wr.cell? ⟨g5, 4, none⟩ = some (.int .i64 s.f4) := blk_cell b5 4
          have k5 : wr.cell? ⟨g5, 5, none⟩ = some (.bool s.f5) := blk_cell b5 5
          have m0 : wr.cell? ⟨g5 + 1, 0, none⟩ = some (.int .u32 s.f1) := blk_cell b6 0
          have m1 : wr.cell? ⟨g5 + 1, 1, none⟩ = some (.int .i64 s.f2) := blk_cell b6 1
          clear hall b5 b6 HF MM B5 HRX hno2 hb2 HN
          have HRW : Aside0 (Kd.R k61 61 wr w.heap.size (fun _ => True) (.slice A1 xs.length c1) xs) := ⟨by have h_ := MR.out.row (keyS s); rw [HVV.out, ← HXS.out] at h_; exact h_⟩
          go_wp2_with (first
            | (refine wp_entry KK rfl MR.out.map (.cells #[.int .u32 s.f0, .int .u32 s.f1, .int .i64 s.f2, .int .i64 s.f3, .int .i64 s.f4, .bool s.f5] 61) (.tmp 41) (.tmp 42) rfl Try.underlying67 (z := .slice none 0 0) (fun _ => rfl) (keyS s) (HW.out s HE.out) rfl rfl ?_; intro st W1 hg1 hz1 ho1 hst1; rw [HVV.out]; have HG1 := Aside0.mk hg1; have HZ1 := Aside0.mk hz1; have HO1 := Aside0.mk ho1; have HST := Aside0.mk hst1; clear hg1 hz1 ho1 hst1; clear k0 k1 k2 k3 k4 k5 m0 m1; have HRV := Aside0.mk (Kd.R_grown1 HRW.out rfl HG1.out (row_ne_map MR.out.map.obj HRW.out)); have HBV : Aside0 (Below w.heap.size w W1) := ⟨MB.out.grown HG1.out MB.out.size (fun k hk => by rw [← Option.some.inj hk]; exact Nat.le_refl _)⟩)
            | ((with_reducible refine gate_builtin (b := .append) (xs := #[.tmp 43, .tmp 45]) rfl ?_); at_builtin; rw [← HZ1.out]; refine Kd.R_append k61 (w0 := w) w.heap.size rfl (.tmp 43) (.tmp 45) 26 61 (.agg #[(.int .u32 0), (.int .u32 0), (.int .i64 0), (.int .i64 0), (.int .i64 0), (.bool false)]) 40 rfl Try.underlying26 info61 rfl (by decide) (by omega) (.slice A1 xs.length c1) xs s [.int .u32 s.f0, .int .u32 s.f1, .int .i64 s.f2, .int .i64 s.f3, .int .i64 s.f4, .bool s.f5] (fun _ => True) (fun _ => False) rfl rfl (k61_mkM _ _ _ s) (fun _ hk => hk.elim) (fun _ _ => trivial) HRV.out HBV.out HBV.out.size (by have := HLE.out; omega) ?_; intro v3 w3 ho hb hg hat3; have HG3 := Aside0.mk hg; have HO3 := Aside0.mk ho; have HB3 := Aside0.mk hb; have HA3 := Aside0.mk hat3; clear hg ho hb hat3)
            | (refine wp_entry_store KK (v := v3) HST.out ?_ rfl (.tmp 41) (.tmp 48) (.tmp 47) rfl rfl rfl rfl ?_; (exact HG3.out.block _ (by rw [HZ1.out]; exact MR.out.map.lt) (row_ne_map HO1.out HRV.out)); intro w4 hm4 hg4))
          have hM4 : MapRows k61 61 KK w4 w.heap.size w.heap.size (aset L (keyS s) v3) (ofKey (l.take (i + 1))) := by
            rw [← HS.out]
            have h_ := MapRows.append (x := keyS s) MR.out rfl HG1.out HZ1.out (by rw [HVV.out]; exact HG3.out) HO3.out (by rw [HVV.out]; exact HA3.out) hm4 hg4 (by
              obtain ⟨es, cl, hb⟩ := HO1.out
              exact ⟨es, cl, (HG3.out.block _ (by rw [HZ1.out]; exact MR.out.map.lt) (row_ne_map HO1.out HRV.out)).trans hb⟩)
            exact h_
          have HM4 := Aside0.mk hM4
          have HB4 : Aside0 (Below w.heap.size w w4) := ⟨HB3.out.grown hg4 HB3.out.size (fun k hk => by rw [← Option.some.inj hk]; exact Nat.le_refl _)⟩
          clear hM4 hm4 hg4 HA3 HB3 HO3 HG3 HST HO1 HZ1 HG1
          go_roundg (l.length - (i + 1))
          case measure => have := hq.out; omega
          case rel => exact ⟨i + 1, _, by have := HL.out; rw [show wrap64 ((i : Int) + 1) = ((i + 1 : Nat) : Int) from by unfold wrap64; omega], ⟨by omega⟩, ⟨HM4.out, HB4.out⟩, ⟨HNN.out⟩⟩
    · have hi1 : decide ((i : Int) < (l.length : Int)) = false := decide_eq_false (by omega)
      have hfin : apartB l = true := apart_true (fun i' hi' => hno.out i' (by omega))
      have HFIN := Aside0.mk hfin
      clear hfin
      go_wp2
      go_ret
      exact ⟨by rw [HFIN.out]; rfl, hat.out.2⟩
end Go.Proofs.Ytinjbfgjfmfibaa.Tr
