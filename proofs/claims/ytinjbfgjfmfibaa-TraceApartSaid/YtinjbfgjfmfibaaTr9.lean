/- trace.Who at lists that it takes at most one of. -/
import Derived.Test.YtinjbfgjfmfibaaTr6
import Derived.Test.YtinjbfgjfmfibaaLen
import Derived.Test.YtinjbfgjfmfibaaPTraceApartx2
namespace Go.Proofs.Ytinjbfgjfmfibaa.Tr
open Go.RowKit Go.Proofs.YtinjbfgjfmfibaaW.PrintWords Go.Proofs.YtinjbfgjfmfibaaW.PrintLast Go.Proofs.YtinjbfgjfmfibaaW.PrintMore Go.Proofs.Ytinjbfgjfmfibaa.Bs Go.Proofs.Ytinjbfgjfmfibaa.Mp
open Go.Proofs.Ytinjbfgjfmfibaa.PTraceSpans
set_option linter.unusedVariables false
set_option linter.unusedSimpArgs false

theorem info_u32 : (Try.prog.info? 30).map (fun i => (i.zero, i.size, i.bytes)) = some (some (.int .u32 0), 1, 4) := by kernel_rfl
theorem ins_short (xs : List Int) (h : xs.length ≤ 1) : PTraceApart.slices_insertionSortOrdered_uint32.f 1 xs 0 (xs.length : Int) = some xs := by
  unfold PTraceApart.slices_insertionSortOrdered_uint32.f PTraceApart.slices_insertionSortOrdered_uint32.l0
  rw [show wrap64 (0 + 1) = 1 from by unfold wrap64; omega, if_neg (by omega)]

set_option maxHeartbeats 4000000 in
set_option maxRecDepth 100000 in
theorem pdq_short (w0 w : World) (v : Value) (xs : List Int) (lim : Int) (hB : Below w0.heap.size w0 w) (hR : Kd.R (Kd.int .u32) 30 w w0.heap.size (fun _ => True) v xs) (hl : xs.length ≤ 1) :
    Calls Try.prog 61 #[v, .int .i64 0, .int .i64 xs.length, .int .i64 lim] w fun e w' => e = .returned (.tuple #[]) ∧ Kd.R (Kd.int .u32) 30 w' w0.heap.size (fun _ => True) v xs ∧ Below w0.heap.size w0 w' := by
  have HB := Aside0.mk hB
  have HR := Aside0.mk hR
  have HI := Aside0.mk (ins_short xs hl)
  clear hB hR
  obtain ⟨A1, c1, rfl⟩ := Kd.R_slice HR.out
  go_enter Try.func61, Try.ntmps61
  go_wp2_with fail
  go_loopg [1, 2, 3] 1 (fun q v1 v2 v3 wr => v1 = .int .i64 0 ∧ v2 = .int .i64 xs.length ∧ v3 = .int .i64 lim ∧ Aside0 (wr = w))
  case atStart => exact ⟨rfl, rfl, rfl, ⟨rfl⟩⟩
  case round =>
    obtain ⟨rfl, rfl, rfl, hw⟩ := hrel
    obtain rfl := hw.out
    go_wp2_with fail
    refine (PTraceApart.slices_insertionSortOrdered_uint32.calls 1 (fun _ => True) _ xs 0 (xs.length : Int) xs w0 _ HB.out HR.out HI.out).mono ?_
    rintro e w2 ⟨rfl, hr, hb, _⟩
    have HR2 := Aside0.mk hr
    have HB2 := Aside0.mk hb
    clear hr hb
    go_wp2_with fail
    first | go_end0 | ((try simp only [Exit.inBlock, Exit.then]); refine bodyPost_ret (results_none rfl _ _ _) rfl ?_)
    exact ⟨rfl, Kd.R_mono HR2.out (fun _ _ => trivial), HB2.out⟩

set_option maxHeartbeats 4000000 in
set_option maxRecDepth 100000 in
theorem sort_short (w0 w : World) (v : Value) (xs : List Int) (hB : Below w0.heap.size w0 w) (hR : Kd.R (Kd.int .u32) 30 w w0.heap.size (fun _ => True) v xs) (hl : xs.length ≤ 1) :
    Calls Try.prog 48 #[v] w fun e w' => e = .returned (.tuple #[]) ∧ Kd.R (Kd.int .u32) 30 w' w0.heap.size (fun _ => True) v xs ∧ Below w0.heap.size w0 w' := by
  have HB := Aside0.mk hB
  have HR := Aside0.mk hR
  clear hB hR
  obtain ⟨A1, c1, rfl⟩ := Kd.R_slice HR.out
  go_enter Try.func48, Try.ntmps48
  go_wp2_with (first
    | (go_at_call 62; refine (Len.bits_Len _ _ (by omega) (by omega)).mono ?_; rintro e w2 ⟨rfl, rfl⟩)
    | (go_at_call 61; refine (pdq_short w0 _ _ xs _ HB.out HR.out hl).mono ?_; rintro e w2 ⟨rfl, hr, hb⟩; have HR2 := Aside0.mk hr; have HB2 := Aside0.mk hb; clear hr hb))
  first | go_end0 | ((try simp only [Exit.inBlock, Exit.then]); refine bodyPost_ret (results_none rfl _ _ _) rfl ?_)
  exact ⟨rfl, HR2.out, HB2.out⟩

set_option maxHeartbeats 4000000 in
set_option maxRecDepth 100000 in
theorem compact_short (w : World) (A1 : Option Addr) (c1 : Nat) (xs : List Int) (hl : xs.length ≤ 1) :
    Calls Try.prog 49 #[.slice A1 xs.length c1] w fun e w' => e = .returned (.slice A1 xs.length c1) ∧ w = w' := by
  have hl1 : ((xs.length : Int) < 2) := by omega
  go_enter Try.func49, Try.ntmps49
  go_wp2_with fail
  go_ret
  exact ⟨rfl, rfl⟩

def holdsB (s : S61) (t : Int) : Bool := decide (s.f3 ≤ t) && (s.f5 || decide (t ≤ s.f4))
def hitW (a n t : Int) (s : S61) : Bool := (s.f1 == a) && ((s.f2 == n) && holdsB s t)
def coll (l : List S61) (a n t : Int) : List Int := (l.filter (hitW a n t)).map (·.f0)
theorem coll_step {l : List S61} {i : Nat} (hi : i < l.length) (a n t : Int) : coll (l.take (i + 1)) a n t = if hitW a n t (rd_T61 l i) = true then coll (l.take i) a n t ++ [(rd_T61 l i).f0] else coll (l.take i) a n t := by
  unfold coll
  rw [List.take_add_one, rd_some hi, List.filter_append, List.map_append]
  by_cases h : hitW a n t (rd_T61 l i) = true
  · rw [if_pos h]; simp [h]
  · rw [if_neg h]; simp [h]
theorem coll_le (l : List S61) (a n t : Int) : (coll l a n t).length ≤ l.length := by unfold coll; rw [List.length_map]; exact List.length_filter_le _ _
theorem holds_calls (s : S61) (t : Int) (w : World) : Calls Try.prog 47 #[.agg #[.int .u32 s.f0, .int .u32 s.f1, .int .i64 s.f2, .int .i64 s.f3, .int .i64 s.f4, .bool s.f5], .int .i64 t] w fun e w' => e = .returned (.bool (holdsB s t)) ∧ Below w.heap.size w w' :=
  PTraceApart.trace_holds.calls _ _ _ _ _ _ _ _ w (by
    unfold PTraceApart.trace_holds.f holdsB
    by_cases h : s.f3 ≤ t
    · rw [if_pos h, decide_eq_true h]; cases s.f5 <;> simp
    · rw [if_neg h, decide_eq_false h]; rfl)

set_option maxHeartbeats 600000 in
set_option maxRecDepth 100000 in
theorem Who_short (A : Option Addr) (c : Nat) (l : List S61) (a n t : Int) (w : World) (hC : Kd.C k61 w A l.length l) (hc : l.length ≤ c) (hl : l.length ≤ 1000000) (hs : (coll l a n t).length ≤ 1) :
    Calls Try.prog 30 #[.slice A l.length c, .int .u32 a, .int .i64 n, .int .i64 t] w fun e w' => ∃ v, e = .returned v ∧ Kd.R (Kd.int .u32) 30 w' w.heap.size (fun _ => True) v (coll l a n t) ∧ Below w.heap.size w w' := by
  have HC := Aside0.mk hC
  have HL := Aside0.mk hl
  have HS := Aside0.mk hs
  clear hC hl hs
  have hu61 := Try.underlying61
  go_enter Try.func30, Try.ntmps30
  go_wp2_with fail
  go_loopg [9, 14] l.length (fun q v9 v14 wr => ∃ (i : Nat), v14 = .int .i64 i ∧ Aside0 (q + i = l.length) ∧ Aside0 (Kd.R (Kd.int .u32) 30 wr w.heap.size (fun _ => True) v9 (coll (l.take i) a n t) ∧ Below w.heap.size w wr))
  case atStart => exact ⟨0, rfl, ⟨by omega⟩, ⟨Kd.R_nil _ _ _ _ _, Below.refl _ _⟩⟩
  case round =>
    obtain ⟨i, rfl, hq, hat⟩ := hrel
    by_cases hi : i < l.length
    · have hi1 : decide ((i : Int) < (l.length : Int)) = true := decide_eq_true (by omega)
      obtain ⟨ad, rfl, hx0, hx1, hx2, hx3, hx4, hx5⟩ := at_T61 (Kd.C_below HC.out hat.out.2) i (by omega) (by omega)
      simp only [Int.toNat_natCast] at hx0 hx1 hx2 hx3 hx4 hx5
      have HST := Aside0.mk (coll_step hi a n t)
      have HCL : Aside0 ((coll (l.take i) a n t).length ≤ 1000000) := ⟨by have := coll_le (l.take i) a n t; have := List.length_take_le i l; have := HL.out; omega⟩
      generalize rd_T61 l i = s at *
      obtain ⟨g5, hg5⟩ : ∃ g, g = wr.heap.size := ⟨_, rfl⟩
      have HB0 : Aside0 (Below w.heap.size w (wr.alloc (.cells #[.int .u32 s.f0, .int .u32 s.f1, .int .i64 s.f2, .int .i64 s.f3, .int .i64 s.f4, .bool s.f5] 61)) ∧ (wr.alloc (.cells #[.int .u32 s.f0, .int .u32 s.f1, .int .i64 s.f2, .int .i64 s.f3, .int .i64 s.f4, .bool s.f5] 61)).heap[g5]? = some (.cells #[.int .u32 s.f0, .int .u32 s.f1, .int .i64 s.f2, .int .i64 s.f3, .int .i64 s.f4, .bool s.f5] 61 (0, 0))) := ⟨hat.out.2.alloc hat.out.2.size _, by rw [hg5]; exact blk_new _ _⟩
      have HR0 : Aside0 (Kd.R (Kd.int .u32) 30 (wr.alloc (.cells #[.int .u32 s.f0, .int .u32 s.f1, .int .i64 s.f2, .int .i64 s.f3, .int .i64 s.f4, .bool s.f5] 61)) w.heap.size (fun _ => True) u9 (coll (l.take i) a n t)) := ⟨Kd.R_alloc hat.out.1 _⟩
      by_cases h1 : s.f1 = a
      · subst h1
        by_cases h2 : s.f2 = n
        · subst h2
          obtain ⟨b3, hb3⟩ : ∃ b, b = holdsB s t := ⟨_, rfl⟩
          have H3 := Aside0.mk hb3
          have HH : Aside0 (hitW s.f1 s.f2 t s = b3) := ⟨by unfold hitW; rw [← hb3]; simp⟩
          clear hb3
          go_wp2_with fail
          refine (holds_calls s t _).mono ?_
          rintro e_ w2 ⟨rfl, hb2⟩
          rw [← H3.out]
          have HR2 := Aside0.mk (Kd.R_below HR0.out hb2)
          have HB2 := Aside0.mk (And.intro (below_step HB0.out.1 hb2) (blk_below HB0.out.2 hb2))
          clear hb2 hx0 hx1 hx2 hx3 hx4 hx5
          try rw [← hg5]
          clear hg5
          cases b3 with
          | false =>
            go_wp2_with fail
            go_roundg (gk - 1)
            case measure => have := hq.out; omega
            case rel => exact ⟨i + 1, by have := HL.out; rw [show wrap64 ((i : Int) + 1) = ((i + 1 : Nat) : Int) from by unfold wrap64; omega], ⟨by have := hq.out; omega⟩, ⟨by rw [HST.out, if_neg (by rw [HH.out]; simp)]; exact HR2.out, HB2.out.1⟩⟩
          | true =>
            have k0 : w2.cell? ⟨g5, 0, none⟩ = some (.int .u32 s.f0) := blk_cell HB2.out.2 0
            go_wp2_with ((with_reducible refine gate_builtin (b := .append) (xs := #[.tmp 33, .tmp 36]) rfl ?_); at_builtin; refine Kd.R_append (Kd.int .u32) (w0 := w) w.heap.size rfl (.tmp 33) (.tmp 36) 29 30 (.int .u32 0) 4 rfl Try.underlying29 info_u32 rfl (Nat.succ_pos _) (Nat.succ_pos _) u9 (coll (l.take i) s.f1 s.f2 t) s.f0 [.int .u32 s.f0] (fun _ => True) (fun _ => False) rfl rfl rfl (fun _ hk => hk.elim) (fun _ _ => trivial) HR2.out HB2.out.1 HB2.out.1.size (by have := HCL.out; omega) ?_; intro v3 w3 ho hb hg hat3; have HR3 := Aside0.mk ho; have HB3 := Aside0.mk hb; clear ho hb hg hat3 k0)
            go_roundg (gk - 1)
            case measure => have := hq.out; omega
            case rel => exact ⟨i + 1, by have := HL.out; rw [show wrap64 ((i : Int) + 1) = ((i + 1 : Nat) : Int) from by unfold wrap64; omega], ⟨by have := hq.out; omega⟩, ⟨by rw [HST.out, if_pos HH.out]; exact HR3.out, HB3.out⟩⟩
        · have e2 : (s.f2 == n) = false := beq_eq_false_iff_ne.mpr h2
          have HH : Aside0 (hitW s.f1 n t s = false) := ⟨by unfold hitW; rw [e2]; simp⟩
          go_wp2_with fail
          go_roundg (gk - 1)
          case measure => have := hq.out; omega
          case rel => exact ⟨i + 1, by have := HL.out; rw [show wrap64 ((i : Int) + 1) = ((i + 1 : Nat) : Int) from by unfold wrap64; omega], ⟨by have := hq.out; omega⟩, ⟨by rw [HST.out, if_neg (by rw [HH.out]; simp)]; exact HR0.out, HB0.out.1⟩⟩
      · have e1 : (s.f1 == a) = false := beq_eq_false_iff_ne.mpr h1
        have HH : Aside0 (hitW a n t s = false) := ⟨by unfold hitW; rw [e1]; rfl⟩
        go_wp2_with fail
        go_roundg (gk - 1)
        case measure => have := hq.out; omega
        case rel => exact ⟨i + 1, by have := HL.out; rw [show wrap64 ((i : Int) + 1) = ((i + 1 : Nat) : Int) from by unfold wrap64; omega], ⟨by have := hq.out; omega⟩, ⟨by rw [HST.out, if_neg (by rw [HH.out]; simp)]; exact HR0.out, HB0.out.1⟩⟩
    · have hi1 : decide ((i : Int) < (l.length : Int)) = false := decide_eq_false (by omega)
      have hll : l.take i = l := List.take_of_length_le (by omega)
      rw [hll] at hat
      obtain ⟨A1, c1, rfl⟩ := Kd.R_slice hat.out.1
      go_wp2_with fail
      refine (sort_short w wr _ (coll l a n t) hat.out.2 hat.out.1 HS.out).mono ?_
      rintro e w2 ⟨rfl, hr, hb⟩
      have HR2 := Aside0.mk hr
      have HB2 := Aside0.mk hb
      clear hr hb
      go_wp2_with fail
      refine (compact_short w2 A1 c1 (coll l a n t) HS.out).mono ?_
      rintro e w3 ⟨rfl, rfl⟩
      go_wp2
      go_ret
      exact ⟨_, rfl, HR2.out, HB2.out⟩
end Go.Proofs.Ytinjbfgjfmfibaa.Tr
