/- chapter 18: Live, the document's Live and Lets. -/
import Derived.Test.YtkpaibkkigfahaaBd8
namespace Go.Proofs.Ytkpaibkkigfahaa.Bd
open Go.RowKit Go.Proofs.YtkpaibkkigfahaaW.PrintWords Go.Proofs.YtkpaibkkigfahaaW.PrintLast Go.Proofs.YtkpaibkkigfahaaW.PrintMore Go.Proofs.Ytkpaibkkigfahaa.Bs Go.Proofs.Ytkpaibkkigfahaa.Fr Go.Proofs.Ytkpaibkkigfahaa.Mp
open Go.Proofs.Ytkpaibkkigfahaa.PBindLets
set_option linter.unusedVariables false
set_option linter.unusedSimpArgs false
def liveF (u h now : Int) : Bool := decide (now < u) || decide (now < h)
set_option maxHeartbeats 1000000 in
set_option maxRecDepth 100000 in
theorem Live_calls (w : World) (m : Array Value) (u h : Int) (h5 : m[5]? = some (.int .i64 u)) (h6 : m[6]? = some (.int .i64 h)) (now : Int) :
    Calls Try.prog 17 #[.agg m, .int .i64 now] w fun e w' => e = .returned (.bool (liveF u h now)) ∧ Below w.heap.size w w' := by
  have k5 : (w.alloc (.cells m 33)).cell? ⟨w.heap.size, 5, none⟩ = some (.int .i64 u) := by rw [← h5]; exact blk_cell (blk_new w (.cells m 33)) 5
  have k6 : (w.alloc (.cells m 33)).cell? ⟨w.heap.size, 6, none⟩ = some (.int .i64 h) := by rw [← h6]; exact blk_cell (blk_new w (.cells m 33)) 6
  clear h5 h6
  have HLV : Aside0 (liveF u h now = (decide (now < u) || decide (now < h))) := ⟨rfl⟩
  by_cases c : now < u
  · have c1 : decide (now < u) = true := decide_eq_true c
    go_enter Try.func17, Try.ntmps17
    go_wp2_with fail
    go_ret
    exact ⟨by rw [HLV.out, c1]; rfl, below_alloc (Below.refl _ _) _⟩
  · have c1 : decide (now < u) = false := decide_eq_false c
    go_enter Try.func17, Try.ntmps17
    go_wp2_with fail
    go_ret
    exact ⟨by rw [HLV.out, c1]; rfl, below_alloc (Below.refl _ _) _⟩
set_option maxHeartbeats 1000000 in
set_option maxRecDepth 100000 in
theorem LiveR_calls (w : World) (m : Array Value) (u h : Int) (h5 : m[5]? = some (.int .i64 u)) (h6 : m[6]? = some (.int .i64 h)) (now : Int) :
    Calls Try.prog 18 #[.agg m, .int .i64 now] w fun e w' => e = .returned (.bool (liveF u h now)) ∧ Below w.heap.size w w' := by
  have k5 : (w.alloc (.cells m 33)).cell? ⟨w.heap.size, 5, none⟩ = some (.int .i64 u) := by rw [← h5]; exact blk_cell (blk_new w (.cells m 33)) 5
  have k6 : (w.alloc (.cells m 33)).cell? ⟨w.heap.size, 6, none⟩ = some (.int .i64 h) := by rw [← h6]; exact blk_cell (blk_new w (.cells m 33)) 6
  clear h5 h6
  have HLV : Aside0 (liveF u h now = (decide (now < u) || decide (now < h))) := ⟨rfl⟩
  by_cases c : now < u
  · have c1 : decide (now < u) = true := decide_eq_true c
    go_enter Try.func18, Try.ntmps18
    go_wp2_with fail
    go_ret
    exact ⟨by rw [HLV.out, c1]; rfl, below_alloc (Below.refl _ _) _⟩
  · have c1 : decide (now < u) = false := decide_eq_false c
    go_enter Try.func18, Try.ntmps18
    go_wp2_with fail
    go_ret
    exact ⟨by rw [HLV.out, c1]; rfl, below_alloc (Below.refl _ _) _⟩
def okR (fa fp : Int) (f : F3) : Bool := (f.2.2 == 0 || f.2.2 == fp) && topR f.1 fa f.2.1
def letsR (fs : List F3) (fa fp : Int) : Bool := fs.any (okR fa fp) || decide (fs.length = 0)
theorem okR_a {fa fp f1 f2 : Int} (h : topR f1 fa f2 = true) : okR fa fp (f1, f2, 0) = true := by simp [okR, h]
theorem okR_an {fa fp f1 f2 : Int} (h : topR f1 fa f2 = false) : okR fa fp (f1, f2, 0) = false := by simp [okR, h]
theorem okR_b {fa f1 f2 f3 : Int} (h : topR f1 fa f2 = true) : okR fa f3 (f1, f2, f3) = true := by simp [okR, h]
theorem okR_bn {fa f1 f2 f3 : Int} (h : topR f1 fa f2 = false) : okR fa f3 (f1, f2, f3) = false := by simp [okR, h]
theorem okR_c {fa fp f1 f2 f3 : Int} (h1 : (f3 == 0) = false) (h2 : (f3 == fp) = false) : okR fa fp (f1, f2, f3) = false := by simp only [okR, h1, h2]; rfl
theorem letsR_hit {fs : List F3} {i : Nat} {fa fp : Int} {f : F3} (h : fs[i]? = some f) (ho : okR fa fp f = true) : letsR fs fa fp = true := by
  unfold letsR
  rw [List.any_eq_true.2 ⟨f, List.mem_of_getElem? h, ho⟩]
  rfl
theorem anyR_next {fs : List F3} {i : Nat} {fa fp : Int} {f : F3} (h : (fs.take i).any (okR fa fp) = false) (hg : fs[i]? = some f) (ho : okR fa fp f = false) : (fs.take (i + 1)).any (okR fa fp) = false := by
  rw [List.take_add_one, hg, List.any_append, h]
  simp [ho]
theorem lets_same (fs : List F3) (fp : Int) (b : Nat) (hb : b < 4294967296) (h : ∀ f ∈ fs, 0 ≤ f.1 ∧ f.1 < 4294967296) : letsR fs b fp = letsF fs b fp := by
  have hh : fs.any (okR b fp) = fs.any (okF b fp) := by
    induction fs with
    | nil => rfl
    | cons f r ih =>
      rw [List.any_cons, List.any_cons, ih (fun g hg => h g (List.mem_cons_of_mem _ hg))]
      have h1 := h f List.mem_cons_self
      obtain ⟨n, hn⟩ := Int.eq_ofNat_of_zero_le h1.1
      have : okR b fp f = okF b fp f := by unfold okR okF; rw [hn, top_eq n b (by omega) hb]
      rw [this]
  unfold letsR letsF
  rw [hh]
set_option maxHeartbeats 8000000 in
set_option maxRecDepth 100000 in
theorem LetsR_calls (w : World) (m : Array Value) (A : Option Addr) (cap : Nat) (fs : List F3) (hm : m[19]? = some (.slice A fs.length cap)) (hC : kF.C w A fs.length fs) (hl : fs.length ≤ 1000000) (fa fp : Int) :
    Calls Try.prog 19 #[.agg m, .agg #[.int .u32 fa, .int .i64 fp]] w fun e w' => e = .returned (.bool (letsR fs fa fp)) ∧ Below w.heap.size w w' := by
  have hb := Below.alloc (below_alloc (Below.refl w.heap.size w) (.cells m 33)) (by rw [World.size_alloc]; exact Nat.le_succ _) (E1 fa fp)
  have x1 := blk_alloc (blk_new w (.cells m 33)) (E1 fa fp)
  have x2 : ((w.alloc (.cells m 33)).alloc (E1 fa fp)).heap[w.heap.size + 1]? = some (E1 fa fp) := two_new w _ _
  have HC := Aside0.mk (Kd.C_below hC hb)
  have HB := Aside0.mk hb
  have X1 := Aside0.mk x1
  have X2 := Aside0.mk x2
  have HL := Aside0.mk hl
  have HM := Aside0.mk hm
  clear hb x1 x2 hC hl hm
  unfold E1 at HB HC X1 X2
  go_enter Try.func19, Try.ntmps19
  go_wp2_with fail
  generalize (w.alloc (.cells m 33)).alloc (.cells #[.int .u32 fa, .int .i64 fp] 29) = w2 at *
  go_loopg [5] fs.length (fun r v5 wr => ∃ (i : Nat), v5 = .int .i64 i ∧ Aside0 (r + i = fs.length) ∧ Aside0 (Below w2.heap.size w2 wr) ∧ Aside0 ((fs.take i).any (okR fa fp) = false))
  case atStart => exact ⟨0, rfl, ⟨by omega⟩, ⟨Below.refl _ _⟩, ⟨by simp⟩⟩
  case round =>
    obtain ⟨i, rfl, hr, hbr, hAny⟩ := hrel
    have kx : wr.cell? ⟨w.heap.size, 19, none⟩ = some (.slice A fs.length cap) := by rw [← HM.out]; exact blk_cell (blk_below X1.out hbr.out) 19
    by_cases hi : i < fs.length
    · have hi1 : decide ((i : Int) < (fs.length : Int)) = true := decide_eq_true (by omega)
      have hi2 : (i : Int) < (fs.length : Int) := by omega
      have hi3 : (0 : Int) ≤ (i : Int) := by omega
      obtain ⟨ad0, hA0, p0, p1, p2⟩ := at_F (Kd.C_below HC.out hbr.out) (i : Int) hi3 hi2
      subst hA0
      have hg : fs[i]? = some (fs.getD i (0, 0, 0)) := by rw [List.getD_eq_getElem?_getD, List.getElem?_eq_getElem hi]; rfl
      have HG := Aside0.mk hg
      clear hg
      rw [Int.toNat_natCast] at p0 p1 p2
      generalize fs.getD i (0, 0, 0) = f at *
      obtain ⟨f1, f2, f3⟩ := f
      simp only at p0 p1 p2
      have HTOP := Aside0.mk (top_some f1 fa f2)
      by_cases h1 : f3 = 0
      · subst h1
        have q0 : (wr.alloc (.cells #[.int .u32 f1, .int .i64 f2, .int .i64 0] 35)).cell? ⟨w.heap.size + 1, 0, none⟩ = some (.int .u32 fa) := cell_alloc_old (blk_cell (blk_below X2.out hbr.out) 0) _
        have q1 : (wr.alloc (.cells #[.int .u32 f1, .int .i64 f2, .int .i64 0] 35)).cell? ⟨w.heap.size + 1, 1, none⟩ = some (.int .i64 fp) := cell_alloc_old (blk_cell (blk_below X2.out hbr.out) 1) _
        go_wp2_with (go_at_call 51; refine (bailiwickref14_Top.calls f1 fa f2 (topR f1 fa f2) _ HTOP.out).mono ?_; rintro e wt ⟨rfl, hd⟩; have HD := Aside0.mk (below_step (below_alloc (Below.refl wr.heap.size wr) _) hd.below); clear hd)
        · rename_i he
          go_ret
          refine ⟨by rw [letsR_hit HG.out (okR_a he)]; rfl, below_step HB.out (below_step hbr.out HD.out)⟩
        · rename_i he
          go_roundg (fs.length - (i + 1))
          case measure => have := hr.out; omega
          case rel => exact ⟨i + 1, by first | rfl | (have := HL.out; rw [show wrap64 ((i : Int) + 1) = ((i + 1 : Nat) : Int) from by unfold wrap64; omega]), ⟨by omega⟩, ⟨below_step hbr.out HD.out⟩, ⟨anyR_next hAny.out HG.out (okR_an he)⟩⟩
      · have h1b : (f3 == 0) = false := beq_eq_false_iff_ne.mpr h1
        by_cases h2 : f3 = fp
        · subst h2
          have q0 : (wr.alloc (.cells #[.int .u32 f1, .int .i64 f2, .int .i64 f3] 35)).cell? ⟨w.heap.size + 1, 0, none⟩ = some (.int .u32 fa) := cell_alloc_old (blk_cell (blk_below X2.out hbr.out) 0) _
          have q1 : (wr.alloc (.cells #[.int .u32 f1, .int .i64 f2, .int .i64 f3] 35)).cell? ⟨w.heap.size + 1, 1, none⟩ = some (.int .i64 f3) := cell_alloc_old (blk_cell (blk_below X2.out hbr.out) 1) _
          clear h1
          go_wp2_with (go_at_call 51; refine (bailiwickref14_Top.calls f1 fa f2 (topR f1 fa f2) _ HTOP.out).mono ?_; rintro e wt ⟨rfl, hd⟩; have HD := Aside0.mk (below_step (below_alloc (Below.refl wr.heap.size wr) _) hd.below); clear hd)
          · rename_i he
            go_ret
            refine ⟨by rw [letsR_hit HG.out (okR_b he)]; rfl, below_step HB.out (below_step hbr.out HD.out)⟩
          · rename_i he
            go_roundg (fs.length - (i + 1))
            case measure => have := hr.out; omega
            case rel => exact ⟨i + 1, by first | rfl | (have := HL.out; rw [show wrap64 ((i : Int) + 1) = ((i + 1 : Nat) : Int) from by unfold wrap64; omega]), ⟨by omega⟩, ⟨below_step hbr.out HD.out⟩, ⟨anyR_next hAny.out HG.out (okR_bn he)⟩⟩
        · have h2b : (f3 == fp) = false := beq_eq_false_iff_ne.mpr h2
          have q0 : (wr.alloc (.cells #[.int .u32 f1, .int .i64 f2, .int .i64 f3] 35)).cell? ⟨w.heap.size + 1, 0, none⟩ = some (.int .u32 fa) := cell_alloc_old (blk_cell (blk_below X2.out hbr.out) 0) _
          have q1 : (wr.alloc (.cells #[.int .u32 f1, .int .i64 f2, .int .i64 f3] 35)).cell? ⟨w.heap.size + 1, 1, none⟩ = some (.int .i64 fp) := cell_alloc_old (blk_cell (blk_below X2.out hbr.out) 1) _
          clear h1 h2
          go_wp2_with fail
          go_roundg (fs.length - (i + 1))
          case measure => have := hr.out; omega
          case rel => exact ⟨i + 1, by first | rfl | (have := HL.out; rw [show wrap64 ((i : Int) + 1) = ((i + 1 : Nat) : Int) from by unfold wrap64; omega]), ⟨by omega⟩, ⟨hbr.out.alloc hbr.out.size _⟩, ⟨anyR_next hAny.out HG.out (okR_c h1b h2b)⟩⟩
    · have hi1 : decide ((i : Int) < (fs.length : Int)) = false := decide_eq_false (by omega)
      have hil : i = fs.length := by have := hr.out; omega
      have ha := hAny.out
      rw [hil, List.take_length] at ha
      have HA : Aside0 (letsR fs fa fp = ((fs.length : Int) == 0)) := ⟨by unfold letsR; rw [ha, Bool.false_or, Bool.eq_iff_iff]; simp⟩
      clear ha hil
      go_wp2_with fail
      go_ret
      exact ⟨by rw [HA.out]; first | rfl | simp, below_step HB.out hbr.out⟩
end Go.Proofs.Ytkpaibkkigfahaa.Bd
