/- chapter 18: bind.Lets. -/
import Derived.Test.YtkpaibkkigfahaaBd3
namespace Go.Proofs.Ytkpaibkkigfahaa.Bd
open Go.RowKit Go.Proofs.YtkpaibkkigfahaaW.PrintWords Go.Proofs.YtkpaibkkigfahaaW.PrintLast Go.Proofs.YtkpaibkkigfahaaW.PrintMore Go.Proofs.Ytkpaibkkigfahaa.Bs Go.Proofs.Ytkpaibkkigfahaa.Fr Go.Proofs.Ytkpaibkkigfahaa.Mp
open Go.Proofs.Ytkpaibkkigfahaa.PBindLets
set_option linter.unusedVariables false
set_option linter.unusedSimpArgs false
abbrev xo (f1 fa : Int) : Int := bits BinOp.xor IntKind.u64 (IntKind.u64.wrap f1) (IntKind.u64.wrap fa)
/-- Are the highest bits the same? -/
def topF (f1 fa f2 : Int) : Bool := if 32 < f2 then xo f1 fa == 0 else if 0 < f2 then xo f1 fa / 2 ^ (32 - f2).toNat == 0 else xo f1 fa / 4294967296 == 0
def okF (fa fp : Int) (f : F3) : Bool := (f.2.2 == 0 || f.2.2 == fp) && topF f.1 fa f.2.1
def letsF (fs : List F3) (fa fp : Int) : Bool := fs.any (okF fa fp) || decide (fs.length = 0)
theorem okF_a {fa fp f1 f2 : Int} (h : topF f1 fa f2 = true) : okF fa fp (f1, f2, 0) = true := by simp [okF, h]
theorem okF_an {fa fp f1 f2 : Int} (h : topF f1 fa f2 = false) : okF fa fp (f1, f2, 0) = false := by simp [okF, h]
theorem okF_b {fa f1 f2 f3 : Int} (h : topF f1 fa f2 = true) : okF fa f3 (f1, f2, f3) = true := by simp [okF, h]
theorem okF_bn {fa f1 f2 f3 : Int} (h : topF f1 fa f2 = false) : okF fa f3 (f1, f2, f3) = false := by simp [okF, h]
theorem okF_c {fa fp f1 f2 f3 : Int} (h1 : (f3 == 0) = false) (h2 : (f3 == fp) = false) : okF fa fp (f1, f2, f3) = false := by simp only [okF, h1, h2]; rfl
theorem lets_hit {fs : List F3} {i : Nat} {fa fp : Int} {f : F3} (h : fs[i]? = some f) (ho : okF fa fp f = true) : letsF fs fa fp = true := by
  unfold letsF
  rw [List.any_eq_true.2 ⟨f, List.mem_of_getElem? h, ho⟩]
  rfl
theorem any_next {fs : List F3} {i : Nat} {fa fp : Int} {f : F3} (h : (fs.take i).any (okF fa fp) = false) (hg : fs[i]? = some f) (ho : okF fa fp f = false) : (fs.take (i + 1)).any (okF fa fp) = false := by
  rw [List.take_add_one, hg, List.any_append, h]
  simp [ho]
set_option maxHeartbeats 8000000 in
set_option maxRecDepth 100000 in
theorem Lets_calls (w : World) (m : Array Value) (A : Option Addr) (cap : Nat) (fs : List F3) (hm : m[19]? = some (.slice A fs.length cap)) (hC : kF.C w A fs.length fs) (hl : fs.length ≤ 1000000) (fa fp : Int) :
    Calls Try.prog 16 #[.agg m, .agg #[.int .u32 fa, .int .i64 fp]] w fun e w' => e = .returned (.bool (letsF fs fa fp)) ∧ Below w.heap.size w w' := by
  have hb := Below.alloc (below_alloc (Below.refl w.heap.size w) (.cells m 33)) (by rw [World.size_alloc]; exact Nat.le_succ _) (E1 fa fp)
  have x1 := blk_alloc (blk_new w (.cells m 33)) (E1 fa fp)
  have x2 : ((w.alloc (.cells m 33)).alloc (E1 fa fp)).heap[w.heap.size + 1]? = some (E1 fa fp) := two_new w _ _
  have k0 : ((w.alloc (.cells m 33)).alloc (E1 fa fp)).cell? ⟨w.heap.size, 19, none⟩ = some (.slice A fs.length cap) := by rw [← hm]; exact blk_cell x1 19
  have HC := Aside0.mk (Kd.C_below hC hb)
  have HB := Aside0.mk hb
  have X1 := Aside0.mk x1
  have X2 := Aside0.mk x2
  have HL := Aside0.mk hl
  have HM := Aside0.mk hm
  clear hb x1 x2 hC hl hm
  unfold E1 at k0 HB HC X1 X2
  go_enter Try.func16, Try.ntmps16
  go_wp2_with fail
  clear k0
  generalize (w.alloc (.cells m 33)).alloc (.cells #[.int .u32 fa, .int .i64 fp] 29) = w2 at *
  go_loopg [11] fs.length (fun r v11 wr => ∃ (i : Nat), v11 = .int .i64 i ∧ Aside0 (r + i = fs.length) ∧ Aside0 (Below w2.heap.size w2 wr) ∧ Aside0 ((fs.take i).any (okF fa fp) = false))
  case atStart => exact ⟨0, rfl, ⟨by omega⟩, ⟨Below.refl _ _⟩, ⟨by simp⟩⟩
  case round =>
    obtain ⟨i, rfl, hr, hbr, hAny⟩ := hrel
    by_cases hi : i < fs.length
    · have hi1 : decide ((i : Int) < (fs.length : Int)) = true := decide_eq_true (by omega)
      have hi2 : (i : Int) < (fs.length : Int) := by omega
      have hi3 : (0 : Int) ≤ (i : Int) := by omega
      obtain ⟨ad0, hA0, p0, p1, p2⟩ := at_F (Kd.C_below HC.out hbr.out) (i : Int) hi3 hi2
      subst hA0
      have hg : fs[i]? = some (fs.getD i (0, 0, 0)) := by rw [List.getD_eq_getElem?_getD, List.getElem?_eq_getElem hi]; rfl
      have HG := Aside0.mk hg
      clear hg
      rw [Int.toNat_natCast] at p0 p1 p2
      generalize fs.getD i (0, 0, 0) = f at *
      obtain ⟨f1, f2, f3⟩ := f
      simp only at p0 p1 p2
      by_cases h1 : f3 = 0
      · subst h1
        have q0 : (wr.alloc (.cells #[.int .u32 f1, .int .i64 f2, .int .i64 0] 35)).cell? ⟨w.heap.size + 1, 0, none⟩ = some (.int .u32 fa) := cell_alloc_old (blk_cell (blk_below X2.out hbr.out) 0) _
        have q1 : (wr.alloc (.cells #[.int .u32 f1, .int .i64 f2, .int .i64 0] 35)).cell? ⟨w.heap.size + 1, 1, none⟩ = some (.int .i64 fp) := cell_alloc_old (blk_cell (blk_below X2.out hbr.out) 1) _
        by_cases hb1 : 32 < f2
        · skip
          have HT : Aside0 (topF f1 fa f2 = (xo f1 fa == 0)) := ⟨by unfold topF; rw [if_pos hb1]⟩
          go_wp2_with fail
          · rename_i he
            go_ret
            refine ⟨by rw [lets_hit HG.out (okF_a (HT.out.trans he))]; rfl, below_step HB.out (hbr.out.alloc hbr.out.size _)⟩
          · rename_i he
            go_roundg (fs.length - (i + 1))
            case measure => have := hr.out; omega
            case rel => exact ⟨i + 1, by first | rfl | (have := HL.out; rw [show wrap64 ((i : Int) + 1) = ((i + 1 : Nat) : Int) from by unfold wrap64; omega]), ⟨by omega⟩, ⟨hbr.out.alloc hbr.out.size _⟩, ⟨any_next hAny.out HG.out (okF_an (HT.out.trans he))⟩⟩
        by_cases hb2 : 0 < f2
        · skip
          have HT : Aside0 (topF f1 fa f2 = (xo f1 fa / 2 ^ (32 - f2).toNat == 0)) := ⟨by unfold topF; rw [if_neg hb1, if_pos hb2]⟩
          go_wp2_with fail
          · rename_i he
            go_ret
            refine ⟨by rw [lets_hit HG.out (okF_a (HT.out.trans he))]; rfl, below_step HB.out (hbr.out.alloc hbr.out.size _)⟩
          · rename_i he
            go_roundg (fs.length - (i + 1))
            case measure => have := hr.out; omega
            case rel => exact ⟨i + 1, by first | rfl | (have := HL.out; rw [show wrap64 ((i : Int) + 1) = ((i + 1 : Nat) : Int) from by unfold wrap64; omega]), ⟨by omega⟩, ⟨hbr.out.alloc hbr.out.size _⟩, ⟨any_next hAny.out HG.out (okF_an (HT.out.trans he))⟩⟩
        have HT : Aside0 (topF f1 fa f2 = (xo f1 fa / 4294967296 == 0)) := ⟨by unfold topF; rw [if_neg hb1, if_neg hb2]⟩
        go_wp2_with fail
        · rename_i he
          go_ret
          refine ⟨by rw [lets_hit HG.out (okF_a (HT.out.trans he))]; rfl, below_step HB.out (hbr.out.alloc hbr.out.size _)⟩
        · rename_i he
          go_roundg (fs.length - (i + 1))
          case measure => have := hr.out; omega
          case rel => exact ⟨i + 1, by first | rfl | (have := HL.out; rw [show wrap64 ((i : Int) + 1) = ((i + 1 : Nat) : Int) from by unfold wrap64; omega]), ⟨by omega⟩, ⟨hbr.out.alloc hbr.out.size _⟩, ⟨any_next hAny.out HG.out (okF_an (HT.out.trans he))⟩⟩
      · have h1b : (f3 == 0) = false := beq_eq_false_iff_ne.mpr h1
        by_cases h2 : f3 = fp
        · subst h2
          have q0 : (wr.alloc (.cells #[.int .u32 f1, .int .i64 f2, .int .i64 f3] 35)).cell? ⟨w.heap.size + 1, 0, none⟩ = some (.int .u32 fa) := cell_alloc_old (blk_cell (blk_below X2.out hbr.out) 0) _
          have q1 : (wr.alloc (.cells #[.int .u32 f1, .int .i64 f2, .int .i64 f3] 35)).cell? ⟨w.heap.size + 1, 1, none⟩ = some (.int .i64 f3) := cell_alloc_old (blk_cell (blk_below X2.out hbr.out) 1) _
          clear h1
          by_cases hb1 : 32 < f2
          · skip
            have HT : Aside0 (topF f1 fa f2 = (xo f1 fa == 0)) := ⟨by unfold topF; rw [if_pos hb1]⟩
            go_wp2_with fail
            · rename_i he
              go_ret
              refine ⟨by rw [lets_hit HG.out (okF_b (HT.out.trans he))]; rfl, below_step HB.out (hbr.out.alloc hbr.out.size _)⟩
            · rename_i he
              go_roundg (fs.length - (i + 1))
              case measure => have := hr.out; omega
              case rel => exact ⟨i + 1, by first | rfl | (have := HL.out; rw [show wrap64 ((i : Int) + 1) = ((i + 1 : Nat) : Int) from by unfold wrap64; omega]), ⟨by omega⟩, ⟨hbr.out.alloc hbr.out.size _⟩, ⟨any_next hAny.out HG.out (okF_bn (HT.out.trans he))⟩⟩
          by_cases hb2 : 0 < f2
          · skip
            have HT : Aside0 (topF f1 fa f2 = (xo f1 fa / 2 ^ (32 - f2).toNat == 0)) := ⟨by unfold topF; rw [if_neg hb1, if_pos hb2]⟩
            go_wp2_with fail
            · rename_i he
              go_ret
              refine ⟨by rw [lets_hit HG.out (okF_b (HT.out.trans he))]; rfl, below_step HB.out (hbr.out.alloc hbr.out.size _)⟩
            · rename_i he
              go_roundg (fs.length - (i + 1))
              case measure => have := hr.out; omega
              case rel => exact ⟨i + 1, by first | rfl | (have := HL.out; rw [show wrap64 ((i : Int) + 1) = ((i + 1 : Nat) : Int) from by unfold wrap64; omega]), ⟨by omega⟩, ⟨hbr.out.alloc hbr.out.size _⟩, ⟨any_next hAny.out HG.out (okF_bn (HT.out.trans he))⟩⟩
          have HT : Aside0 (topF f1 fa f2 = (xo f1 fa / 4294967296 == 0)) := ⟨by unfold topF; rw [if_neg hb1, if_neg hb2]⟩
          go_wp2_with fail
          · rename_i he
            go_ret
            refine ⟨by rw [lets_hit HG.out (okF_b (HT.out.trans he))]; rfl, below_step HB.out (hbr.out.alloc hbr.out.size _)⟩
          · rename_i he
            go_roundg (fs.length - (i + 1))
            case measure => have := hr.out; omega
            case rel => exact ⟨i + 1, by first | rfl | (have := HL.out; rw [show wrap64 ((i : Int) + 1) = ((i + 1 : Nat) : Int) from by unfold wrap64; omega]), ⟨by omega⟩, ⟨hbr.out.alloc hbr.out.size _⟩, ⟨any_next hAny.out HG.out (okF_bn (HT.out.trans he))⟩⟩
        · have h2b : (f3 == fp) = false := beq_eq_false_iff_ne.mpr h2
          have q0 : (wr.alloc (.cells #[.int .u32 f1, .int .i64 f2, .int .i64 f3] 35)).cell? ⟨w.heap.size + 1, 0, none⟩ = some (.int .u32 fa) := cell_alloc_old (blk_cell (blk_below X2.out hbr.out) 0) _
          have q1 : (wr.alloc (.cells #[.int .u32 f1, .int .i64 f2, .int .i64 f3] 35)).cell? ⟨w.heap.size + 1, 1, none⟩ = some (.int .i64 fp) := cell_alloc_old (blk_cell (blk_below X2.out hbr.out) 1) _
          clear h1 h2
          by_cases hb1 : 32 < f2
          · skip
            go_wp2_with fail
            go_roundg (fs.length - (i + 1))
            case measure => have := hr.out; omega
            case rel => exact ⟨i + 1, by first | rfl | (have := HL.out; rw [show wrap64 ((i : Int) + 1) = ((i + 1 : Nat) : Int) from by unfold wrap64; omega]), ⟨by omega⟩, ⟨hbr.out.alloc hbr.out.size _⟩, ⟨any_next hAny.out HG.out (okF_c h1b h2b)⟩⟩
          by_cases hb2 : 0 < f2
          · skip
            go_wp2_with fail
            go_roundg (fs.length - (i + 1))
            case measure => have := hr.out; omega
            case rel => exact ⟨i + 1, by first | rfl | (have := HL.out; rw [show wrap64 ((i : Int) + 1) = ((i + 1 : Nat) : Int) from by unfold wrap64; omega]), ⟨by omega⟩, ⟨hbr.out.alloc hbr.out.size _⟩, ⟨any_next hAny.out HG.out (okF_c h1b h2b)⟩⟩
          go_wp2_with fail
          go_roundg (fs.length - (i + 1))
          case measure => have := hr.out; omega
          case rel => exact ⟨i + 1, by first | rfl | (have := HL.out; rw [show wrap64 ((i : Int) + 1) = ((i + 1 : Nat) : Int) from by unfold wrap64; omega]), ⟨by omega⟩, ⟨hbr.out.alloc hbr.out.size _⟩, ⟨any_next hAny.out HG.out (okF_c h1b h2b)⟩⟩
    · have hi1 : decide ((i : Int) < (fs.length : Int)) = false := decide_eq_false (by omega)
      have kx : wr.cell? ⟨w.heap.size, 19, none⟩ = some (.slice A fs.length cap) := by rw [← HM.out]; exact blk_cell (blk_below X1.out hbr.out) 19
      have hil : i = fs.length := by have := hr.out; omega
      have ha := hAny.out
      rw [hil, List.take_length] at ha
      have HA : Aside0 (letsF fs fa fp = ((fs.length : Int) == 0)) := ⟨by unfold letsF; rw [ha, Bool.false_or, Bool.eq_iff_iff]; simp⟩
      clear ha hil
      go_wp2_with fail
      go_ret
      exact ⟨by rw [HA.out]; first | rfl | simp, below_step HB.out hbr.out⟩
end Go.Proofs.Ytkpaibkkigfahaa.Bd
