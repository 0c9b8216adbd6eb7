/- the document's Mapped. -/
import Derived.Test.YtpjkbokojlpjoaaAsk5
namespace Go.Proofs.Ytpjkbokojlpjoaa.Ak
open Go.RowKit Go.Proofs.YtpjkbokojlpjoaaW.PrintWords Go.Proofs.YtpjkbokojlpjoaaW.PrintLast Go.Proofs.YtpjkbokojlpjoaaW.PrintMore Go.Proofs.Ytpjkbokojlpjoaa.Bs Go.Proofs.Ytpjkbokojlpjoaa.Fr Go.Proofs.Ytpjkbokojlpjoaa.Oct
set_option linter.unusedVariables false
set_option linter.unusedSimpArgs false

theorem take_rd (l : List Int) (i : Nat) (h : i < l.length) : l.take (i + 1) = l.take i ++ [rd l i] := take_snoc_rd l i h
theorem arr_cell {w : World} {g : Nat} {t : TypeId} {l : List Int} (hb : w.heap[g]? = some (.cells (encs (Value.int .u8) l).toArray t (0, 0))) (i : Nat) (hi : i < l.length) : w.cell? ⟨g, i, none⟩ = some (.int .u8 (rd l i)) := by
  rw [blk_cell hb i]
  unfold encs rd
  simp [List.getElem?_eq_getElem hi, List.getD_eq_getElem?_getD]
theorem not_pre (l : List Int) (hl : l.length = 16) (i : Nat) (hi : i < 12) (h : ¬ rd l i = rd pre12 i) : mapB l = false := by
  unfold mapB
  apply decide_eq_false
  intro e
  apply h
  have h1 : rd (l.take 12) i = rd l i := rd_take l 12 i hi
  rw [e] at h1
  exact h1.symm
theorem pre_lt (i : Nat) (h : i < 10) : rd pre12 i = 0 := by
  have : ∀ i : Fin 10, rd pre12 ((i.val : Nat) : Int) = 0 := by decide
  exact this ⟨i, h⟩
theorem pre_ge (i : Nat) (h : 10 ≤ i) (h2 : i < 12) : rd pre12 i = 255 := by
  have : i = 10 ∨ i = 11 := by omega
  rcases this with rfl | rfl <;> rfl
def or4 (x0 x1 x2 x3 : Int) : Int := Go.bits .or .u32 (Go.bits .or .u32 (Go.bits .or .u32 (x0 * 16777216) (x1 * 65536)) (x2 * 256)) x3
theorem or_s24 (a b : Nat) (ha : a < 256) (hb : b < 16777216) : Go.bits .or .u32 ((a : Int) * 16777216) (b : Int) = (a : Int) * 16777216 + (b : Int) := by
  have h := u32_or_nat (2 ^ 24 * a) b (by omega) (by omega)
  have e : ((2 ^ 24 * a : Nat) : Int) = (a : Int) * 16777216 := by omega
  rw [← Nat.two_pow_add_eq_or_of_lt (by omega : b < 2 ^ 24)] at h
  rw [← e, h]
  omega
theorem or_s16 (a b : Nat) (ha : a < 65536) (hb : b < 65536) : Go.bits .or .u32 ((a : Int) * 65536) (b : Int) = (a : Int) * 65536 + (b : Int) := by
  have h := u32_or_nat (2 ^ 16 * a) b (by omega) (by omega)
  have e : ((2 ^ 16 * a : Nat) : Int) = (a : Int) * 65536 := by omega
  rw [← Nat.two_pow_add_eq_or_of_lt (by omega : b < 2 ^ 16)] at h
  rw [← e, h]
  omega
theorem or_s8 (a b : Nat) (ha : a < 16777216) (hb : b < 256) : Go.bits .or .u32 ((a : Int) * 256) (b : Int) = (a : Int) * 256 + (b : Int) := by
  have h := u32_or_nat (2 ^ 8 * a) b (by omega) (by omega)
  have e : ((2 ^ 8 * a : Nat) : Int) = (a : Int) * 256 := by omega
  rw [← Nat.two_pow_add_eq_or_of_lt (by omega : b < 2 ^ 8)] at h
  rw [← e, h]
  omega
set_option maxRecDepth 100000 in
theorem or4_eq (x0 x1 x2 x3 : Int) (h0 : 0 ≤ x0 ∧ x0 ≤ 255) (h1 : 0 ≤ x1 ∧ x1 ≤ 255) (h2 : 0 ≤ x2 ∧ x2 ≤ 255) (h3 : 0 ≤ x3 ∧ x3 ≤ 255) : or4 x0 x1 x2 x3 = x0 * 16777216 + x1 * 65536 + x2 * 256 + x3 := by
  obtain ⟨a, rfl⟩ := Int.eq_ofNat_of_zero_le h0.1
  obtain ⟨b, rfl⟩ := Int.eq_ofNat_of_zero_le h1.1
  obtain ⟨c, rfl⟩ := Int.eq_ofNat_of_zero_le h2.1
  obtain ⟨d, rfl⟩ := Int.eq_ofNat_of_zero_le h3.1
  unfold or4
  have e1 := or_s24 a (b * 65536) (by omega) (by omega)
  have k1 : ((b * 65536 : Nat) : Int) = (b : Int) * 65536 := by omega
  rw [k1] at e1
  have e2 := or_s16 (a * 256 + b) (c * 256) (by omega) (by omega)
  have k2 : ((c * 256 : Nat) : Int) = (c : Int) * 256 := by omega
  have k3 : ((a * 256 + b : Nat) : Int) * 65536 = (a : Int) * 16777216 + (b : Int) * 65536 := by omega
  rw [k2, k3] at e2
  have e3 := or_s8 (a * 65536 + b * 256 + c) d (by omega) (by omega)
  have k4 : ((a * 65536 + b * 256 + c : Nat) : Int) * 256 = (a : Int) * 16777216 + (b : Int) * 65536 + (c : Int) * 256 := by omega
  rw [k4] at e3
  rw [e1, e2, e3]
theorem mapV_four (l : List Int) (hl : l.length = 16) (h : mapB l = true) : mapV l = rd l (12 : Nat) * 16777216 + rd l (13 : Nat) * 65536 + rd l (14 : Nat) * 256 + rd l (15 : Nat) := by
  unfold mapV
  rw [if_pos h]
  have e : l.drop 12 = [rd l (12 : Nat), rd l (13 : Nat), rd l (14 : Nat), rd l (15 : Nat)] := by
    apply List.ext_getElem
    · rw [List.length_drop, hl]; rfl
    · intro i h1 h2
      have h3 : i < 4 := h2
      have : i = 0 ∨ i = 1 ∨ i = 2 ∨ i = 3 := by omega
      rcases this with rfl | rfl | rfl | rfl <;> simp [rd, List.getD_eq_getElem?_getD, hl]
  rw [e]
  simp only [beN, List.foldl]
  omega
set_option maxHeartbeats 1000000 in
set_option maxRecDepth 100000 in
theorem RMapped_calls (l : List Int) (hl : l.length = 16) (hB : Byt l) (w : World) : Calls Try.prog 14 #[arr l] w fun e w' => e = .returned (.tuple #[.int .u32 (mapV l), .bool (mapB l)]) ∧ Below w.heap.size w w' := by
  have B0 := Aside0.mk (below_alloc (Below.refl w.heap.size w) (.cells (encs (Value.int .u8) l).toArray 25))
  have X0 := Aside0.mk (blk_new w (.cells (encs (Value.int .u8) l).toArray 25))
  have HB := Aside0.mk hB
  have HL := Aside0.mk hl
  clear hB hl
  unfold arr
  go_enter Try.func14, Try.ntmps14
  go_upto_region 2 with fail
  generalize w.alloc (.cells (encs (Value.int .u8) l).toArray 25) = w1 at *
  go_loopg [4] 12 (fun q v4 wr => ∃ i : Nat, v4 = .int .i64 i ∧ Aside0 (i + q = 12) ∧ Aside0 (l.take i = pre12.take i) ∧ wr = w1)
  case atStart => exact ⟨0, rfl, ⟨rfl⟩, ⟨rfl⟩, rfl⟩
  case round =>
    obtain ⟨i, rfl, Hi, HP, rfl⟩ := hrel
    cases gk with
    | zero =>
      have hi : i = 12 := by have := Hi.out; omega
      subst hi
      have h12 := arr_cell X0.out 12 (by rw [HL.out]; decide)
      have h13 := arr_cell X0.out 13 (by rw [HL.out]; decide)
      have h14 := arr_cell X0.out 14 (by rw [HL.out]; decide)
      have h15 := arr_cell X0.out 15 (by rw [HL.out]; decide)
      have r12 := HB.out.rd 12
      have r13 := HB.out.rd 13
      have r14 := HB.out.rd 14
      have r15 := HB.out.rd 15
      have HT : Aside0 (mapB l = true) := ⟨decide_eq_true HP.out⟩
      have HV : Aside0 (mapV l = or4 (rd l (12 : Nat)) (rd l (13 : Nat)) (rd l (14 : Nat)) (rd l (15 : Nat))) := ⟨by rw [or4_eq _ _ _ _ r12 r13 r14 r15]; exact mapV_four l HL.out HT.out⟩
      generalize rd l (12 : Nat) = x0 at *
      generalize rd l (13 : Nat) = x1 at *
      generalize rd l (14 : Nat) = x2 at *
      generalize rd l (15 : Nat) = x3 at *
      go_wp2
      go_ret2
      exact ⟨by rw [HT.out, HV.out]; rfl, B0.out⟩
    | succ q =>
      have hlt : (i : Int) < 12 := by have := Hi.out; omega
      have hlb := decide_eq_true hlt
      have hcell := arr_cell X0.out i (by rw [HL.out]; have := Hi.out; omega)
      have hi0 : (0 : Int) ≤ i ∧ (i : Int) < 16 := by omega
      have hlt12 : i < 12 := by omega
      by_cases h10 : (i : Int) < 10
      · have hb10 := decide_eq_true h10
        have hg10 : decide ((i : Int) ≥ 10) = false := decide_eq_false (by omega)
        by_cases hx : rd l i = 0
        · have hn : (rd l i != 0) = false := by simpa using hx
          have HP2 : Aside0 (l.take (i + 1) = pre12.take (i + 1)) := ⟨by rw [take_rd l i (by rw [HL.out]; omega), take_rd pre12 i (by show i < 12; omega), HP.out, hx, pre_lt i (by omega)]⟩
          generalize rd l i = x at *
          subst hx
          go_wp2
          go_roundg q
          case measure => omega
          case rel => exact ⟨i + 1, by go_num, ⟨by have := Hi.out; omega⟩, HP2, rfl⟩
        · have hn : (rd l i != 0) = true := by simpa using hx
          have HF : Aside0 (mapB l = false) := ⟨not_pre l HL.out i hlt12 (by rw [pre_lt i (by omega)]; exact hx)⟩
          have HV : Aside0 (mapV l = 0) := ⟨by unfold mapV; rw [HF.out]; rfl⟩
          generalize rd l i = x at *
          go_wp2
          go_ret2
          exact ⟨by rw [HF.out, HV.out]; rfl, B0.out⟩
      · have hb10 : decide ((i : Int) < 10) = false := decide_eq_false h10
        have hg : (i : Int) ≥ 10 := by omega
        have hg10 : decide ((i : Int) ≥ 10) = true := decide_eq_true hg
        by_cases hx : rd l i = 255
        · have hn : (rd l i != 255) = false := by simpa using hx
          have HP2 : Aside0 (l.take (i + 1) = pre12.take (i + 1)) := ⟨by rw [take_rd l i (by rw [HL.out]; omega), take_rd pre12 i (by show i < 12; omega), HP.out, hx, pre_ge i (by omega) hlt12]⟩
          generalize rd l i = x at *
          subst hx
          go_wp2
          go_roundg q
          case measure => omega
          case rel => exact ⟨i + 1, by go_num, ⟨by have := Hi.out; omega⟩, HP2, rfl⟩
        · have hn : (rd l i != 255) = true := by simpa using hx
          have HF : Aside0 (mapB l = false) := ⟨not_pre l HL.out i hlt12 (by rw [pre_ge i (by omega) hlt12]; exact hx)⟩
          have HV : Aside0 (mapV l = 0) := ⟨by unfold mapV; rw [HF.out]; rfl⟩
          generalize rd l i = x at *
          go_wp2
          go_ret2
          exact ⟨by rw [HF.out, HV.out]; rfl, B0.out⟩
end Go.Proofs.Ytpjkbokojlpjoaa.Ak
