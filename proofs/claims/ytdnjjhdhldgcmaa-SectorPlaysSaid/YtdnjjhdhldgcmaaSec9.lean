/- The statement SectorTorn: its walk. -/
import Derived.Test.YtdnjjhdhldgcmaaSec8
namespace Go.Proofs.Ytdnjjhdhldgcmaa.Sec
open Go.RowKit Go.Proofs.YtdnjjhdhldgcmaaW.PrintWords Go.Proofs.YtdnjjhdhldgcmaaW.PrintLast Go.Proofs.YtdnjjhdhldgcmaaW.PrintMore Go.Proofs.Ytdnjjhdhldgcmaa.Bs Go.Proofs.Ytdnjjhdhldgcmaa.Fr
open Go.Proofs.Ytdnjjhdhldgcmaa.PSectorTorn
set_option linter.unusedVariables false
set_option linter.unusedSimpArgs false

theorem elem_cell {w : World} {g : Nat} {t : TypeId} {xs : List Int} (hb : w.heap[g]? = some (.cells (encs (Value.int .u8) xs).toArray t (0, 0))) (i : Nat) (hi : i < xs.length) : w.cell? ⟨g, i, none⟩ = some (.int .u8 (xs.getD i 0)) := by
  rw [blk_cell hb i, List.getD_eq_getElem?_getD, List.getElem?_eq_getElem hi]
  simp [encs, List.getElem?_eq_getElem hi]
def m1 : DM := ⟨List.replicate 1 (rep 0), List.replicate 1 (rep 0), [], [], 0⟩
theorem getD_rep (c : Int) (i : Nat) (hi : i < 64) : (rep c).getD i 0 = c := by
  unfold rep
  rw [List.getD_eq_getElem?_getD, List.getElem?_replicate, if_pos hi]; rfl
theorem left_get (a b c : Int) (i : Nat) (hi : i < 64) : (leftM (rep a) (rep b) c).getD i 0 = if c % 3 = 0 then b else if c % 3 = 1 then a else if (i : Int) < min (c / 3) 64 then b else a := by
  unfold leftM
  split
  · exact getD_rep b i hi
  · split
    · exact getD_rep a i hi
    · rw [List.getD_eq_getElem?_getD, List.getElem?_append]
      split
      · rename_i h
        rw [List.length_take, rep_len] at h
        rw [if_pos (by omega), List.getElem?_take_of_lt (by omega), ← List.getD_eq_getElem?_getD, getD_rep b i hi]
      · rename_i h
        rw [List.length_take, rep_len] at h
        rw [if_neg (by omega), List.length_take, rep_len, List.getElem?_drop, show (min (c / 3) 64).toNat + (i - min (min (c / 3) 64).toNat 64) = i from by omega, ← List.getD_eq_getElem?_getD, getD_rep a i hi]

set_option maxHeartbeats 1000000 in
set_option maxRecDepth 100000 in
theorem torn_walk (w : World) (a : Int) (wa : (Lit.int .u8 a).wf = true) (b : Int) (wb : (Lit.int .u8 b).wf = true) (c : Int) (wc : (Lit.int .u8 c).wf = true) :
    Calls Try.prog 4 #[.int .u8 a, .int .u8 b, .int .u8 c] w fun e w' => e = .returned (.bool true) ∧ Below w.heap.size w w' := by
  have hc : 0 ≤ c ∧ c ≤ 255 := by
    simp only [Lit.wf, Bool.and_eq_true, decide_eq_true_eq] at wc
    exact ⟨wc.1, wc.2⟩
  have HCC := Aside0.mk hc
  clear wa wb wc
  go_enter Try.func4, Try.ntmps4
  go_wp2_with fail
  refine (awake_calls w).mono ?_
  rintro e w0 ⟨rfl, hb0⟩
  have B0 := Aside0.mk hb0
  clear hb0
  go_wp2_with fail
  refine (fresh_calls w0 1 (by decide) (by decide)).mono ?_
  rintro e w1 ⟨g, v0, v1, rfl, hd1, hb1⟩
  have D1 : Aside0 (DV w1 w0.heap.size g v0 v1 (.slice none 0 0) (.slice none 0 0) m1) := ⟨hd1⟩
  have B1 := Aside0.mk (below_step B0.out hb1)
  have HS := Aside0.mk (And.intro B0.out.size hb1.size)
  clear hd1 hb1
  go_wp2_with fail
  refine (ones_calls a w1).mono ?_
  rintro e w2 ⟨gb, cb, rfl, hgb, hr2, hrange, hb2⟩
  have D2 := Aside0.mk (D1.out.below hb2)
  have B2 := Aside0.mk (below_step B1.out hb2)
  have hne : gb ≠ g := by have := D1.out.foot_lt g (.inl rfl); omega
  have R2 := Aside0.mk hrange
  have hs2 : w0.heap.size ≤ w2.heap.size := Nat.le_trans HS.out.2 hb2.size
  clear hgb hr2 hrange hb2 D1 B1
  go_wp2_with fail
  refine (Write_done w2 w0.heap.size g v0 v1 (.slice none 0 0) (.slice none 0 0) m1 D2.out (by decide) (by decide) 0 (by decide) gb cb (rep a) (rep_len a) R2.out (by decide) hs2 hne).mono ?_
  rintro e w3 ⟨rfl, v2, v3, hd3, hf3, _⟩
  rw [show tell (outc m1) = 0 from rfl]
  have D3 : Aside0 (DV w3 w0.heap.size g v0 v1 v2 v3 ⟨[rep 0], [rep a], [((0 : Nat), rep a)], [], 1⟩) := ⟨hd3⟩
  have B3 := Aside0.mk (below_fr B2.out B2.out.size hf3 (fun k hk => Nat.le_trans HS.out.1 (D2.out.foot_ge k hk)))
  have hs3 : w0.heap.size ≤ w3.heap.size := Nat.le_trans hs2 hf3.size
  clear hd3 hf3 D2 B2 R2 hne hs2
  go_wp2_with fail
  refine (Sync_done w3 w0.heap.size g v0 v1 v2 v3 _ D3.out (show (0 : Int) ≤ 1 ∧ (1 : Int) ≤ 1000000000 by decide) (show (1 : Nat) ≤ 1000000 by decide) (show (0 : Int) ≠ 1 by decide) hs3).mono ?_
  rintro e w4 ⟨rfl, v3b, hd4, hf4, _⟩
  have D4 : Aside0 (DV w4 w0.heap.size g v0 v1 (.slice none 0 0) v3b ⟨[rep a], [rep a], [], [], 2⟩) := ⟨hd4⟩
  have B4 := Aside0.mk (below_fr B3.out B3.out.size hf4 (fun k hk => Nat.le_trans HS.out.1 (D3.out.foot_ge k hk)))
  have hs4 : w0.heap.size ≤ w4.heap.size := Nat.le_trans hs3 hf4.size
  clear hd4 hf4 D3 B3 hs3
  rw [show tell (outc ⟨[rep 0], [rep a], [((0 : Nat), rep a)], [], 1⟩) = 0 from rfl]
  go_wp2_with fail
  refine (ones_calls b w4).mono ?_
  rintro e w5 ⟨gb2, cb2, rfl, hgb, hr2, hrange, hb5⟩
  have D5 := Aside0.mk (D4.out.below hb5)
  have B5 := Aside0.mk (below_step B4.out hb5)
  have hne : gb2 ≠ g := by have := D4.out.foot_lt g (.inl rfl); omega
  have R5 := Aside0.mk hrange
  have hs5 : w0.heap.size ≤ w5.heap.size := Nat.le_trans hs4 hb5.size
  clear hgb hr2 hrange hb5 D4 B4 hs4
  go_wp2_with fail
  refine (Write_done w5 w0.heap.size g v0 v1 (.slice none 0 0) v3b _ D5.out (show (0 : Int) ≤ 2 ∧ (2 : Int) ≤ 1000000000 by decide) (show (0 : Nat) ≤ 1000000 by decide) 0 (show 0 < 1 by decide) gb2 cb2 (rep b) (rep_len b) R5.out (show (0 : Int) ≠ 1 by decide) hs5 hne).mono ?_
  rintro e w6 ⟨rfl, v2c, v3c, hd6, hf6, _⟩
  rw [show tell (outc ⟨[rep a], [rep a], [], [], 2⟩) = 0 from rfl]
  have D6 : Aside0 (DV w6 w0.heap.size g v0 v1 v2c v3c ⟨[rep a], [rep b], [((0 : Nat), rep b)], [], 3⟩) := ⟨hd6⟩
  have B6 := Aside0.mk (below_fr B5.out B5.out.size hf6 (fun k hk => Nat.le_trans HS.out.1 (D5.out.foot_ge k hk)))
  clear hd6 hf6 D5 B5 R5 hne hs5
  go_wp2_with fail
  refine (Crash_calls (w6.alloc (.cells #[.int .u8 c] 5)) w0.heap.size g v0 v1 v2c v3c _ (D6.out.below (below_alloc (Below.refl _ _) _)) (show (1 : Nat) ≤ 1000000 by decide) (some ⟨w6.heap.size, 0, none⟩) 1 [c] (lit_C w6 [c] (by simp)) (by simp) (by intro x hx; rw [List.mem_singleton.1 hx]; exact HCC.out)).mono ?_
  rintro e w7 ⟨g7, u0, u1, rfl, hd7, hb7⟩
  have B7 := Aside0.mk (below_step (B6.out.alloc B6.out.size (.cells #[.int .u8 c] 5)) hb7)
  have D7 := Aside0.mk hd7
  clear hd7 hb7 D6 B6
  go_wp2_with fail
  refine (Read_calls w7 _ g7 u0 u1 (.slice none 0 0) (.slice none 0 0) _ D7.out 0 D7.out.n1).mono ?_
  rintro e w9 ⟨g9, rfl, hg9, hx9, hl9, hb9⟩
  have X9 : Aside0 (w9.heap[g9]? = some (.cells (encs (Value.int .u8) (leftM (rep a) (rep b) c)).toArray 89 (0, 0))) := ⟨hx9⟩
  have B9 := Aside0.mk (below_step B7.out hb9)
  have HXL : Aside0 ((leftM (rep a) (rep b) c).length = 64) := ⟨leftM_len (rep_len a) (rep_len b) c⟩
  have HG := Aside0.mk (left_get a b c)
  clear hg9 hx9 hl9 hb9 B7 D7
  by_cases e0 : c % 3 = 0
  · have e0' : (c % 3 == 0) = true := beq_iff_eq.mpr e0
    have HV0 : Aside0 (∀ i : Nat, i < 64 → ((i : Int) < 64 → (leftM (rep a) (rep b) c).getD i 0 = b) ∧ (¬ (i : Int) < 64 → (leftM (rep a) (rep b) c).getD i 0 = a)) := ⟨fun i hi => ⟨fun _ => by rw [HG.out i hi, if_pos e0], fun h => by omega⟩⟩
    clear e0
    go_wp2_with fail
    go_loopg [11] 64 (fun r v11 wr => ∃ i : Nat, v11 = .int .i64 i ∧ Aside0 (r + i = 64) ∧ Aside0 (wr = w9))
    case atStart => exact ⟨0, rfl, ⟨rfl⟩, ⟨rfl⟩⟩
    case round =>
      obtain ⟨i, rfl, hq, hwr⟩ := hrel
      obtain rfl := hwr.out
      by_cases hi : i < 64
      · have hi1 : (i : Int) < 64 := by omega
        have hv := HV0.out i hi
        by_cases hn1 : (i : Int) < 64
        · have kx : wr.cell? ⟨g9, i, none⟩ = some (.int .u8 b) := by rw [elem_cell X9.out i (by rw [HXL.out]; exact hi), (hv.1 (by omega))]
          have hn2 : ¬ ((i : Int) ≥ 64) := by omega
          clear hv
          go_wp2_with fail
          go_roundg (64 - (i + 1))
          case measure => have := hq.out; omega
          case rel => exact ⟨i + 1, by first | (rw [show wrap64 ((i : Int) + 1) = ((i + 1 : Nat) : Int) from by unfold wrap64; omega]) | (rw [show ((i + 1 : Nat) : Int) = (i : Int) + 1 from by omega]), ⟨by omega⟩, ⟨rfl⟩⟩
        · omega
      · have hi1 : ¬ ((i : Int) < 64) := by omega
        go_wp2
        go_ret
        exact ⟨rfl, B9.out⟩
  · have e0' : (c % 3 == 0) = false := beq_eq_false_iff_ne.mpr e0
    by_cases e1 : c % 3 = 1
    · have e2' : (c % 3 == 2) = false := beq_eq_false_iff_ne.mpr (by omega)
      have HV1 : Aside0 (∀ i : Nat, i < 64 → ((i : Int) < 0 → (leftM (rep a) (rep b) c).getD i 0 = b) ∧ (¬ (i : Int) < 0 → (leftM (rep a) (rep b) c).getD i 0 = a)) := ⟨fun i hi => ⟨fun h => by omega, fun _ => by rw [HG.out i hi, if_neg e0, if_pos e1]⟩⟩
      clear e0 e1
      go_wp2_with fail
      go_loopg [11] 64 (fun r v11 wr => ∃ i : Nat, v11 = .int .i64 i ∧ Aside0 (r + i = 64) ∧ Aside0 (wr = w9))
      case atStart => exact ⟨0, rfl, ⟨rfl⟩, ⟨rfl⟩⟩
      case round =>
        obtain ⟨i, rfl, hq, hwr⟩ := hrel
        obtain rfl := hwr.out
        by_cases hi : i < 64
        · have hi1 : (i : Int) < 64 := by omega
          have hv := HV1.out i hi
          by_cases hn1 : (i : Int) < 0
          · omega
          · have kx : wr.cell? ⟨g9, i, none⟩ = some (.int .u8 a) := by rw [elem_cell X9.out i (by rw [HXL.out]; exact hi), (hv.2 (by omega))]
            have hn2 : ((i : Int) ≥ 0) := by omega
            clear hv
            go_wp2_with fail
            go_roundg (64 - (i + 1))
            case measure => have := hq.out; omega
            case rel => exact ⟨i + 1, by first | (rw [show wrap64 ((i : Int) + 1) = ((i + 1 : Nat) : Int) from by unfold wrap64; omega]) | (rw [show ((i + 1 : Nat) : Int) = (i : Int) + 1 from by omega]), ⟨by omega⟩, ⟨rfl⟩⟩
        · have hi1 : ¬ ((i : Int) < 64) := by omega
          go_wp2
          go_ret
          exact ⟨rfl, B9.out⟩
    · have e2' : (c % 3 == 2) = true := beq_iff_eq.mpr (by omega)
      obtain ⟨n, hn⟩ : ∃ n : Nat, (n : Int) = if 64 < c / 3 then 64 else c / 3 := ⟨(if 64 < c / 3 then 64 else c / 3).toNat, by split <;> omega⟩
      have HV2 : Aside0 (∀ i : Nat, i < 64 → ((i : Int) < (n : Int) → (leftM (rep a) (rep b) c).getD i 0 = b) ∧ (¬ (i : Int) < (n : Int) → (leftM (rep a) (rep b) c).getD i 0 = a)) := ⟨fun i hi => ⟨fun h => by rw [HG.out i hi, if_neg e0, if_neg e1, if_pos (by revert hn; split <;> intro hn <;> omega)], fun h => by rw [HG.out i hi, if_neg e0, if_neg e1, if_neg (by revert hn; split <;> intro hn <;> omega)]⟩⟩
      have HN := Aside0.mk hn
      clear e0 e1 hn
      go_upto_region 13 with fail
      rw [← HN.out]
      go_wp2_with fail
      go_loopg [11] 64 (fun r v11 wr => ∃ i : Nat, v11 = .int .i64 i ∧ Aside0 (r + i = 64) ∧ Aside0 (wr = w9))
      case atStart => exact ⟨0, rfl, ⟨rfl⟩, ⟨rfl⟩⟩
      case round =>
        obtain ⟨i, rfl, hq, hwr⟩ := hrel
        obtain rfl := hwr.out
        by_cases hi : i < 64
        · have hi1 : (i : Int) < 64 := by omega
          have hv := HV2.out i hi
          by_cases hn1 : (i : Int) < (n : Int)
          · have kx : wr.cell? ⟨g9, i, none⟩ = some (.int .u8 b) := by rw [elem_cell X9.out i (by rw [HXL.out]; exact hi), (hv.1 (by omega))]
            have hn2 : ¬ ((i : Int) ≥ (n : Int)) := by omega
            clear hv
            go_wp2_with fail
            go_roundg (64 - (i + 1))
            case measure => have := hq.out; omega
            case rel => exact ⟨i + 1, by first | (rw [show wrap64 ((i : Int) + 1) = ((i + 1 : Nat) : Int) from by unfold wrap64; omega]) | (rw [show ((i + 1 : Nat) : Int) = (i : Int) + 1 from by omega]), ⟨by omega⟩, ⟨rfl⟩⟩
          · have kx : wr.cell? ⟨g9, i, none⟩ = some (.int .u8 a) := by rw [elem_cell X9.out i (by rw [HXL.out]; exact hi), (hv.2 (by omega))]
            have hn2 : ((i : Int) ≥ (n : Int)) := by omega
            clear hv
            go_wp2_with fail
            go_roundg (64 - (i + 1))
            case measure => have := hq.out; omega
            case rel => exact ⟨i + 1, by first | (rw [show wrap64 ((i : Int) + 1) = ((i + 1 : Nat) : Int) from by unfold wrap64; omega]) | (rw [show ((i + 1 : Nat) : Int) = (i : Int) + 1 from by omega]), ⟨by omega⟩, ⟨rfl⟩⟩
        · have hi1 : ¬ ((i : Int) < 64) := by omega
          go_wp2
          go_ret
          exact ⟨rfl, B9.out⟩
end Go.Proofs.Ytdnjjhdhldgcmaa.Sec
