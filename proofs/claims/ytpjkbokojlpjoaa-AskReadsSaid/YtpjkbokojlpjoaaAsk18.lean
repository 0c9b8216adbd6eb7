/- the document's address and part. -/
import Derived.Test.YtpjkbokojlpjoaaAsk17
namespace Go.Proofs.Ytpjkbokojlpjoaa.Ak
open Go.RowKit Go.Proofs.YtpjkbokojlpjoaaW.PrintWords Go.Proofs.YtpjkbokojlpjoaaW.PrintLast Go.Proofs.YtpjkbokojlpjoaaW.PrintMore Go.Proofs.Ytpjkbokojlpjoaa.Bs Go.Proofs.Ytpjkbokojlpjoaa.Fr Go.Proofs.Ytpjkbokojlpjoaa.Oct
open Go.Proofs.Ytpjkbokojlpjoaa.PAskReads
set_option linter.unusedVariables false
set_option linter.unusedSimpArgs false

theorem cut2_rd (b : List Int) (i k j : Nat) (hj : j < k) (h : i + k ≤ b.length) : rd (cut2 b i k) j = rd b (i + j : Nat) := by
  unfold cut2
  rw [rd_take _ _ _ hj, rd_drop]
set_option maxHeartbeats 2000000 in
set_option maxRecDepth 100000 in
theorem address_calls (A : Option Addr) (c : Nat) (b : List Int) (at_ : Nat) (w : World) (hC : Kd.C (Kd.int .u8) w A b.length b) (hc : b.length ≤ c) (hm : b.length ≤ 2000) (ha : at_ + 16 ≤ b.length) :
    Calls Try.prog 26 #[.slice A b.length c, .int .i64 at_] w fun e w' => e = .returned (arr (cut2 b at_ 16)) ∧ Below w.heap.size w w' := by
  have hB0 := below_alloc (Below.refl w.heap.size w) (.cells (encs (Value.int .u8) z16).toArray 25)
  have B1 := Aside0.mk (Below.alloc hB0 hB0.size (.cells (encs (Value.int .u8) z16).toArray 25))
  have N1 : Aside0 (((w.alloc (.cells (encs (Value.int .u8) z16).toArray 25)).alloc (.cells (encs (Value.int .u8) z16).toArray 25)).heap[w.heap.size + 1]? = some (.cells (encs (Value.int .u8) z16).toArray 25 (0, 0))) := ⟨by have h := blk_new (w.alloc (.cells (encs (Value.int .u8) z16).toArray 25)) (.cells (encs (Value.int .u8) z16).toArray 25); rw [World.size_alloc] at h; exact h⟩
  have N0 := Aside0.mk (blk_alloc (blk_new w (.cells (encs (Value.int .u8) z16).toArray 25)) (.cells (encs (Value.int .u8) z16).toArray 25))
  have HC := Aside0.mk hC
  have HL := Aside0.mk (cut2_len b at_ 16 ha)
  have HA := Aside0.mk (And.intro hc (And.intro hm ha))
  clear hB0 hC hc hm ha
  go_enter Try.func26, Try.ntmps26
  go_upto_region 3 with (refine wp_fill rfl 25 (.tmp 5) (.tmp 7) rfl (w.heap.size + 1) _ 25 (encs (Value.int .u8) z16) N1.out rfl rfl rfl (by rw [info25]; rfl) (one_u8 _) ?_; intro w2 hx2 hf2; have X2 := Aside0.mk hx2; have F2 := Aside0.mk hf2; clear hx2 hf2)
  have B2 := Aside0.mk (below_fr B1.out B1.out.size F2.out (fun k hk => by omega))
  have Y2 := Aside0.mk (F2.out.blk N0.out (by omega))
  have X3 : Aside0 (w2.heap[w.heap.size + 1]? = some (.cells ([] ++ (e8 (arrI (cut2 b at_ 16) 0) ++ [])).toArray 25 (0, 0))) := ⟨by rw [arrI_zero, HL.out]; exact X2.out⟩
  clear B1 N1 N0 F2 X2
  go_loopg [6] 16 (fun q v6 wr => ∃ i : Nat, v6 = .int .i64 (i : Int) ∧ Aside0 (i + q = 16) ∧ Aside0 (wr.heap[w.heap.size + 1]? = some (.cells ([] ++ (e8 (arrI (cut2 b at_ 16) i) ++ [])).toArray 25 (0, 0))) ∧ Aside0 (Below w.heap.size w wr) ∧ Aside0 (wr.heap[w.heap.size]? = some (.cells (encs (Value.int .u8) z16).toArray 25 (0, 0))))
  case atStart => exact ⟨0, rfl, ⟨rfl⟩, X3, B2, Y2⟩
  case round =>
    clear X3 B2 Y2
    obtain ⟨i, rfl, Hi, XX, BB, YY⟩ := hrel
    cases gk with
    | zero =>
      have hi : i = 16 := by have := Hi.out; omega
      subst hi
      have XE : Aside0 (wr.heap[w.heap.size + 1]? = some (.cells (e8 (cut2 b at_ 16)).toArray 25 (0, 0))) := ⟨by
        have h := XX.out
        have e : arrI (cut2 b at_ 16) 16 = cut2 b at_ 16 := by
          have h2 := arrI_all (cut2 b at_ 16)
          rw [HL.out] at h2
          exact h2
        rw [e, List.nil_append, List.append_nil] at h
        exact h⟩
      have G5 := Aside0.mk (range_blk XE.out)
      go_wp2_with (first
        | (refine wpList_load_mid rfl 25 (.tmp 5) rfl (w.heap.size + 1) 0 rfl (e8 (cut2 b at_ 16)) _ G5.out Try.underlying25 rfl (by rw [encs_length, HL.out]; exact info25) ?_)
        | (refine wp_fill rfl 25 (.tmp 4) (.tmp 20) rfl w.heap.size _ 25 (e8 (cut2 b at_ 16)) YY.out rfl rfl (by rw [encs_length, HL.out]; rfl) (by rw [info25]; rfl) (one_u8 _) ?_; intro w6 hx6 hf6; have X6 := Aside0.mk hx6; have F6 := Aside0.mk hf6; clear hx6 hf6))
      refine bodyPost_ret (results_cell_row rfl _ _ w.heap.size 25 _ (0, 0) _ rfl X6.out Try.underlying25 rfl (by rw [info25, List.size_toArray, encs_length, HL.out])) rfl ⟨rfl, below_fr BB.out BB.out.size F6.out (fun k hk => by omega)⟩
    | succ q =>
      have hlt : (i : Int) < 16 := by have := Hi.out; omega
      have hlb := decide_eq_true hlt
      have hi16 : (0 : Int) ≤ (i : Int) ∧ (i : Int) < 16 := ⟨by omega, hlt⟩
      obtain ⟨j, hj⟩ : ∃ j, at_ + i = j := ⟨_, rfl⟩
      have HJ := Aside0.mk hj
      obtain ⟨ad, e1, cb⟩ := at_one (Kd.C_below HC.out BB.out) (j : Int) (by omega) (by have := HA.out; omega)
      subst e1
      rw [Int.toNat_natCast] at cb
      have hsw : wrap64 ((at_ : Int) + (i : Int)) = (j : Int) := by have := HA.out; rw [wrap_id _ (by omega)]; omega
      have hsw2 : (at_ : Int) + (i : Int) = (j : Int) := by omega
      have hat : (at_ : Int) ≤ 2000 := by have := HA.out; omega
      have hix : (0 : Int) ≤ (j : Int) ∧ (j : Int) < (b.length : Int) := by have := HA.out; omega
      have X4 := Aside0.mk (lay1 XX.out (by rw [HL.out]; omega) 0 rfl)
      rw [cut2_rd b at_ 16 i (by omega) HA.out.2.2, Nat.zero_add, hj] at X4
      have kx : (wr.cell? ⟨w.heap.size + 1, i, none⟩).isSome = true ∧ wr.frozen? ⟨w.heap.size + 1, i, none⟩ = false := ⟨by
        have hl := arrI_len (cut2 b at_ 16) i (by rw [HL.out]; omega)
        rw [blk_cell XX.out i, List.nil_append, List.append_nil, List.getElem?_toArray, List.getElem?_eq_getElem (by rw [encs_length, hl, HL.out]; omega)]
        rfl, blk_frozen XX.out _⟩
      obtain ⟨x0, hx0⟩ := Option.isSome_iff_exists.1 kx.1
      have fz := kx.2
      have Y4 : Aside0 ((wr.setCell ⟨w.heap.size + 1, i, none⟩ (.int .u8 (rd b (j : Int)))).heap[w.heap.size]? = some (.cells (encs (Value.int .u8) z16).toArray 25 (0, 0))) := ⟨blk_far YY.out (by simp) _⟩
      have B4 := Aside0.mk (BB.out.setCell (p := ⟨w.heap.size + 1, i, none⟩) (by show w.heap.size ≤ w.heap.size + 1; omega) (.int .u8 (rd b (j : Int))))
      clear kx hj
      generalize rd b (j : Int) = x at *
      go_wp2
      go_roundg q
      case measure => omega
      case rel => exact ⟨i + 1, by go_num, ⟨by have := Hi.out; omega⟩, X4, B4, Y4⟩
end Go.Proofs.Ytpjkbokojlpjoaa.Ak
