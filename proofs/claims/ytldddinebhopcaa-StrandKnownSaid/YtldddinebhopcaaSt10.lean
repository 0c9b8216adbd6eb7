/- chapter 8: both, awake. -/
import Derived.Test.YtldddinebhopcaaSt9
import Derived.Test.YtldddinebhopcaaDkD
namespace Go.Proofs.Ytldddinebhopcaa.Sec
open Go.RowKit Go.Proofs.YtldddinebhopcaaW.PrintWords Go.Proofs.YtldddinebhopcaaW.PrintLast Go.Proofs.YtldddinebhopcaaW.PrintMore Go.Proofs.Ytldddinebhopcaa.Bs Go.Proofs.Ytldddinebhopcaa.Fr
theorem RV.lower {w : World} {base base' g : Nat} {X : RX} {m : DM} (h : RV w base g X m) (hb : base' ≤ base) : RV w base' g X m :=
  { h with sure := Kd.R_lower h.sure hb, now := Kd.R_lower h.now hb, since := Kd.R_lower h.since hb, wait := Kd.Q_lower h.wait hb, ge := Nat.le_trans hb h.ge,
           bods := fun j p hp => by obtain ⟨gb, cap, h1, h2, h3, h4, h5, h6, h7⟩ := h.bods j p hp; exact ⟨gb, cap, h1, h2, h3, h4, Nat.le_trans hb h5, h6, h7⟩ }
theorem DV.lower {w : World} {base base' g : Nat} {v0 v1 v2 v3 : Value} {m : DM} (h : DV w base g v0 v1 v2 v3 m) (hb : base' ≤ base) : DV w base' g v0 v1 v2 v3 m :=
  ⟨h.blk, Kd.R_lower h.sure hb, Kd.R_lower h.now hb, Kd.R_lower h.since hb, Kd.Q_lower h.wait hb, h.ap, h.byt, h.len, h.n1, h.n2, h.at_, Nat.le_trans hb h.ge⟩
end Go.Proofs.Ytldddinebhopcaa.Sec
namespace Go.Proofs.Ytldddinebhopcaa.St
open Go.RowKit Go.Shelf Go.Proofs.YtldddinebhopcaaW.PrintWords Go.Proofs.YtldddinebhopcaaW.PrintLast Go.Proofs.YtldddinebhopcaaW.PrintMore Go.Proofs.Ytldddinebhopcaa.Bs Go.Proofs.Ytldddinebhopcaa.Fr Go.Proofs.Ytldddinebhopcaa.Oct Go.Proofs.Ytldddinebhopcaa.Sec Go.Proofs.Ytldddinebhopcaa.Rg
set_option linter.unusedVariables false
set_option linter.unusedSimpArgs false
set_option maxHeartbeats 1000000 in
set_option maxRecDepth 100000 in
theorem both_calls (w : World) (n : Nat) (hn : 1 ≤ n) (hn2 : n ≤ 4096) :
    Calls Try.prog 12 #[.int .i64 (n : Int)] w fun e w' => ∃ g v0 v1 gR X, e = .returned (.tuple #[.pointer (some ⟨g, 0, none⟩), .pointer (some ⟨gR, 0, none⟩)]) ∧ Two w' w.heap.size g v0 v1 (.slice none 0 0) (.slice none 0 0) gR X (m0 n) ∧ Below w.heap.size w w' := by
  go_enter Try.func12, Try.ntmps12
  go_wp2_with fail
  refine (New_calls w n hn hn2).mono ?_
  rintro e w1 ⟨g, v0, v1, rfl, hd, hb1⟩
  have D1 := Aside0.mk hd
  have B1 := Aside0.mk hb1
  clear hd hb1
  go_wp2_with fail
  refine (RNew_calls w1 n hn hn2).mono ?_
  rintro e w2 ⟨gR, X, rfl, hr, _, hb2⟩
  have R2 := Aside0.mk hr
  have B2 := Aside0.mk hb2
  clear hr hb2
  go_wp2
  go_ret2
  have hR : RV w2 w.heap.size gR X (m0 n) := R2.out.lower B1.out.size
  exact ⟨g, v0, v1, gR, X, rfl, ⟨D1.out.below B2.out, hR, fun k hk hq => by have h1 := D1.out.foot_lt k hk; have h2 := R2.out.foot_ge k hq; omega, (below_step B1.out B2.out).size⟩, below_step B1.out B2.out⟩
theorem scanL_nil {l : List Int} (h : rd l 0 ≠ 90) : scanL l = [] := scanL_no l (fun hf => h hf.2.1)
theorem rep0 : blankB (List.replicate 64 0) = true ∧ scanL (List.replicate 64 0) = [] := ⟨by decide, scanL_nil (by decide)⟩
theorem m0_sec (n i : Nat) (hi : i < n) : (m0 n).now.getD i zB = List.replicate 64 0 := by
  unfold m0
  simp [List.getD_eq_getElem?_getD, hi]
theorem open_m0 (n : Nat) : openM (m0 n) = ⟨0, [], []⟩ := by
  have hl : (m0 n).now.length = n := by unfold m0; simp
  have h : ∀ i, i ≤ n → opA (m0 n).now i = 0 ∧ opR (m0 n).now i = [] := by
    intro i
    induction i with
    | zero => intro _; exact ⟨rfl, rfl⟩
    | succ i ih =>
      intro hi
      obtain ⟨h1, h2⟩ := ih (by omega)
      unfold opA opR
      rw [m0_sec n i (by omega), rep0.1, rep0.2, if_pos rfl, h1, h2]
      exact ⟨rfl, rfl⟩
  unfold openM
  rw [hl, (h n (Nat.le_refl _)).1, (h n (Nat.le_refl _)).2]
theorem BM_m0 (n : Nat) : BM (m0 n) := by
  have hr : Byt (List.replicate 64 0) := fun x hx => by rw [List.eq_of_mem_replicate hx]; omega
  refine ⟨fun s hs => ?_, fun s hs => ?_, fun p hp => ?_⟩
  · rw [List.eq_of_mem_replicate (show s ∈ List.replicate n (List.replicate 64 0) from hs)]; exact hr
  · rw [List.eq_of_mem_replicate (show s ∈ List.replicate n (List.replicate 64 0) from hs)]; exact hr
  · cases (show p ∈ ([] : List (Int × List Int)) from hp)
theorem SI_new (N : Nat) : SI ⟨0, [], []⟩ N := ⟨Int.le_refl _, by show (0 : Int) ≤ N; omega, by show 0 ≤ 64; omega, fun h => absurd rfl h, fun _ h => by cases h⟩
end Go.Proofs.Ytldddinebhopcaa.St
