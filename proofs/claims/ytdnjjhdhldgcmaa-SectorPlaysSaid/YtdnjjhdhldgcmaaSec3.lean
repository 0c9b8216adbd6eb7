/- sector.Disk: Write that is lost or refused; made and New. -/
import Derived.Test.YtdnjjhdhldgcmaaSec2
namespace Go.Proofs.Ytdnjjhdhldgcmaa.Sec
open Go.RowKit Go.Proofs.YtdnjjhdhldgcmaaW.PrintWords Go.Proofs.YtdnjjhdhldgcmaaW.PrintLast Go.Proofs.YtdnjjhdhldgcmaaW.PrintMore Go.Proofs.Ytdnjjhdhldgcmaa.Bs Go.Proofs.Ytdnjjhdhldgcmaa.Fr
set_option linter.unusedVariables false
set_option linter.unusedSimpArgs false

set_option maxHeartbeats 1000000 in
set_option maxRecDepth 100000 in
theorem Write_lost (w : World) (base g : Nat) (v0 v1 v2 v3 : Value) (m : DM) (h : DV w base g v0 v1 v2 v3 m) (ho : 0 ≤ m.ops ∧ m.ops ≤ 1000000000) (i : Nat) (hi : i < m.now.length)
    (A : Option Addr) (cb : Nat) (hx : outc m = 1) :
    Calls Try.prog 20 #[.pointer (some ⟨g, 0, none⟩), .int .i64 i, .slice A 64 cb] w fun e w' => e = .returned (.int .i64 8) ∧
      ∃ v3', DV w' base g v0 v1 v2 v3' (took m) ∧ Fr w w' (foot g v0 v1 v2 v3) ∧ ∀ k, own v3' k → own v3 k := by
  have H := Aside0.mk h
  have HO := Aside0.mk ho
  have hi0 : ¬ ((i : Int) < 0) := by omega
  have hi1 : (i : Int) < (m.now.length : Int) := by omega
  have hn0 : ((m.now.length : Int) == 0) = false := beq_eq_false_iff_ne.mpr (by omega)
  have k5 : w.cell? ⟨g, 5, none⟩ = some (.func (.func 73) #[.pointer (some ⟨g, 0, none⟩)] #[]) := blk_cell h.blk 5
  have HX := Aside0.mk hx
  clear h ho hi hx
  go_enter Try.func20, Try.ntmps20
  go_wp2_with (first
    | (go_at_call 54; refine (Size_calls _ _ _ _ _ _ _ m H.out).mono ?_; rintro e w1 ⟨rfl, rfl⟩)
    | (go_at_call 73; refine (next_calls _ _ _ _ _ _ _ m H.out HO.out).mono ?_; rintro e w1 ⟨rfl, v3a, hd, hsub, hfr⟩; rw [HX.out]; have H1 := Aside0.mk hd; have HF1 := Aside0.mk hfr; have HV1 := Aside0.mk hsub; clear hd hfr hsub k5)
    | (go_at_call 55; refine (told_calls 1 _).mono ?_; rintro e w6 ⟨rfl, rfl⟩))
  go_ret
  exact ⟨rfl, v3a, H1.out, HF1.out.mono (fun k hk => .inl hk), HV1.out⟩

set_option maxHeartbeats 1000000 in
set_option maxRecDepth 100000 in
theorem Write_bad (w : World) (base g : Nat) (v0 v1 v2 v3 : Value) (m : DM) (h : DV w base g v0 v1 v2 v3 m) (i : Int) (A : Option Addr) (n cb : Nat) (hx : i < 0 ∨ (m.now.length : Int) ≤ i ∨ n ≠ 64) :
    Calls Try.prog 20 #[.pointer (some ⟨g, 0, none⟩), .int .i64 i, .slice A n cb] w fun e w' => e = .returned (.int .i64 1) ∧ w = w' := by
  have H := Aside0.mk h
  have hn0 : ((m.now.length : Int) == 0) = false := beq_eq_false_iff_ne.mpr (by have := h.n1; omega)
  clear h
  go_enter Try.func20, Try.ntmps20
  by_cases h0 : i < 0
  · go_wp2_with (go_at_call 54; refine (Size_calls _ _ _ _ _ _ _ m H.out).mono ?_; rintro e w1 ⟨rfl, rfl⟩)
    go_ret
    exact ⟨rfl, rfl⟩
  · by_cases h1 : (m.now.length : Int) ≤ i
    · have h1' : i ≥ (m.now.length : Int) := h1
      go_wp2_with (go_at_call 54; refine (Size_calls _ _ _ _ _ _ _ m H.out).mono ?_; rintro e w1 ⟨rfl, rfl⟩)
      go_ret
      exact ⟨rfl, rfl⟩
    · have h1' : ¬ i ≥ (m.now.length : Int) := h1
      have h2 : ((n : Int) != 64) = true := bne_iff_ne.mpr (by omega)
      go_wp2_with (go_at_call 54; refine (Size_calls _ _ _ _ _ _ _ m H.out).mono ?_; rintro e w1 ⟨rfl, rfl⟩)
      go_ret
      exact ⟨rfl, rfl⟩
end Go.Proofs.Ytdnjjhdhldgcmaa.Sec
