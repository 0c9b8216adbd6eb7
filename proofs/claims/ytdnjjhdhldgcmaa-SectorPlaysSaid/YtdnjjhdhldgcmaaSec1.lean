/- sector.Disk: Read. -/
import Derived.Test.YtdnjjhdhldgcmaaSec0
import Derived.Test.YtdnjjhdhldgcmaaAr
namespace Go.Proofs.Ytdnjjhdhldgcmaa.Sec
open Go.RowKit Go.Proofs.YtdnjjhdhldgcmaaW.PrintWords Go.Proofs.YtdnjjhdhldgcmaaW.PrintLast Go.Proofs.YtdnjjhdhldgcmaaW.PrintMore Go.Proofs.Ytdnjjhdhldgcmaa.Bs Go.Proofs.Ytdnjjhdhldgcmaa.Fr
set_option linter.unusedVariables false
set_option linter.unusedSimpArgs false

def zB : List Int := []
/-- Sector i of a row of sectors: where its cells lie. -/
theorem sector_at {w : World} {base go n c : Nat} {xs : List (List Int)} (h : Kd.R kB 89 w base (fun _ => True) (.slice (some ⟨go, 0, none⟩) n c) xs) (i : Nat) (hi : i < n) :
    (xs.getD i zB).length = 64 ∧ w.rangeAt go (i * 64) (encs (Value.int .u8) (xs.getD i zB)) ∧ w.there go (i * 64) 64 := by
  obtain ⟨cs, hl, hM, hc, hf⟩ := Kd.R_elem h zB i (by omega) (by omega)
  have hM : Kd.M (Kd.arr 64 (Kd.int .u8) (Nat.succ_pos _)) w base (fun k => True ∧ k ≠ go) (xs.getD i zB) cs := by rw [Int.toNat_natCast] at hM; exact hM
  obtain ⟨h1, rfl⟩ := Kd.arr_cells (Kd.K_of_M _ hM)
  rw [Int.toNat_natCast] at hc hf
  have hl : (encs (Value.int .u8) (xs.getD i zB)).length = 64 := hl
  refine ⟨h1, fun j v hv => hc j v hv, fun j hj => ⟨?_, hf j⟩⟩
  rw [show (⟨go, i * 64 + j, none⟩ : Addr) = ⟨go, i * kB.sz + j, none⟩ from rfl, hc j _ (List.getElem?_eq_getElem (by omega))]
  rfl
theorem info89 : (Try.prog.info? 89).map (·.size) = some 64 := by kernel_rfl

theorem one_u8 (xs : List Int) : ∀ v ∈ encs (Value.int .u8) xs, v.oneCell' = true := by
  intro v hv
  obtain ⟨x, _, rfl⟩ := List.mem_map.1 hv
  rfl
def z64 : Array Value := (encs (Value.int .u8) (List.replicate 64 0)).toArray
theorem z64_size : z64.size = 64 := rfl

set_option maxHeartbeats 1000000 in
set_option maxRecDepth 100000 in
theorem Read_calls (w : World) (base g : Nat) (v0 v1 v2 v3 : Value) (m : DM) (h : DV w base g v0 v1 v2 v3 m) (i : Nat) (hi : i < m.now.length) :
    Calls Try.prog 24 #[.pointer (some ⟨g, 0, none⟩), .int .i64 i] w fun e w' => ∃ g2, e = .returned (.tuple #[.slice (some ⟨g2, 0, none⟩) 64 64, .int .i64 0]) ∧ w.heap.size ≤ g2 ∧ w'.heap[g2]? = some (.cells (encs (Value.int .u8) (m.now.getD i zB)).toArray 89 (0, 0)) ∧ (m.now.getD i zB).length = 64 ∧ Below w.heap.size w w' := by
  obtain ⟨go, co, rfl, gb, gl, cl, HG⟩ := Kd.R_form h.now (by omega)
  have H := Aside0.mk h
  obtain ⟨s1, s2, s3⟩ := sector_at h.now i hi
  have HS := Aside0.mk (And.intro s1 (And.intro s2 s3))
  have k1 : w.cell? ⟨g, 1, none⟩ = some (.slice (some ⟨go, 0, none⟩) m.now.length co) := blk_cell h.blk 1
  have hi0 : ¬ ((i : Int) < 0) := by omega
  have hi1 : (i : Int) < (m.now.length : Int) := by omega
  have hn0 : ((m.now.length : Int) == 0) = false := beq_eq_false_iff_ne.mpr (by omega)
  clear h s1 s2 s3 hi
  generalize m.now.getD i zB = b at *
  go_enter Try.func24, Try.ntmps24
  go_wp2_with (first
    | (go_at_call 54; refine (Size_calls _ _ _ _ _ _ _ m H.out).mono ?_; rintro e w1 ⟨rfl, rfl⟩)
    | (refine wpList_load_mid rfl 89 (.tmp 23) rfl go (i * 64) ?_ (encs (Value.int .u8) b) _ HS.out.2.1 Try.underlying89 rfl (by rw [encs_length, HS.out.1]; exact info89) ?_; (focus (go_simp; done)))
    | ((with_reducible refine gate_dst (N := 6) rfl ?_); refine box_event ?hg (N := 6) ?hd (cs := z64) (t := 89) ?hr ?_; (case hd => rfl); (case hg => rfl); (case hr => first | (go_simp; done) | (go_simp; rfl)); intro g2 hg2 w2 hbox hb; have HG2 := Aside0.mk hg2; have HX2 := Aside0.mk hbox; have HB2 := Aside0.mk hb; clear hg2 hbox hb)
    | (refine wp_fill rfl 89 (.tmp 6) (.tmp 24) rfl g2 z64 89 (encs (Value.int .u8) b) HX2.out rfl rfl (by rw [encs_length, HS.out.1]; rfl) info89 (one_u8 b) ?_; intro w3 hx3 hf3; have HX3 := Aside0.mk hx3; have HF3 := Aside0.mk hf3; clear hx3 hf3))
  go_ret2
  exact ⟨g2, rfl, by rw [HG2.out]; exact Nat.le_refl _, HX3.out, HS.out.1, ((HB2.out : Below w.heap.size w w2).trans (HF3.out.to (by have := HB2.out.size; omega) (fun k hk => by rw [hk, HG2.out]; exact Nat.le_refl _)))⟩
set_option maxHeartbeats 1000000 in
set_option maxRecDepth 100000 in
theorem Read_out (w : World) (base g : Nat) (v0 v1 v2 v3 : Value) (m : DM) (h : DV w base g v0 v1 v2 v3 m) (i : Int) (hi : i < 0 ∨ (m.now.length : Int) ≤ i) :
    Calls Try.prog 24 #[.pointer (some ⟨g, 0, none⟩), .int .i64 i] w fun e w' => e = .returned (.tuple #[.slice none 0 0, .int .i64 1]) ∧ w = w' := by
  have H := Aside0.mk h
  have hn0 : ((m.now.length : Int) == 0) = false := beq_eq_false_iff_ne.mpr (by have := h.n1; omega)
  clear h
  go_enter Try.func24, Try.ntmps24
  by_cases h0 : i < 0
  · go_wp2_with (first
      | (go_at_call 54; refine (Size_calls _ _ _ _ _ _ _ m H.out).mono ?_; rintro e w1 ⟨rfl, rfl⟩))
    go_ret2
    exact ⟨rfl, rfl⟩
  · have h1 : i ≥ (m.now.length : Int) := by omega
    go_wp2_with (first
      | (go_at_call 54; refine (Size_calls _ _ _ _ _ _ _ m H.out).mono ?_; rintro e w1 ⟨rfl, rfl⟩))
    go_ret2
    exact ⟨rfl, rfl⟩
end Go.Proofs.Ytdnjjhdhldgcmaa.Sec
