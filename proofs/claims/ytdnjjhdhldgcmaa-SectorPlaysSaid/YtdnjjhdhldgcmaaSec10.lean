/- sector.Disk: Outcomes where none waits; New that is refused. -/
import Derived.Test.YtdnjjhdhldgcmaaSec9
namespace Go.Proofs.Ytdnjjhdhldgcmaa.Sec
open Go.RowKit Go.Proofs.YtdnjjhdhldgcmaaW.PrintWords Go.Proofs.YtdnjjhdhldgcmaaW.PrintLast Go.Proofs.YtdnjjhdhldgcmaaW.PrintMore Go.Proofs.Ytdnjjhdhldgcmaa.Bs Go.Proofs.Ytdnjjhdhldgcmaa.Fr
open Go.Proofs.Ytdnjjhdhldgcmaa.PSectorTorn
set_option linter.unusedVariables false
set_option linter.unusedSimpArgs false

theorem info_u8 : (Try.prog.info? 5).map (fun i => (i.zero, i.size, i.bytes)) = some (some (.int .u8 0), 1, 1) := by kernel_rfl
theorem Q_none {α : Type} {d : Kd α} {e base : Nat} {ok : Nat → Prop} {w : World} {v : Value} {xs : List α} (h : d.Q e w base ok v xs) (hn : ∀ k, ¬ own v k) : v = .slice none 0 0 := by
  obtain ⟨_, inner, hq, hr⟩ := h
  rcases hq.2 with ⟨h1, A, rfl, _⟩ | ⟨g, off, cap, cur, rfl, _⟩
  · cases A with
    | none => rfl
    | some a => exact absurd rfl (hn a.block)
  · exact absurd rfl (hn g)
def waits (m : DM) (l : List Int) : DM := ⟨m.sure, m.now, m.since, l, m.ops⟩
set_option maxHeartbeats 1000000 in
set_option maxRecDepth 100000 in
theorem Outcomes_nil (w : World) (base g : Nat) (v0 v1 v2 : Value) (m : DM) (h : DV w base g v0 v1 v2 (.slice none 0 0) m) (hm : m.wait = []) (A : Option Addr) (c : Nat) (l : List Int) (hC : Kd.C (Kd.int .u8) w A l.length l) (hl : l.length ≤ 1000000) (hby : ∀ x ∈ l, 0 ≤ x ∧ x ≤ 255) (hb : base ≤ w.heap.size) :
    Calls Try.prog 27 #[.pointer (some ⟨g, 0, none⟩), .slice A l.length c] w fun e w' => e = .returned (.tuple #[]) ∧ ∃ v3, DV w' base g v0 v1 v2 v3 (waits m l) ∧ Fr w w' (fun k => k = g) ∧ ∀ k, own v3 k → w.heap.size ≤ k := by
  have H := Aside0.mk h
  have HC := Aside0.mk hC
  have HB := Aside0.mk hb
  have HBY := Aside0.mk hby
  have hn : ((m.now.length : Int) > 0) := by have := h.n1; omega
  have k3 : w.cell? ⟨g, 3, none⟩ = some (.slice none 0 0) := blk_cell h.blk 3
  have f3 : w.frozen? ⟨g, 3, none⟩ = false := blk_frozen h.blk 3
  clear h hC hb hby
  go_enter Try.func27, Try.ntmps27
  go_wp2_with (first
    | (go_at_call 54; refine (Size_calls _ _ _ _ _ _ _ m H.out).mono ?_; rintro e w1 ⟨rfl, rfl⟩)
    | ((with_reducible refine gate_builtin (b := .append) (xs := #[.tmp 11, .tmp 12]) rfl ?_); at_builtin; refine Kd.R_append_rows (Kd.int .u8) (Rr := (Kd.int .u8).K w) (w0 := w) w.heap.size rfl (.tmp 11) (.tmp 12) 23 5 (.int .u8 0) 1 rfl Try.underlying23 info_u8 rfl (by decide) (by decide) (.slice none 0 0) [] l A l.length c (fun _ => True) (fun _ => False) rfl rfl (Kd.R_nil _ _ _ _ _) HC.out (fun x cs hK => hK) (fun _ hk => hk.elim) (fun _ _ => trivial) (Below.refl _ _) (Nat.le_refl _) (by simp; omega) ?_; intro v5 w1 ho hb1 hg1 hat1; rw [List.nil_append] at ho; obtain ⟨A5, c5, rfl⟩ := Kd.R_slice ho; have HO := Aside0.mk ho; have HB1 := Aside0.mk hb1; have d1 := H.out.below hb1; have k3 : w1.cell? ⟨g, 3, none⟩ = some (.slice none 0 0) := blk_cell d1.blk 3; have f3 : w1.frozen? ⟨g, 3, none⟩ = false := blk_frozen d1.blk 3; have D1 := Aside0.mk d1; clear ho hb1 hg1 hat1 d1))
  first | go_end0 | ((try simp only [Exit.inBlock, Exit.then]); refine bodyPost_ret (results_none rfl _ _ _) rfl ?_)
  have d := D1.out
  have fs : Fr w1 (w1.setCell ⟨g, 3, none⟩ (.slice A5 l.length c5)) (fun k => k = g) := Fr.set (g := g) (o := 3) (F := fun k => k = g) (Fr.refl w1 _) (.inl rfl) _
  obtain ⟨r0, r1, r2, _⟩ := d.rows fs
  have hne : ∀ k, own (.slice A5 l.length c5) k → ¬ k = g := fun k hk he => by
    have h1 := R_ge HO.out hk
    have h2 := blk_lt H.out.blk
    omega
  have hq : Kd.Q (Kd.int .u8) 5 (w1.setCell ⟨g, 3, none⟩ (.slice A5 l.length c5)) base (fun _ => True) (.slice A5 l.length c5) l := Kd.Q_lower (Q_fr (Kd.Q_of_R HO.out) rfl fs hne) HB.out
  exact ⟨rfl, .slice A5 l.length c5, ⟨blk_set d.blk 3 _, r0, r1, r2, hq, d.ap, HBY.out, d.len, d.n1, d.n2, d.at_, d.ge⟩, (Fr.of_below HB1.out (fun k => k = g)).trans fs (fun k hk => .inl hk), fun k hk => R_ge HO.out hk⟩
theorem New_bad (w : World) : Calls Try.prog 28 #[.int .i64 0] w fun e w' => e = .returned (.tuple #[.pointer none, .int .i64 1]) ∧ w = w' := by
  go_enter Try.func28, Try.ntmps28
  go_wp2
  go_ret2
  exact ⟨rfl, rfl⟩
end Go.Proofs.Ytdnjjhdhldgcmaa.Sec
