/- sector.Disk: made, New. -/
import Derived.Test.YtdnjjhdhldgcmaaSec3
namespace Go.Proofs.Ytdnjjhdhldgcmaa.Sec
open Go.RowKit Go.Proofs.YtdnjjhdhldgcmaaW.PrintWords Go.Proofs.YtdnjjhdhldgcmaaW.PrintLast Go.Proofs.YtdnjjhdhldgcmaaW.PrintMore Go.Proofs.Ytdnjjhdhldgcmaa.Bs Go.Proofs.Ytdnjjhdhldgcmaa.Fr
set_option linter.unusedVariables false
set_option linter.unusedSimpArgs false

def zBv : Value := .agg (encs (Value.int .u8) (List.replicate 64 0)).toArray
theorem info89z : (Try.prog.info? 89).map (fun i => (i.zero, i.size, i.bytes)) = some (some zBv, 64, 64) := by kernel_rfl
theorem run_fn (g : Value) (w : World) : (Instr.makeFunc (.func 73) #[g] #[]).run Try.prog w = .ok (.func (.func 73) #[g] #[]) w := rfl
theorem kB_M {w : World} {base : Nat} {ok : Nat → Prop} {x : List Int} {cs : List Value} (h : kB.K w x cs) : kB.M w base ok x cs := by
  have h : Kd.K (Kd.arr 64 (Kd.int .u8) (Nat.succ_pos _)) w x cs := h
  obtain ⟨h1, rfl⟩ := Kd.arr_cells h
  exact Kd.arr_of_cells h1

set_option maxHeartbeats 1000000 in
set_option maxRecDepth 100000 in
/-- Of a row of sectors of one's own: the disk of it. -/
theorem made_calls (w0 w : World) (base : Nat) (v : Value) (l : List (List Int)) (hR : Kd.R kB 89 w base (fun _ => True) v l) (hn : 1 ≤ l.length) (hn2 : l.length ≤ 4096) (hb : base ≤ w.heap.size) :
    Calls Try.prog 58 #[v] w fun e w' => ∃ g v1, e = .returned (.pointer (some ⟨g, 0, none⟩)) ∧ DV w' base g v v1 (.slice none 0 0) (.slice none 0 0) ⟨l, l, [], [], 0⟩ ∧ w.heap.size ≤ g ∧ (∀ k, own v1 k → w.heap.size ≤ k) ∧ Below w.heap.size w w' := by
  obtain ⟨A1, c1, rfl⟩ := Kd.R_slice hR
  have HR := Aside0.mk hR
  have HN := Aside0.mk (And.intro hn hn2)
  have HB := Aside0.mk hb
  clear hR
  have hmf := run_fn
  have hone : ∀ g : Nat, (Value.func (.func 73) #[.pointer (some ⟨g, 0, none⟩)] #[]).oneCell' = true := fun _ => rfl
  go_enter Try.func58, Try.ntmps58
  go_wp2_with (first
    | ((with_reducible refine gate_builtin (b := .append) (xs := #[.const (.slice none 0 0), .tmp 5]) rfl ?_); at_builtin; refine Kd.R_append_rows kB (Rr := kB.K w) (w0 := w) w.heap.size rfl (.const (.slice none 0 0)) (.tmp 5) 85 89 zBv 64 rfl Try.underlying85 info89z rfl (by decide) (by decide) (.slice none 0 0) [] l A1 l.length c1 (fun _ => True) (fun _ => False) rfl rfl (Kd.R_nil _ _ _ _ _) (Kd.R_reads' HR.out).2.2 (fun x cs hK => kB_M hK) (fun _ hk => hk.elim) (fun _ _ => trivial) (Below.refl _ _) (Nat.le_refl _) (by simp; omega) ?_; intro v1 w1 ho hb1 hg1 hat1; rw [List.nil_append] at ho; obtain ⟨A2, c2, rfl⟩ := Kd.R_slice ho; have HO := Aside0.mk ho; have HB1 := Aside0.mk hb1; clear ho hb1 hg1 hat1)
    | ((with_reducible refine gate_dst (N := 8) rfl ?_); refine box_event ?hg (N := 8) ?hd (cs := #[.slice A1 l.length c1, .slice A2 l.length c2, .slice none 0 0, .slice none 0 0, .int .i64 0, .nilFunc]) (t := 88) ?hr ?_; (case hd => rfl); (case hg => rfl); (case hr => first | (go_simp; done) | (go_simp; rfl)); intro g hg w2 hbox hb2; have k5 : w2.cell? ⟨g, 5, none⟩ = some .nilFunc := blk_cell hbox 5; have f5 : w2.frozen? ⟨g, 5, none⟩ = false := blk_frozen hbox 5; have hst : (store ⟨g, 5, none⟩ (.func (.func 73) #[.pointer (some ⟨g, 0, none⟩)] #[])).run Try.prog w2 = .ok () (w2.setCell ⟨g, 5, none⟩ (.func (.func 73) #[.pointer (some ⟨g, 0, none⟩)] #[])) := (by rw [run_store _ _ _ _ _ rfl, k5, f5]; rfl); have HG := Aside0.mk hg; have HX := Aside0.mk hbox; have HB2 := Aside0.mk hb2; clear hg hbox hb2))
  go_ret
  have hsz : w.heap.size ≤ w1.heap.size := HB1.out.size
  have b1 : Below w.heap.size w w2 := below_step HB1.out HB2.out
  have fs : Fr w2 (w2.setCell ⟨g, 5, none⟩ (.func (.func 73) #[.pointer (some ⟨g, 0, none⟩)] #[])) (fun k => k = g) := Fr.set (g := g) (o := 5) (F := fun k => k = g) (Fr.refl w2 _) (.inl rfl) _
  have hg : w.heap.size ≤ g := by rw [HG.out]; exact hsz
  have r0 : Kd.R kB 89 w2 base (fun _ => True) (.slice A1 l.length c1) l := Kd.R_below HR.out b1
  have r1 : Kd.R kB 89 w2 w.heap.size (fun _ => True) (.slice A2 l.length c2) l := Kd.R_below HO.out HB2.out
  have hne1 : ∀ k, own (.slice A1 l.length c1) k → ¬ k = g := fun k hk he => by have := R_lt' HR.out hk; omega
  have hne2 : ∀ k, own (.slice A2 l.length c2) k → ¬ k = g := fun k hk he => by have := R_lt' HO.out hk; have := HG.out; omega
  refine ⟨g, .slice A2 l.length c2, rfl, ⟨blk_set HX.out 5 _, R_fr r0 rfl fs hne1, Kd.R_lower (R_fr r1 rfl fs hne2) HB.out, Kd.R_nil _ _ _ _ _, Kd.Q_nil _ _ _ _ _, ?_, fun x hx => absurd hx (by simp), rfl, HN.out.1, HN.out.2, fun p hp => absurd hp (by simp), Nat.le_trans HB.out hg⟩, hg, fun k hk => R_ge HO.out hk, below_fr b1 b1.size fs (fun k hk => by rw [hk]; exact hg)⟩
  intro k hk hk2
  have h1 := R_lt' HR.out hk
  have h2 := R_ge HO.out hk2
  omega

set_option maxHeartbeats 1000000 in
set_option maxRecDepth 100000 in
theorem New_calls (w : World) (n : Nat) (hn : 1 ≤ n) (hn2 : n ≤ 4096) :
    Calls Try.prog 28 #[.int .i64 n] w fun e w' => ∃ g v0 v1, e = .returned (.tuple #[.pointer (some ⟨g, 0, none⟩), .int .i64 0]) ∧ DV w' w.heap.size g v0 v1 (.slice none 0 0) (.slice none 0 0) ⟨List.replicate n (List.replicate 64 0), List.replicate n (List.replicate 64 0), [], [], 0⟩ ∧ Below w.heap.size w w' := by
  have h1 : ¬ ((n : Int) < 1) := by omega
  have h2 : ¬ ((n : Int) > 4096) := by omega
  go_enter Try.func28, Try.ntmps28
  go_wp2_with (first
    | (refine Kd.R_make kB (w0 := w) w.heap.size 89 rfl (N := 11) rfl 85 (.tmp 10) (.tmp 10) rfl (n : Int) rfl rfl Try.underlying85 zBv 64 info89z rfl (by decide) (by decide) (List.replicate 64 0) (okp := fun _ => False) (ok := fun _ => True) (Kd.arr_of_cells (by simp)) (fun _ hk => hk.elim) trivial (by omega) (by omega) (Below.refl _ _) (Nat.le_refl _) ?_; intro v1 w1 ho hb1 hg1 hat1; rw [Int.toNat_natCast] at ho; have HO := Aside0.mk ho; have HB1 := Aside0.mk hb1; clear ho hb1 hg1 hat1)
    | (go_at_call 58; refine (made_calls w w1 w.heap.size v1 _ HO.out (by simpa using hn) (by simpa using hn2) HB1.out.size).mono ?_; rintro e w2 ⟨g, v2, rfl, hd, hg, hv, hb2⟩; have HD := Aside0.mk hd; have HB2 := Aside0.mk (below_step HB1.out hb2); clear hd hg hv hb2))
  go_ret2
  exact ⟨g, v1, v2, rfl, HD.out, HB2.out⟩
end Go.Proofs.Ytdnjjhdhldgcmaa.Sec
