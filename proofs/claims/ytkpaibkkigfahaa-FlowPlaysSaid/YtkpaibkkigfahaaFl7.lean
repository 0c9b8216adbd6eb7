/- flow.Table: Put, Set, All, Due, Of, Count. -/
import Derived.Test.YtkpaibkkigfahaaFl6
namespace Go.Proofs.Ytkpaibkkigfahaa.Fl
open Go.RowKit Go.Proofs.YtkpaibkkigfahaaW.PrintWords Go.Proofs.YtkpaibkkigfahaaW.PrintLast Go.Proofs.YtkpaibkkigfahaaW.PrintMore Go.Proofs.Ytkpaibkkigfahaa.Bs Go.Proofs.Ytkpaibkkigfahaa.Fr Go.Proofs.Ytkpaibkkigfahaa.Mp Go.Proofs.Ytkpaibkkigfahaa.Srt
open Go.Proofs.Ytkpaibkkigfahaa.PFlowPlays Go.Proofs.Ytkpaibkkigfahaa.FlP
set_option linter.unusedVariables false
set_option linter.unusedSimpArgs false

def BX (f : S46) : Obj := .cells #[.int .i64 f.f0, .int .u32 f.f1.f0, .int .i64 f.f1.f1, .int .u32 f.f2.f0, .int .i64 f.f2.f1, .int .i64 f.f3, .int .i64 f.f4, .int .i64 f.f5] 46
set_option maxHeartbeats 1000000 in
set_option maxRecDepth 100000 in
theorem Put_calls (w : World) (base g b : Nat) (M : List S46) (h : FT w base g b M) (f : S46) (hok : okK (keyF f)) (hbase : base ≤ w.heap.size) :
    Calls Try.prog 22 #[.pointer (some ⟨g, 0, none⟩), valF f] w fun e' w' => e' = .returned (.int .i64 (layE M f false 10)) ∧ FT w' base g b (layM M f false) ∧ Fr w w' (fun k => k = b) := by
  have HL := Aside0.mk (lay_calls (w.alloc (BX f)) base g b M (h.below (below_alloc (Below.refl _ _) _)) f hok false 10 (by simp; omega))
  clear h
  unfold valF BX at HL
  unfold valF
  go_enter Try.func22, Try.ntmps22
  go_wp2_with (go_at_call 53; refine HL.out.mono ?_; rintro e w2 ⟨rfl, h1, h2⟩; have H1 := Aside0.mk h1; have H2 := Aside0.mk h2; clear h1 h2)
  go_ret
  exact ⟨rfl, H1.out, (Fr.of_below (below_alloc (Below.refl _ _) _) _).trans H2.out (fun k hk => .inl hk)⟩
set_option maxHeartbeats 1000000 in
set_option maxRecDepth 100000 in
theorem Set_calls (w : World) (base g b : Nat) (M : List S46) (h : FT w base g b M) (f : S46) (hok : okK (keyF f)) (hbase : base ≤ w.heap.size) :
    Calls Try.prog 29 #[.pointer (some ⟨g, 0, none⟩), valF f] w fun e' w' => e' = .returned (.int .i64 (layE M f true 9)) ∧ FT w' base g b (layM M f true) ∧ Fr w w' (fun k => k = b) := by
  have HL := Aside0.mk (lay_calls (w.alloc (BX f)) base g b M (h.below (below_alloc (Below.refl _ _) _)) f hok true 9 (by simp; omega))
  clear h
  unfold valF BX at HL
  unfold valF
  go_enter Try.func29, Try.ntmps29
  go_wp2_with (go_at_call 53; refine HL.out.mono ?_; rintro e w2 ⟨rfl, h1, h2⟩; have H1 := Aside0.mk h1; have H2 := Aside0.mk h2; clear h1 h2)
  go_ret
  exact ⟨rfl, H1.out, (Fr.of_below (below_alloc (Below.refl _ _) _) _).trans H2.out (fun k hk => .inl hk)⟩
set_option maxHeartbeats 1000000 in
set_option maxRecDepth 100000 in
theorem pred_all (w0 : World) : PredC 55 #[] (fun _ => true) w0 where
  eg := enters_of Try.func55 (by kernel_rfl) rfl
  calls W f hW := by
    unfold valF
    show Calls Try.prog 55 #[.agg #[.int .i64 f.f0, .int .u32 f.f1.f0, .int .i64 f.f1.f1, .int .u32 f.f2.f0, .int .i64 f.f2.f1, .int .i64 f.f3, .int .i64 f.f4, .int .i64 f.f5]] W _
    go_enter Try.func55, Try.ntmps55
    go_wp2
    go_ret
    exact ⟨rfl, below_alloc (Below.refl _ _) _⟩
set_option maxHeartbeats 1000000 in
set_option maxRecDepth 100000 in
theorem pred_due (w0 : World) (c : Nat) (now : Int) (hc : w0.cell? ⟨c, 0, none⟩ = some (.int .i64 now)) : PredC 56 #[.pointer (some ⟨c, 0, none⟩)] (fun f => decide (f.f3 ≤ now)) w0 where
  eg := enters_of Try.func56 (by kernel_rfl) rfl
  calls W f hW := by
    have hc2 := pw_cell_below hW hc
    have hc3 := pw_cell_below (below_alloc (Below.refl W.heap.size W) (BX f)) hc2
    clear hc hc2 hW
    unfold BX at hc3
    unfold valF
    show Calls Try.prog 56 #[.agg #[.int .i64 f.f0, .int .u32 f.f1.f0, .int .i64 f.f1.f1, .int .u32 f.f2.f0, .int .i64 f.f2.f1, .int .i64 f.f3, .int .i64 f.f4, .int .i64 f.f5], .pointer (some ⟨c, 0, none⟩)] W _
    go_enter Try.func56, Try.ntmps56
    go_wp2
    go_ret
    exact ⟨rfl, below_alloc (Below.refl _ _) _⟩
set_option maxHeartbeats 1000000 in
set_option maxRecDepth 100000 in
theorem pred_count (w0 : World) (c : Nat) (sub : Int) (hc : w0.cell? ⟨c, 0, none⟩ = some (.int .u32 sub)) : PredC 81 #[.pointer (some ⟨c, 0, none⟩)] (fun f => f.f1.f0 == sub) w0 where
  eg := enters_of Try.func81 (by kernel_rfl) rfl
  calls W f hW := by
    have hc2 := pw_cell_below hW hc
    have hc3 := pw_cell_below (below_alloc (Below.refl W.heap.size W) (BX f)) hc2
    clear hc hc2 hW
    unfold BX at hc3
    unfold valF
    show Calls Try.prog 81 #[.agg #[.int .i64 f.f0, .int .u32 f.f1.f0, .int .i64 f.f1.f1, .int .u32 f.f2.f0, .int .i64 f.f2.f1, .int .i64 f.f3, .int .i64 f.f4, .int .i64 f.f5], .pointer (some ⟨c, 0, none⟩)] W _
    go_enter Try.func81, Try.ntmps81
    go_wp2
    go_ret
    exact ⟨rfl, below_alloc (Below.refl _ _) _⟩
theorem eql29 (x0 y0 x1 y1 : Int) (w : World) : (binOp BinOp.eql 29 (.agg #[.int .u32 x0, .int .i64 x1]) (.agg #[.int .u32 y0, .int .i64 y1])).run Try.prog w = .ok (.bool (x0 == y0 && (x1 == y1))) w := by
  rw [run_eql_struct, show (10000 : Nat) = 9998 + 2 from rfl, eqA29]
  rfl
set_option maxHeartbeats 1000000 in
set_option maxRecDepth 100000 in
theorem pred_of (w0 : World) (c d : Nat) (p ia ip : Int) (hc : w0.cell? ⟨c, 0, none⟩ = some (.int .i64 p)) (hd0 : w0.cell? ⟨d, 0, none⟩ = some (.int .u32 ia)) (hd1 : w0.cell? ⟨d, 1, none⟩ = some (.int .i64 ip)) :
    PredC 57 #[.pointer (some ⟨c, 0, none⟩), .pointer (some ⟨d, 0, none⟩)] (fun f => f.f0 == p && (f.f1.f0 == ia && (f.f1.f1 == ip))) w0 where
  eg := enters_of Try.func57 (by kernel_rfl) rfl
  calls W f hW := by
    have hc3 := pw_cell_below (below_alloc (Below.refl W.heap.size W) (BX f)) (pw_cell_below hW hc)
    have hd03 := pw_cell_below (below_alloc (Below.refl W.heap.size W) (BX f)) (pw_cell_below hW hd0)
    have hd13 := pw_cell_below (below_alloc (Below.refl W.heap.size W) (BX f)) (pw_cell_below hW hd1)
    clear hc hd0 hd1 hW
    unfold BX at hc3 hd03 hd13
    have hEq := eql29 f.f1.f0 ia f.f1.f1 ip
    unfold valF
    show Calls Try.prog 57 #[.agg #[.int .i64 f.f0, .int .u32 f.f1.f0, .int .i64 f.f1.f1, .int .u32 f.f2.f0, .int .i64 f.f2.f1, .int .i64 f.f3, .int .i64 f.f4, .int .i64 f.f5], .pointer (some ⟨c, 0, none⟩), .pointer (some ⟨d, 0, none⟩)] W _
    by_cases hp : f.f0 = p
    · have hp1 : (f.f0 == p) = true := beq_iff_eq.mpr hp
      have HP := Aside0.mk hp1
      clear hp
      rw [HP.out]
      go_enter Try.func57, Try.ntmps57
      go_wp2
      go_ret
      exact ⟨by simp, below_alloc (Below.refl _ _) _⟩
    · have hp1 : (f.f0 == p) = false := beq_eq_false_iff_ne.mpr hp
      have HP := Aside0.mk hp1
      clear hp
      rw [HP.out]
      go_enter Try.func57, Try.ntmps57
      go_wp2
      go_ret
      exact ⟨by simp, below_alloc (Below.refl _ _) _⟩
set_option maxHeartbeats 1000000 in
set_option maxRecDepth 100000 in
theorem All_calls (w : World) (base g b : Nat) (M : List S46) (h : FT w base g b M) (hM : M.length ≤ 100000) :
    Calls Try.prog 23 #[.pointer (some ⟨g, 0, none⟩)] w fun e w' => ∃ v, e = .returned v ∧ k46.R 46 w' w.heap.size (fun _ => True) v M ∧ Below w.heap.size w w' := by
  have hT := those_calls w base g b M h hM 55 #[] (fun _ => true) (pred_all w)
  rw [List.filter_eq_self.2 (fun _ _ => rfl)] at hT
  have HT := Aside0.mk hT
  clear hT h
  go_enter Try.func23, Try.ntmps23
  go_wp2_with (go_at_call 54; refine HT.out.mono ?_; rintro e w2 ⟨v, rfl, h1, h2⟩; have H1 := Aside0.mk h1; have H2 := Aside0.mk h2; clear h1 h2)
  go_ret
  exact ⟨_, rfl, H1.out, H2.out⟩
set_option maxHeartbeats 1000000 in
set_option maxRecDepth 100000 in
theorem Due_calls (w : World) (base g b : Nat) (M : List S46) (h : FT w base g b M) (hM : M.length ≤ 100000) (now : Int) :
    Calls Try.prog 24 #[.pointer (some ⟨g, 0, none⟩), .int .i64 now] w fun e w' => ∃ v, e = .returned v ∧ k46.R 46 w' w.heap.size (fun _ => True) v (M.filter (fun f => decide (f.f3 ≤ now))) ∧ Below w.heap.size w w' := by
  have hb := below_alloc (Below.refl w.heap.size w) (.cells #[.int .i64 now] 2)
  have hT := those_calls (w.alloc (.cells #[.int .i64 now] 2)) base g b M (h.below hb) hM 56 #[.pointer (some ⟨w.heap.size, 0, none⟩)] _ (pred_due _ w.heap.size now (blk_cell (blk_new w _) 0))
  have HT := Aside0.mk hT
  have HB := Aside0.mk hb
  have hmf : ∀ (fn : Fn) (first cap : Array Value) (w : World), (Instr.makeFunc fn first cap).run Try.prog w = .ok (.func fn first cap) w := fun _ _ _ _ => rfl
  clear hT h hb
  go_enter Try.func24, Try.ntmps24
  go_wp2_with (go_at_call 54; refine HT.out.mono ?_; rintro e w2 ⟨v, rfl, h1, h2⟩; have H1 := Aside0.mk h1; have H2 := Aside0.mk h2; clear h1 h2)
  go_ret
  exact ⟨_, rfl, Kd.R_lower H1.out HB.out.size, below_step HB.out H2.out⟩
set_option maxHeartbeats 1000000 in
set_option maxRecDepth 100000 in
theorem Count_calls (w : World) (base g b : Nat) (M : List S46) (h : FT w base g b M) (hM : M.length ≤ 100000) (sub : Int) :
    Calls Try.prog 52 #[.pointer (some ⟨g, 0, none⟩), .int .u32 sub] w fun e w' => e = .returned (.int .i64 (M.filter (fun f => f.f1.f0 == sub)).length) ∧ Below w.heap.size w w' := by
  have hb := below_alloc (Below.refl w.heap.size w) (.cells #[.int .u32 sub] 27)
  have hT := those_calls (w.alloc (.cells #[.int .u32 sub] 27)) base g b M (h.below hb) hM 81 #[.pointer (some ⟨w.heap.size, 0, none⟩)] _ (pred_count _ w.heap.size sub (blk_cell (blk_new w _) 0))
  have HT := Aside0.mk hT
  have HB := Aside0.mk hb
  have hmf : ∀ (fn : Fn) (first cap : Array Value) (w : World), (Instr.makeFunc fn first cap).run Try.prog w = .ok (.func fn first cap) w := fun _ _ _ _ => rfl
  clear hT h hb
  go_enter Try.func52, Try.ntmps52
  go_wp2_with (go_at_call 54; refine HT.out.mono ?_; rintro e w2 ⟨v, rfl, h1, h2⟩; obtain ⟨A, c, rfl⟩ := Kd.R_slice h1; have H2 := Aside0.mk h2; clear h1 h2)
  go_ret
  exact ⟨rfl, below_step HB.out H2.out⟩
set_option maxHeartbeats 1000000 in
set_option maxRecDepth 100000 in
theorem Of_calls (w : World) (base g b : Nat) (M : List S46) (h : FT w base g b M) (hM : M.length ≤ 100000) (p ia ip : Int) :
    Calls Try.prog 26 #[.pointer (some ⟨g, 0, none⟩), .int .i64 p, .agg #[.int .u32 ia, .int .i64 ip]] w fun e w' => ∃ v, e = .returned v ∧ k46.R 46 w' w.heap.size (fun _ => True) v (M.filter (fun f => f.f0 == p && (f.f1.f0 == ia && (f.f1.f1 == ip)))) ∧ Below w.heap.size w w' := by
  have hb := (below_alloc (Below.refl w.heap.size w) (.cells #[.int .i64 p] 3)).alloc (by simp) (E1 ia ip)
  have x1 := blk_alloc (blk_new w (.cells #[.int .i64 p] 3)) (E1 ia ip)
  have x2 : ((w.alloc (.cells #[.int .i64 p] 3)).alloc (E1 ia ip)).heap[w.heap.size + 1]? = some (E1 ia ip) := by have h_ := blk_new (w.alloc (.cells #[.int .i64 p] 3)) (E1 ia ip); rw [World.size_alloc] at h_; exact h_
  have hT := those_calls _ base g b M (h.below hb) hM 57 #[.pointer (some ⟨w.heap.size, 0, none⟩), .pointer (some ⟨w.heap.size + 1, 0, none⟩)] _ (pred_of _ w.heap.size (w.heap.size + 1) p ia ip (blk_cell x1 0) (blk_cell x2 0) (blk_cell x2 1))
  have HT := Aside0.mk hT
  have HB := Aside0.mk hb
  have hmf : ∀ (fn : Fn) (first cap : Array Value) (w : World), (Instr.makeFunc fn first cap).run Try.prog w = .ok (.func fn first cap) w := fun _ _ _ _ => rfl
  clear hT h hb x1 x2
  go_enter Try.func26, Try.ntmps26
  go_wp2_with (go_at_call 54; refine HT.out.mono ?_; rintro e w2 ⟨v, rfl, h1, h2⟩; have H1 := Aside0.mk h1; have H2 := Aside0.mk h2; clear h1 h2)
  go_ret
  exact ⟨_, rfl, Kd.R_lower H1.out HB.out.size, below_step HB.out H2.out⟩
end Go.Proofs.Ytkpaibkkigfahaa.Fl
