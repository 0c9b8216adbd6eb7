/- bind.Table: own of a mapping without filters; Get, Back, Put of such. -/
import Derived.Test.YtkpaibkkigfahaaBd0
import Derived.Test.YtkpaibkkigfahaaAr
import Derived.Test.YtkpaibkkigfahaaMp4
import Derived.Test.YtkpaibkkigfahaaFr
import Derived.Test.YtkpaibkkigfahaaPBindLetsx1
namespace Go.Proofs.Ytkpaibkkigfahaa.Bd
open Go.RowKit Go.Proofs.YtkpaibkkigfahaaW.PrintWords Go.Proofs.YtkpaibkkigfahaaW.PrintLast Go.Proofs.YtkpaibkkigfahaaW.PrintMore Go.Proofs.Ytkpaibkkigfahaa.Bs Go.Proofs.Ytkpaibkkigfahaa.Fr Go.Proofs.Ytkpaibkkigfahaa.Mp
open Go.Proofs.Ytkpaibkkigfahaa.PBindLets
set_option linter.unusedVariables false
set_option linter.unusedSimpArgs false
open Go.Maps (Keyed)

theorem info33 : (Try.prog.info? 33).map (·.size) = some 20 := by kernel_rfl
def lM (p ia ip oa op : Int) : List Value := [.int .i64 p, .int .u32 ia, .int .i64 ip, .int .u32 oa, .int .i64 op, .int .i64 0, .int .i64 0, .int .u8 0, .int .u8 0, .int .u8 0, .int .u8 0, .int .u8 0, .int .u8 0, .int .u8 0, .int .u8 0, .int .u8 0, .int .u8 0, .int .u8 0, .int .u8 0, .slice none 0 0]
def Z33 : Obj := .cells #[.int .i64 0, .int .u32 0, .int .i64 0, .int .u32 0, .int .i64 0, .int .i64 0, .int .i64 0, .int .u8 0, .int .u8 0, .int .u8 0, .int .u8 0, .int .u8 0, .int .u8 0, .int .u8 0, .int .u8 0, .int .u8 0, .int .u8 0, .int .u8 0, .int .u8 0, .slice none 0 0] 33
theorem one_lM (p ia ip oa op : Int) : ∀ v ∈ lM p ia ip oa op, v.oneCell' = true := by
  intro v hv
  unfold lM at hv
  simp only [List.mem_cons, List.not_mem_nil, or_false, or_self] at hv
  rcases hv with rfl | rfl | rfl | rfl | rfl | rfl | rfl | rfl | rfl | rfl | rfl | rfl | rfl | rfl | rfl | rfl | rfl | rfl | rfl | rfl <;> rfl
set_option maxHeartbeats 1000000 in
set_option maxRecDepth 100000 in
theorem own_nil (w : World) (p ia ip oa op : Int) : Calls Try.prog 50 #[vM p ia ip oa op] w fun e w' => e = .returned (vM p ia ip oa op) ∧ Below w.heap.size w w' := by
  have hx := blk_new (w.alloc (OM p ia ip oa op)) Z33
  rw [World.size_alloc] at hx
  have HX := Aside0.mk hx
  have HX0 := Aside0.mk (blk_alloc (blk_new w (OM p ia ip oa op)) Z33)
  have hb : Below w.heap.size w ((w.alloc (OM p ia ip oa op)).alloc Z33) := Below.alloc (below_alloc (Below.refl _ _) _) (by rw [World.size_alloc]; exact Nat.le_succ _) _
  have HB := Aside0.mk hb
  clear hb hx
  unfold OM Z33 at HB HX HX0
  unfold vM
  go_enter Try.func50, Try.ntmps50
  go_wp2_with fail
  refine (Clone_nil _).mono ?_
  rintro e w2 ⟨rfl, rfl⟩
  go_upto_region 2 with fail
  generalize (w.alloc (.cells #[.int .i64 p, .int .u32 ia, .int .i64 ip, .int .u32 oa, .int .i64 op, .int .i64 0, .int .i64 0, .int .u8 0, .int .u8 0, .int .u8 0, .int .u8 0, .int .u8 0, .int .u8 0, .int .u8 0, .int .u8 0, .int .u8 0, .int .u8 0, .int .u8 0, .int .u8 0, .slice none 0 0] 33)).alloc (.cells #[.int .i64 0, .int .u32 0, .int .i64 0, .int .u32 0, .int .i64 0, .int .i64 0, .int .i64 0, .int .u8 0, .int .u8 0, .int .u8 0, .int .u8 0, .int .u8 0, .int .u8 0, .int .u8 0, .int .u8 0, .int .u8 0, .int .u8 0, .int .u8 0, .int .u8 0, .slice none 0 0] 33) = w2 at *
  have HRG := Aside0.mk (range_blk (cs := lM p ia ip oa op) HX0.out)
  go_wp2_with (first
    | (refine wpList_load_mid rfl 33 (.tmp 1) rfl w.heap.size 0 rfl (lM p ia ip oa op) _ HRG.out Try.underlying33 rfl info33 ?_)
    | (refine wp_fill rfl 33 (.tmp 2) (.tmp 7) rfl (w.heap.size + 1) _ 33 (lM p ia ip oa op) HX.out rfl rfl rfl info33 (one_lM p ia ip oa op) ?_; intro w3 hx3 hf3; have HX3 := Aside0.mk hx3; have HF3 := Aside0.mk hf3; clear hx3 hf3))
  refine bodyPost_ret (results_cell_row rfl _ _ (w.heap.size + 1) 33 _ (0, 0) _ rfl HX3.out Try.underlying33 rfl info33) rfl ⟨rfl, below_fr HB.out HB.out.size HF3.out (fun k hk => by rw [hk]; exact Nat.le_succ _)⟩
section
variable {P : Program} {ops : Array Oper} {oi : Oper} {a : Act} {Q : Exit → Act → World → Prop} {Kc : Act → World → Prop} {W : World}
/-- A whole variable is filled, in a region that draws its order. -/
theorem fill_ (hw : Region.wanted oi (yielded ops a.tmps) = true) (hN : oi.dst = none) (ty : TypeId) (x y : Operand) (ho : oi.op = .store ty x y) (g : Nat) (zs : Array Value) (t : TypeId) (cs : List Value) (hb : W.heap[g]? = some (.cells zs t (0, 0)))
    (hx : a.eval x = .pointer (some ⟨g, 0, none⟩)) (hy : a.eval y = .agg cs.toArray) (hl : cs.length = zs.size) (hi : (P.info? ty).map (·.size) = some zs.size) (h1 : ∀ v ∈ cs, v.oneCell' = true)
    (hK : ∀ w1, w1.heap[g]? = some (.cells cs.toArray t (0, 0)) → Fr W w1 (fun k => k = g) → Kc a w1) : if Region.wanted oi (yielded ops a.tmps) = true then Oper.wp P oi a W Kc Q else Kc (a.put none undef) W :=
  skip_ hw hN (run_store_mid ty x y ho g 0 cs.toArray hx hy (there_blk hb 0 _ (by simp; omega)) (by rw [hi]; simp [hl]) (all_oneCell_toArray h1)) (hK _ (fill_blk hb hl) (Fr.setCells (F := fun k => k = g) (Fr.refl W _) (.inl rfl) 0 cs))
theorem results_cell_tmp_row {fn : Func} {p u : Tmp} {ty : TypeId} (h : fn.results = #[.cell p ty, .tmp u]) (tmps : Array Value) (w : World) (g : Nat) (t : TypeId) (cs : Array Value) (fr : Nat × Nat) (d : TypeDesc) (v : Value)
    (hp : tmps.getD p undef = .pointer (some ⟨g, 0, none⟩)) (hv : tmps.getD u undef = v) (hg : w.heap[g]? = some (.cells cs t fr))
    (hu : P.underlying ty = some d) (hd : (match d with | .struct _ | .array _ _ => true | _ => false) = true) (hi : (P.info? ty).map (·.size) = some cs.size) :
    (results fn tmps).run P w = .ok (.tuple #[.agg cs, v]) w := by
  rw [results_cell_tmp h, hp, hv]
  simp [asAddr, Go.run_loadVar_row w g t ty cs fr d hg hu hd hi, Result.andThen]
end
def E1 (a b : Int) : Obj := .cells #[.int .u32 a, .int .i64 b] 29
set_option maxHeartbeats 4000000 in
set_option maxRecDepth 100000 in
theorem Get_found (w : World) (base g bi bo : Nat) (Li Lo : List (Key × Value)) (h : BT w base g bi bo Li Lo) (p ia ip : Int) (hok : okK (p, ia, ip)) (q ja jp oa op : Int) (hg : aget Li (p, ia, ip) = some (vM q ja jp oa op)) :
    Calls Try.prog 37 #[.pointer (some ⟨g, 0, none⟩), .int .i64 p, .agg #[.int .u32 ia, .int .i64 ip]] w fun e' w' => e' = .returned (.tuple #[vM q ja jp oa op, .bool true]) ∧ Below w.heap.size w w' := by
  have H := Aside0.mk h
  have HOK := Aside0.mk hok
  have HG : Aside0 ((aget Li (p, ia, ip)).getD (.agg #[.int .i64 0, .int .u32 0, .int .i64 0, .int .u32 0, .int .i64 0, .int .i64 0, .int .i64 0, .int .u8 0, .int .u8 0, .int .u8 0, .int .u8 0, .int .u8 0, .int .u8 0, .int .u8 0, .int .u8 0, .int .u8 0, .int .u8 0, .int .u8 0, .int .u8 0, .slice none 0 0]) = .agg #[.int .i64 q, .int .u32 ja, .int .i64 jp, .int .u32 oa, .int .i64 op, .int .i64 0, .int .i64 0, .int .u8 0, .int .u8 0, .int .u8 0, .int .u8 0, .int .u8 0, .int .u8 0, .int .u8 0, .int .u8 0, .int .u8 0, .int .u8 0, .int .u8 0, .int .u8 0, .slice none 0 0] ∧ (aget Li (p, ia, ip)).isSome = true) := ⟨by rw [hg]; exact ⟨rfl, rfl⟩⟩
  clear h hok hg
  have hb := Below.alloc (below_alloc (Below.refl w.heap.size w) (E1 ia ip)) (by rw [World.size_alloc]; exact Nat.le_succ _) Z33
  have B1 := Aside0.mk hb
  have x6 := Aside0.mk (blk_alloc (blk_new w (E1 ia ip)) Z33)
  have x7 : Aside0 (((w.alloc (E1 ia ip)).alloc Z33).heap[w.heap.size + 1]? = some Z33) := ⟨by have h := blk_new (w.alloc (E1 ia ip)) Z33; rw [World.size_alloc] at h; exact h⟩
  have F3 := Aside0.mk (H.out.below B1.out)
  clear hb
  unfold vM
  go_enter Try.func37, Try.ntmps37
  go_upto_region 3 with (go_at_call 49; refine (made_calls _ base g bi bo Li Lo F3.out).mono ?_; rintro e w1 ⟨rfl, rfl⟩)
  obtain ⟨w3, hw3⟩ : ∃ w3, w3 = (w.alloc (E1 ia ip)).alloc Z33 := ⟨_, rfl⟩
  rw [← hw3] at B1 x6 x7 F3
  rw [← hw3]
  clear hw3
  unfold E1 at x6
  unfold Z33 at x7
  have kg : w3.drew.cell? ⟨g, 0, none⟩ = some (.map (some bi)) := blk_cell F3.out.blk 0
  have k0 : w3.drew.cell? ⟨w.heap.size, 0, none⟩ = some (.int .u32 ia) := blk_cell x6.out 0
  have k1 : w3.drew.cell? ⟨w.heap.size, 1, none⟩ = some (.int .i64 ip) := blk_cell x6.out 1
  refine start_ (n := 14) (S := fun w' => w'.cell? ⟨g, 0, none⟩ = some (.map (some bi)) ∧ w'.cell? ⟨w.heap.size, 0, none⟩ = some (.int .u32 ia) ∧ w'.cell? ⟨w.heap.size, 1, none⟩ = some (.int .i64 ip) ∧ MapIs KB w' bi Li) (ds := [12]) #[false, false, false, false, false, false, false, false, false, false, false, false, false, false] (by kernel_rfl) rfl rfl ⟨kg, k0, k1, (F3.out.min : MapIs KB w3.drew bi Li)⟩ (fun hHeld => ?_)
  refine pure_ (i := 0) (N := some 15) (v := ?_) (a' := ?_) #[true, false, false, false, false, false, false, false, false, false, false, false, false, false] rfl rfl (by kernel_rfl) (fun _ _ _ h => h) (Or.inl ⟨by rfl, ?_⟩) ?_ ?_
  rotate_left
  · intro w'
    go_simp
    with_reducible rfl
  rotate_left
  · simp only [Act.put, List.setIfInBounds_toArray, List.set_cons_zero, List.set_cons_succ, i64_w, i32_w]
    rfl
  refine pure_ (i := 1) (N := some 16) (v := ?_) (a' := ?_) #[true, true, false, false, false, false, false, false, false, false, false, false, false, false] rfl rfl (by kernel_rfl) (fun _ _ _ h => h) (Or.inl ⟨by rfl, ?_⟩) ?_ ?_
  rotate_left
  · intro w'
    go_simp
    with_reducible rfl
  rotate_left
  · simp only [Act.put, List.setIfInBounds_toArray, List.set_cons_zero, List.set_cons_succ, i64_w, i32_w]
    rfl
  refine pure_ (i := 2) (N := some 17) (v := ?_) (a' := ?_) #[true, true, true, false, false, false, false, false, false, false, false, false, false, false] rfl rfl (by kernel_rfl) (fun _ _ _ h => h) (Or.inl ⟨by rfl, ?_⟩) ?_ ?_
  rotate_left
  · intro w'
    go_simp
    with_reducible rfl
  rotate_left
  · simp only [Act.put, List.setIfInBounds_toArray, List.set_cons_zero, List.set_cons_succ, i64_w, i32_w]
    rfl
  refine pure_ (i := 4) (N := some 19) (v := ?_) (a' := ?_) #[true, true, true, false, true, false, false, false, false, false, false, false, false, false] rfl rfl (by kernel_rfl) (fun _ _ _ h => h) (Or.inl ⟨by rfl, ?_⟩) ?_ ?_
  rotate_left
  · intro w'
    go_simp
    with_reducible rfl
  rotate_left
  · simp only [Act.put, List.setIfInBounds_toArray, List.set_cons_zero, List.set_cons_succ, i64_w, i32_w]
    rfl
  refine take_ (i := 3) (N := some 18) (v := ?_) (a' := ?_) #[true, true, true, true, true, false, false, false, false, false, false, false, false, false] rfl rfl (by kernel_rfl) (fun _ _ _ h => h) (Or.inl ⟨by rfl, ?_⟩) hHeld ?_ ?_
  rotate_left
  · rintro w' ⟨s0, s1, s2, s3⟩
    go_simp
    with_reducible rfl
  rotate_left
  · simp only [Act.put, List.setIfInBounds_toArray, List.set_cons_zero, List.set_cons_succ, i64_w, i32_w]
    rfl
  refine take_ (i := 5) (N := some 20) (v := ?_) (a' := ?_) #[true, true, true, true, true, true, false, false, false, false, false, false, false, false] rfl rfl (by kernel_rfl) (fun _ _ _ h => h) (Or.inl ⟨by rfl, ?_⟩) hHeld ?_ ?_
  rotate_left
  · rintro w' ⟨s0, s1, s2, s3⟩
    go_simp
    with_reducible rfl
  rotate_left
  · simp only [Act.put, List.setIfInBounds_toArray, List.set_cons_zero, List.set_cons_succ, i64_w, i32_w]
    rfl
  refine pure_ (i := 6) (N := some 21) (v := ?_) (a' := ?_) #[true, true, true, true, true, true, true, false, false, false, false, false, false, false] rfl rfl (by kernel_rfl) (fun _ _ _ h => h) (Or.inl ⟨by rfl, ?_⟩) ?_ ?_
  rotate_left
  · intro w'
    go_simp
    with_reducible rfl
  rotate_left
  · simp only [Act.put, List.setIfInBounds_toArray, List.set_cons_zero, List.set_cons_succ, i64_w, i32_w]
    rfl
  refine take_ (i := 7) (N := some 22) (v := (.tuple #[.agg #[.int .i64 q, .int .u32 ja, .int .i64 jp, .int .u32 oa, .int .i64 op, .int .i64 0, .int .i64 0, .int .u8 0, .int .u8 0, .int .u8 0, .int .u8 0, .int .u8 0, .int .u8 0, .int .u8 0, .int .u8 0, .int .u8 0, .int .u8 0, .int .u8 0, .int .u8 0, .slice none 0 0], .bool true])) (a' := ?aa_1) #[true, true, true, true, true, true, true, true, false, false, false, false, false, false] rfl rfl (by kernel_rfl) (fun _ _ _ h => h) ?hy_1 hHeld ?ha_1 ?h_1
  case hy_1 => exact Or.inl ⟨by rfl, fun w' s => look_run KB s.2.2.2 (.tmp 18) (.tmp 21) (by rfl) Try.underlying80 (Try.zeroValue33 w') (p, ia, ip) HOK.out (by rfl) (by rfl) HG.out⟩
  case ha_1 => simp only [Act.put, List.setIfInBounds_toArray, List.set_cons_zero, List.set_cons_succ, i64_w, i32_w]; rfl
  refine pure_ (i := 8) (N := some 14) (v := ?_) (a' := ?_) #[true, true, true, true, true, true, true, true, true, false, false, false, false, false] rfl rfl (by kernel_rfl) (fun _ _ _ h => h) (Or.inl ⟨by rfl, ?_⟩) ?_ ?_
  rotate_left
  · intro w'
    go_simp
    with_reducible rfl
  rotate_left
  · simp only [Act.put, List.setIfInBounds_toArray, List.set_cons_zero, List.set_cons_succ, i64_w, i32_w]
    rfl
  refine pure_ (i := 9) (N := some 23) (v := ?_) (a' := ?_) #[true, true, true, true, true, true, true, true, true, true, false, false, false, false] rfl rfl (by kernel_rfl) (fun _ _ _ h => h) (Or.inl ⟨by rfl, ?_⟩) ?_ ?_
  rotate_left
  · intro w'
    go_simp
    with_reducible rfl
  rotate_left
  · simp only [Act.put, List.setIfInBounds_toArray, List.set_cons_zero, List.set_cons_succ, i64_w, i32_w]
    rfl
  refine pure_ (i := 10) (N := some 24) (v := ?_) (a' := ?_) #[true, true, true, true, true, true, true, true, true, true, true, false, false, false] rfl rfl (by kernel_rfl) (fun _ _ _ h => h) (Or.inl ⟨by rfl, ?_⟩) ?_ ?_
  rotate_left
  · intro w'
    go_simp
    with_reducible rfl
  rotate_left
  · simp only [Act.put, List.setIfInBounds_toArray, List.set_cons_zero, List.set_cons_succ, i64_w, i32_w]
    rfl
  refine one_ (i := 11) (N := some 8) #[true, true, true, true, true, true, true, true, true, true, true, true, false, false] rfl rfl (by kernel_rfl) (by decide) (fun K hK => ?_)
  refine value_ (w1 := ?_) (v := ?_) (by rfl) rfl ?_ ?_
  rotate_left 2
  · go_simp
    constructor
    · rfl
    · rfl
  refine hK.out _ _ ⟨(cell_alloc_old (w := w3.drew) kg _), (cell_alloc_old (w := w3.drew) k0 _), (cell_alloc_old (w := w3.drew) k1 _), ((F3.out.min : MapIs KB w3.drew bi Li).alloc _)⟩ (fun hHeld => ?_)
  clear hK K
  refine norm_ (a' := ?_) ?_ ?_
  rotate_left
  · show Act.put _ (some 8) _ = _
    simp only [Act.put, List.setIfInBounds_toArray, List.set_cons_zero, List.set_cons_succ, i64_w, i32_w]
    rfl
  refine last_ (i := 12) (N := none) #[true, true, true, true, true, true, true, true, true, true, true, true, true, false] rfl rfl (by kernel_rfl) (by decide) (fun K hK => ?_)
  refine fill_ (by rfl) rfl 33 (.tmp 8) (.tmp 23) rfl w3.heap.size _ 33 (lM q ja jp oa op) (blk_new w3.drew _) rfl rfl rfl info33 (one_lM q ja jp oa op) ?_
  intro w4 hxw4 hfw4
  have HXw4 := Aside0.mk hxw4
  have HFw4 := Aside0.mk hfw4
  clear hxw4 hfw4
  refine hK.out _ _ ?_
  clear hK K
  refine pure_ (i := 13) (N := some 9) (v := ?_) (a' := ?_) #[true, true, true, true, true, true, true, true, true, true, true, true, true, true] rfl rfl (by kernel_rfl) (fun _ _ _ h => h) (Or.inl ⟨by rfl, ?_⟩) ?_ ?_
  rotate_left
  · intro w'
    go_simp
    with_reducible rfl
  rotate_left
  · simp only [Act.put, List.setIfInBounds_toArray, List.set_cons_zero, List.set_cons_succ, i64_w, i32_w]
    rfl
  refine done_ (by kernel_rfl) ?_
  have BA := Aside0.mk (B1.out.drew.alloc B1.out.drew.size (.cells #[.int .i64 0, .int .u32 0, .int .i64 0, .int .u32 0, .int .i64 0, .int .i64 0, .int .i64 0, .int .u8 0, .int .u8 0, .int .u8 0, .int .u8 0, .int .u8 0, .int .u8 0, .int .u8 0, .int .u8 0, .int .u8 0, .int .u8 0, .int .u8 0, .int .u8 0, .slice none 0 0] 33))
  have B4 := Aside0.mk (below_fr BA.out BA.out.size HFw4.out (fun k hk => by rw [hk]; exact B1.out.size))
  have x74 := Aside0.mk (HFw4.out.blk (blk_alloc (w := w3.drew) x7.out (.cells #[.int .i64 0, .int .u32 0, .int .i64 0, .int .u32 0, .int .i64 0, .int .i64 0, .int .i64 0, .int .u8 0, .int .u8 0, .int .u8 0, .int .u8 0, .int .u8 0, .int .u8 0, .int .u8 0, .int .u8 0, .int .u8 0, .int .u8 0, .int .u8 0, .int .u8 0, .slice none 0 0] 33)) (fun he => by have := blk_lt x7.out; omega))
  clear kg k0 k1 hHeld
  go_wp2_with (first
    | (refine wpList_load_mid rfl 33 (.tmp 8) rfl w3.heap.size 0 rfl (lM q ja jp oa op) _ (range_blk HXw4.out) Try.underlying33 rfl info33 ?_)
    | (go_at_call 50; refine (own_nil _ q ja jp oa op).mono ?_; rintro e w5 ⟨rfl, hb5⟩; have B5 := Aside0.mk (below_step B4.out hb5); have x75 := Aside0.mk (blk_below x74.out hb5); clear hb5)
    | (refine wp_fill rfl 33 (.tmp 6) (.tmp 26) rfl (w.heap.size + 1) _ 33 (lM q ja jp oa op) x75.out rfl rfl rfl info33 (one_lM q ja jp oa op) ?_; intro w6 hx6 hf6; have HX6 := Aside0.mk hx6; have HF6 := Aside0.mk hf6; clear hx6 hf6))
  refine bodyPost_ret (results_cell_tmp_row rfl _ _ (w.heap.size + 1) 33 _ (0, 0) _ _ rfl rfl HX6.out Try.underlying33 rfl info33) rfl ⟨rfl, below_fr B5.out B5.out.size HF6.out (fun k hk => by rw [hk]; exact Nat.le_succ _)⟩
set_option maxHeartbeats 4000000 in
set_option maxRecDepth 100000 in
theorem Back_found (w : World) (base g bi bo : Nat) (Li Lo : List (Key × Value)) (h : BT w base g bi bo Li Lo) (p oa op : Int) (hok : okK (p, oa, op)) (ia ip : Int) (hok2 : okK (p, ia, ip)) (hg : aget Lo (p, oa, op) = some (.agg #[.int .u32 ia, .int .i64 ip]))
    (q ja jp ka kp : Int) (hg2 : aget Li (p, ia, ip) = some (vM q ja jp ka kp)) :
    Calls Try.prog 42 #[.pointer (some ⟨g, 0, none⟩), .int .i64 p, .agg #[.int .u32 oa, .int .i64 op]] w fun e' w' => e' = .returned (.tuple #[vM q ja jp ka kp, .bool true]) ∧ Below w.heap.size w w' := by
  have H := Aside0.mk h
  have HOK := Aside0.mk hok
  have HG : Aside0 ((aget Lo (p, oa, op)).getD (.agg #[.int .u32 0, .int .i64 0]) = .agg #[.int .u32 ia, .int .i64 ip] ∧ (aget Lo (p, oa, op)).isSome = true) := ⟨by rw [hg]; exact ⟨rfl, rfl⟩⟩
  have HGET := Aside0.mk (fun W (hW : BT W base g bi bo Li Lo) => Get_found W base g bi bo Li Lo hW p ia ip hok2 q ja jp ka kp hg2)
  clear h hok hok2 hg hg2
  have hb := Below.alloc (below_alloc (Below.refl w.heap.size w) (E1 oa op)) (by rw [World.size_alloc]; exact Nat.le_succ _) Z33
  have B1 := Aside0.mk hb
  have x6 := Aside0.mk (blk_alloc (blk_new w (E1 oa op)) Z33)
  have x7 : Aside0 (((w.alloc (E1 oa op)).alloc Z33).heap[w.heap.size + 1]? = some Z33) := ⟨by have h := blk_new (w.alloc (E1 oa op)) Z33; rw [World.size_alloc] at h; exact h⟩
  have F3 := Aside0.mk (H.out.below B1.out)
  clear hb
  unfold vM at HGET ⊢
  go_enter Try.func42, Try.ntmps42
  go_upto_region 3 with (go_at_call 49; refine (made_calls _ base g bi bo Li Lo F3.out).mono ?_; rintro e w1 ⟨rfl, rfl⟩)
  obtain ⟨w3, hw3⟩ : ∃ w3, w3 = (w.alloc (E1 oa op)).alloc Z33 := ⟨_, rfl⟩
  rw [← hw3] at B1 x6 x7 F3
  rw [← hw3]
  clear hw3
  unfold E1 at x6
  unfold Z33 at x7
  have kg : w3.drew.cell? ⟨g, 1, none⟩ = some (.map (some bo)) := blk_cell F3.out.blk 1
  have k0 : w3.drew.cell? ⟨w.heap.size, 0, none⟩ = some (.int .u32 oa) := blk_cell x6.out 0
  have k1 : w3.drew.cell? ⟨w.heap.size, 1, none⟩ = some (.int .i64 op) := blk_cell x6.out 1
  refine start_ (n := 14) (S := fun w' => w'.cell? ⟨g, 1, none⟩ = some (.map (some bo)) ∧ w'.cell? ⟨w.heap.size, 0, none⟩ = some (.int .u32 oa) ∧ w'.cell? ⟨w.heap.size, 1, none⟩ = some (.int .i64 op) ∧ MapIs KB w' bo Lo) (ds := [12]) #[false, false, false, false, false, false, false, false, false, false, false, false, false, false] (by kernel_rfl) rfl rfl ⟨kg, k0, k1, (F3.out.mout : MapIs KB w3.drew bo Lo)⟩ (fun hHeld => ?_)
  refine pure_ (i := 0) (N := some 15) (v := ?_) (a' := ?_) #[true, false, false, false, false, false, false, false, false, false, false, false, false, false] rfl rfl (by kernel_rfl) (fun _ _ _ h => h) (Or.inl ⟨by rfl, ?_⟩) ?_ ?_
  rotate_left
  · intro w'
    go_simp
    with_reducible rfl
  rotate_left
  · simp only [Act.put, List.setIfInBounds_toArray, List.set_cons_zero, List.set_cons_succ, i64_w, i32_w]
    rfl
  refine pure_ (i := 1) (N := some 16) (v := ?_) (a' := ?_) #[true, true, false, false, false, false, false, false, false, false, false, false, false, false] rfl rfl (by kernel_rfl) (fun _ _ _ h => h) (Or.inl ⟨by rfl, ?_⟩) ?_ ?_
  rotate_left
  · intro w'
    go_simp
    with_reducible rfl
  rotate_left
  · simp only [Act.put, List.setIfInBounds_toArray, List.set_cons_zero, List.set_cons_succ, i64_w, i32_w]
    rfl
  refine pure_ (i := 2) (N := some 17) (v := ?_) (a' := ?_) #[true, true, true, false, false, false, false, false, false, false, false, false, false, false] rfl rfl (by kernel_rfl) (fun _ _ _ h => h) (Or.inl ⟨by rfl, ?_⟩) ?_ ?_
  rotate_left
  · intro w'
    go_simp
    with_reducible rfl
  rotate_left
  · simp only [Act.put, List.setIfInBounds_toArray, List.set_cons_zero, List.set_cons_succ, i64_w, i32_w]
    rfl
  refine pure_ (i := 4) (N := some 19) (v := ?_) (a' := ?_) #[true, true, true, false, true, false, false, false, false, false, false, false, false, false] rfl rfl (by kernel_rfl) (fun _ _ _ h => h) (Or.inl ⟨by rfl, ?_⟩) ?_ ?_
  rotate_left
  · intro w'
    go_simp
    with_reducible rfl
  rotate_left
  · simp only [Act.put, List.setIfInBounds_toArray, List.set_cons_zero, List.set_cons_succ, i64_w, i32_w]
    rfl
  refine take_ (i := 3) (N := some 18) (v := ?_) (a' := ?_) #[true, true, true, true, true, false, false, false, false, false, false, false, false, false] rfl rfl (by kernel_rfl) (fun _ _ _ h => h) (Or.inl ⟨by rfl, ?_⟩) hHeld ?_ ?_
  rotate_left
  · rintro w' ⟨s0, s1, s2, s3⟩
    go_simp
    with_reducible rfl
  rotate_left
  · simp only [Act.put, List.setIfInBounds_toArray, List.set_cons_zero, List.set_cons_succ, i64_w, i32_w]
    rfl
  refine take_ (i := 5) (N := some 20) (v := ?_) (a' := ?_) #[true, true, true, true, true, true, false, false, false, false, false, false, false, false] rfl rfl (by kernel_rfl) (fun _ _ _ h => h) (Or.inl ⟨by rfl, ?_⟩) hHeld ?_ ?_
  rotate_left
  · rintro w' ⟨s0, s1, s2, s3⟩
    go_simp
    with_reducible rfl
  rotate_left
  · simp only [Act.put, List.setIfInBounds_toArray, List.set_cons_zero, List.set_cons_succ, i64_w, i32_w]
    rfl
  refine pure_ (i := 6) (N := some 21) (v := ?_) (a' := ?_) #[true, true, true, true, true, true, true, false, false, false, false, false, false, false] rfl rfl (by kernel_rfl) (fun _ _ _ h => h) (Or.inl ⟨by rfl, ?_⟩) ?_ ?_
  rotate_left
  · intro w'
    go_simp
    with_reducible rfl
  rotate_left
  · simp only [Act.put, List.setIfInBounds_toArray, List.set_cons_zero, List.set_cons_succ, i64_w, i32_w]
    rfl
  refine take_ (i := 7) (N := some 22) (v := (.tuple #[.agg #[.int .u32 ia, .int .i64 ip], .bool true])) (a' := ?aa_2) #[true, true, true, true, true, true, true, true, false, false, false, false, false, false] rfl rfl (by kernel_rfl) (fun _ _ _ h => h) ?hy_2 hHeld ?ha_2 ?h_2
  case hy_2 => exact Or.inl ⟨by rfl, fun w' s => look_run KB s.2.2.2 (.tmp 18) (.tmp 21) (by rfl) Try.underlying81 (Try.zeroValue29 w') (p, oa, op) HOK.out (by rfl) (by rfl) HG.out⟩
  case ha_2 => simp only [Act.put, List.setIfInBounds_toArray, List.set_cons_zero, List.set_cons_succ, i64_w, i32_w]; rfl
  refine pure_ (i := 8) (N := some 14) (v := ?_) (a' := ?_) #[true, true, true, true, true, true, true, true, true, false, false, false, false, false] rfl rfl (by kernel_rfl) (fun _ _ _ h => h) (Or.inl ⟨by rfl, ?_⟩) ?_ ?_
  rotate_left
  · intro w'
    go_simp
    with_reducible rfl
  rotate_left
  · simp only [Act.put, List.setIfInBounds_toArray, List.set_cons_zero, List.set_cons_succ, i64_w, i32_w]
    rfl
  refine pure_ (i := 9) (N := some 23) (v := ?_) (a' := ?_) #[true, true, true, true, true, true, true, true, true, true, false, false, false, false] rfl rfl (by kernel_rfl) (fun _ _ _ h => h) (Or.inl ⟨by rfl, ?_⟩) ?_ ?_
  rotate_left
  · intro w'
    go_simp
    with_reducible rfl
  rotate_left
  · simp only [Act.put, List.setIfInBounds_toArray, List.set_cons_zero, List.set_cons_succ, i64_w, i32_w]
    rfl
  refine pure_ (i := 10) (N := some 24) (v := ?_) (a' := ?_) #[true, true, true, true, true, true, true, true, true, true, true, false, false, false] rfl rfl (by kernel_rfl) (fun _ _ _ h => h) (Or.inl ⟨by rfl, ?_⟩) ?_ ?_
  rotate_left
  · intro w'
    go_simp
    with_reducible rfl
  rotate_left
  · simp only [Act.put, List.setIfInBounds_toArray, List.set_cons_zero, List.set_cons_succ, i64_w, i32_w]
    rfl
  refine one_ (i := 11) (N := some 8) #[true, true, true, true, true, true, true, true, true, true, true, true, false, false] rfl rfl (by kernel_rfl) (by decide) (fun K hK => ?_)
  refine value_ (w1 := ?_) (v := ?_) (by rfl) rfl ?_ ?_
  rotate_left 2
  · go_simp
    constructor
    · rfl
    · rfl
  refine hK.out _ _ ⟨(cell_alloc_old (w := w3.drew) kg _), (cell_alloc_old (w := w3.drew) k0 _), (cell_alloc_old (w := w3.drew) k1 _), ((F3.out.mout : MapIs KB w3.drew bo Lo).alloc _)⟩ (fun hHeld => ?_)
  clear hK K
  refine norm_ (a' := ?_) ?_ ?_
  rotate_left
  · show Act.put _ (some 8) _ = _
    simp only [Act.put, List.setIfInBounds_toArray, List.set_cons_zero, List.set_cons_succ, i64_w, i32_w]
    rfl
  refine last_ (i := 12) (N := none) #[true, true, true, true, true, true, true, true, true, true, true, true, true, false] rfl rfl (by kernel_rfl) (by decide) (fun K hK => ?_)
  refine skip_ (w1 := ?_) (by rfl) rfl ?_ ?_
  rotate_left
  · go_simp
    rfl
  refine hK.out _ _ ?_
  clear hK K
  refine pure_ (i := 13) (N := some 9) (v := ?_) (a' := ?_) #[true, true, true, true, true, true, true, true, true, true, true, true, true, true] rfl rfl (by kernel_rfl) (fun _ _ _ h => h) (Or.inl ⟨by rfl, ?_⟩) ?_ ?_
  rotate_left
  · intro w'
    go_simp
    with_reducible rfl
  rotate_left
  · simp only [Act.put, List.setIfInBounds_toArray, List.set_cons_zero, List.set_cons_succ, i64_w, i32_w]
    rfl
  refine done_ (by kernel_rfl) ?_
  have BA := Aside0.mk (B1.out.drew.alloc B1.out.drew.size (.cells #[.int .u32 ia, .int .i64 ip] 29))
  have FA := Aside0.mk ((F3.out.below (Below.refl w3.heap.size w3).drew).below (below_alloc (Below.refl w3.drew.heap.size w3.drew) (.cells #[.int .u32 ia, .int .i64 ip] 29)))
  have x74 := Aside0.mk (blk_alloc (w := w3.drew) x7.out (.cells #[.int .u32 ia, .int .i64 ip] 29))
  clear kg k0 k1 hHeld
  go_wp2_with (first
    | (go_at_call 37; refine (HGET.out _ FA.out).mono ?_; rintro e w5 ⟨rfl, hb5⟩; have B5 := Aside0.mk (below_step BA.out hb5); have x75 := Aside0.mk (blk_below x74.out hb5); clear hb5)
    | (refine wp_fill rfl 33 (.tmp 6) (.tmp 32) rfl (w.heap.size + 1) _ 33 (lM q ja jp ka kp) x75.out rfl rfl rfl info33 (one_lM q ja jp ka kp) ?_; intro w6 hx6 hf6; have HX6 := Aside0.mk hx6; have HF6 := Aside0.mk hf6; clear hx6 hf6))
  refine bodyPost_ret (results_cell_tmp_row rfl _ _ (w.heap.size + 1) 33 _ (0, 0) _ _ rfl rfl HX6.out Try.underlying33 rfl info33) rfl ⟨rfl, below_fr B5.out B5.out.size HF6.out (fun k hk => by rw [hk]; exact Nat.le_succ _)⟩
end Go.Proofs.Ytkpaibkkigfahaa.Bd
