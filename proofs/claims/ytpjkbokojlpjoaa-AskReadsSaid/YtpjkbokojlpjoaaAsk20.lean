/- the document's Read. -/
import Derived.Test.YtpjkbokojlpjoaaAsk19
namespace Go.Proofs.Ytpjkbokojlpjoaa.Ak
open Go.RowKit Go.Proofs.YtpjkbokojlpjoaaW.PrintWords Go.Proofs.YtpjkbokojlpjoaaW.PrintLast Go.Proofs.YtpjkbokojlpjoaaW.PrintMore Go.Proofs.Ytpjkbokojlpjoaa.Bs Go.Proofs.Ytpjkbokojlpjoaa.Fr Go.Proofs.Ytpjkbokojlpjoaa.Oct
open Go.Proofs.Ytpjkbokojlpjoaa.PAskReads
set_option linter.unusedVariables false
set_option linter.unusedSimpArgs false

section
variable {P : Program} {ops : Array Oper} {oi : Oper} {a : Act} {Q : Exit → Act → World → Prop} {Kc : Act → World → Prop} {W : World}
/-- A whole variable is filled, in a region that draws its order. -/
theorem fill_ (hw : Region.wanted oi (yielded ops a.tmps) = true) (hN : oi.dst = none) (ty : TypeId) (x y : Operand) (ho : oi.op = .store ty x y) (g : Nat) (zs : Array Value) (t : TypeId) (cs : List Value) (hb : W.heap[g]? = some (.cells zs t (0, 0)))
    (hx : a.eval x = .pointer (some ⟨g, 0, none⟩)) (hy : a.eval y = .agg cs.toArray) (hl : cs.length = zs.size) (hi : (P.info? ty).map (·.size) = some zs.size) (h1 : ∀ v ∈ cs, v.oneCell' = true)
    (hK : ∀ w1, w1.heap[g]? = some (.cells cs.toArray t (0, 0)) → Fr W w1 (fun k => k = g) → Kc a w1) : if Region.wanted oi (yielded ops a.tmps) = true then Oper.wp P oi a W Kc Q else Kc (a.put none undef) W :=
  skip_ hw hN (run_store_mid ty x y ho g 0 cs.toArray hx hy (there_blk hb 0 _ (by simp; omega)) (by rw [hi]; simp [hl]) (all_oneCell_toArray h1)) (hK _ (fill_blk hb hl) (Fr.setCells (F := fun k => k = g) (Fr.refl W _) (.inl rfl) 0 cs))
end
def a0M (b : List Int) : AM := { az with op := rd b 1, cl := cut2 b 8 16 }
def aM (b : List Int) (x : Int) : AM := { a0M b with life := x }
theorem run_b29' (x c0 c1 c2 c3 c4 c5 c6 c7 c8 c9 c10 c11 c12 c13 c14 c15 : Int) (w : World) : (Instr.build 29 #[(0, .int .i64 x), (2, .agg (e8 [c0, c1, c2, c3, c4, c5, c6, c7, c8, c9, c10, c11, c12, c13, c14, c15]).toArray)]).run Try.prog w = .ok (.agg (AM.cells { az with op := x, cl := [c0, c1, c2, c3, c4, c5, c6, c7, c8, c9, c10, c11, c12, c13, c14, c15] }).toArray) w := by kernel_rfl
theorem run_b29 (x : Int) (l : List Int) (hl : l.length = 16) (w : World) : (Instr.build 29 #[(0, .int .i64 x), (2, .agg (e8 l).toArray)]).run Try.prog w = .ok (.agg (AM.cells { az with op := x, cl := l }).toArray) w := by
  match l, hl with
  | [c0, c1, c2, c3, c4, c5, c6, c7, c8, c9, c10, c11, c12, c13, c14, c15], _ => exact run_b29' x c0 c1 c2 c3 c4 c5 c6 c7 c8 c9 c10 c11 c12 c13 c14 c15 w
theorem address8_calls (A : Option Addr) (c : Nat) (b : List Int) (w : World) (hC : Kd.C (Kd.int .u8) w A b.length b) (hc : b.length ≤ c) (hm : b.length ≤ 2000) (ha : 8 + 16 ≤ b.length) :
    Calls Try.prog 26 #[.slice A b.length c, .int .i64 8] w fun e w' => e = .returned (arr (cut2 b 8 16)) ∧ Below w.heap.size w w' := address_calls A c b 8 w hC hc hm ha
theorem exec_b29 {a : Act} {o : Oper} (w : World) (x : Int) (l : List Int) (hl : l.length = 16) (p q : Operand) (ho : o.op = Op.build 29 #[(0, p), (2, q)]) (hp : a.eval p = .int .i64 x) (hq : a.eval q = .agg (e8 l).toArray) :
    (execOp a.eval o).run Try.prog w = .ok (.value (.agg (AM.cells { az with op := x, cl := l }).toArray)) w := by
  have h := run_b29 x l hl w
  unfold execOp
  simp only [ho]
  simp [hp, hq, h, Result.andThen]
set_option maxRecDepth 100000 in
theorem results_ctt {fn : Func} (h : fn.results = #[.cell 4 29, .tmp 5, .tmp 6]) (tmps : Array Value) (w : World) (g : Nat) (cs : List Value) (t : TypeId) (fr : Nat × Nat) (x y : Value)
    (h4 : tmps.getD 4 undef = .pointer (some ⟨g, 0, none⟩)) (h5 : tmps.getD 5 undef = x) (h6 : tmps.getD 6 undef = y) (hg : w.heap[g]? = some (.cells cs.toArray t fr)) (hn : cs.length = 67) :
    (results fn tmps).run Try.prog w = .ok (.tuple #[.agg cs.toArray, x, y]) w := by
  have h4' : tmps[4]?.getD undef = .pointer (some ⟨g, 0, none⟩) := by simpa using h4
  have h5' : tmps[5]?.getD undef = x := by simpa using h5
  have h6' : tmps[6]?.getD undef = y := by simpa using h6
  have h1 := Go.run_loadVar_row (P := Try.prog) w g t 29 cs.toArray fr _ hg Try.underlying29 rfl (by rw [info29]; simp [hn])
  simp [results, h, h4', h5', h6', asAddr, h1, Result.andThen]
def ownN (op : Int) : Int := if op = 0 then 0 else if op = 1 then 36 else if op = 2 then 56 else -1
theorem ownN_eq (op : Int) : bailiwickref25_own.f op = some (ownN op) ∧ ((sizeM op).2 = true → ownN op = (sizeM op).1) ∧ ((sizeM op).2 = false → ownN op = -1) ∧ (0 < ownN op ↔ op = 1 ∨ op = 2) := by
  unfold bailiwickref25_own.f ownN sizeM
  by_cases h0 : op = 0
  · subst h0; simp
  · by_cases h1 : op = 1
    · subst h1; simp
    · by_cases h2 : op = 2
      · subst h2; simp
      · simp [h0, h1, h2]
theorem final_eq (b : List Int) (v : Value) (x : Int) (hx : getV b 4 4 = x) :
    ((rd b 1 = 1 ∨ rd b 1 = 2) → ({ partM b (aM b x) with os := v } : AM) = { m3 b (m1 b az) with os := v }) ∧ (rd b 1 = 0 → ({ aM b x with os := v } : AM) = { m3 b (m1 b az) with os := v }) := by
  subst hx
  constructor
  · intro h
    unfold partM m3 m1 midM aM a0M
    rcases h with h | h
    · simp [h]
    · simp [h]
  · intro h
    unfold m3 m1 aM a0M
    simp [h]
def RNo (w : World) (e : Ending) (w' : World) : Prop := e = .returned (.tuple #[az.val, .int .i64 0, .bool false]) ∧ Below w.heap.size w w'
set_option maxHeartbeats 4000000 in
set_option maxRecDepth 100000 in
theorem RRead_no (A : Option Addr) (c : Nat) (b : List Int) (fm : Int) (w : World) (hC : Kd.C (Kd.int .u8) w A b.length b) (h : b.length < 2 ∨ 128 ≤ rd b 1) :
    Calls Try.prog 10 #[.slice A b.length c, .int .u32 fm] w fun e w' => RNo w e w' := by
  have h29 := z29
  have X0 := Aside0.mk (blk_new w (.cells zc29 29))
  have B0 := Aside0.mk (below_alloc (Below.refl w.heap.size w) (.cells zc29 29))
  by_cases hl : (b.length : Int) < 2
  · have hlb := decide_eq_true hl
    clear h
    go_enter Try.func10, Try.ntmps10
    go_wp2_with (refine wp_fill rfl 29 (.tmp 4) (.tmp 25) rfl w.heap.size _ 29 az.cells X0.out rfl rfl (by rw [AM.len az_ok, zc29_size]) (by rw [info29, zc29_size]) (AM.one az_ok) ?_; intro wz hxz hfz; have XZ := Aside0.mk hxz; have FZ := Aside0.mk hfz; clear hxz hfz)
    refine bodyPost_ret (results_ctt rfl _ _ w.heap.size az.cells _ _ _ _ rfl rfl rfl XZ.out (AM.len az_ok)) rfl ⟨rfl, below_fr B0.out B0.out.size FZ.out (fun k hk => by omega)⟩
  · have hlb := decide_eq_false hl
    have h2 : 128 ≤ rd b 1 := by omega
    obtain ⟨ad, e1, c1⟩ := at_one hC 1 (by omega) (by omega)
    subst e1
    have c1' : (w.alloc (.cells zc29 29)).cell? ⟨ad.block, ad.off + 1, none⟩ = some (.int .u8 (rd b 1)) := pw_cell_below B0.out c1
    have hn1 : (0 : Int) ≤ 1 ∧ (1 : Int) < (b.length : Int) := ⟨by omega, by omega⟩
    have hge : rd b 1 ≥ 128 := h2
    have hgb := decide_eq_true hge
    clear h h2 c1 hC
    go_enter Try.func10, Try.ntmps10
    go_wp2_with (refine wp_fill rfl 29 (.tmp 4) (.tmp 25) rfl w.heap.size _ 29 az.cells X0.out rfl rfl (by rw [AM.len az_ok, zc29_size]) (by rw [info29, zc29_size]) (AM.one az_ok) ?_; intro wz hxz hfz; have XZ := Aside0.mk hxz; have FZ := Aside0.mk hfz; clear hxz hfz)
    refine bodyPost_ret (results_ctt rfl _ _ w.heap.size az.cells _ _ _ _ rfl rfl rfl XZ.out (AM.len az_ok)) rfl ⟨rfl, below_fr B0.out B0.out.size FZ.out (fun k hk => by omega)⟩
/-- What stays while the document reads. -/
structure RS (w0 w : World) (A : Option Addr) (b : List Int) (g : Nat) (m : AM) : Prop where
  pb : PB w g m
  ok : m.ok
  res : w.heap[w0.heap.size]? = some (.cells zc29 29 (0, 0))
  c : Kd.C (Kd.int .u8) w A b.length b
  low : Below w0.heap.size w0 w
  ab : ∀ ad, A = some ad → ad.block < w0.heap.size
  hg : w0.heap.size < g
theorem RS.below {w0 w w' : World} {A : Option Addr} {b : List Int} {g : Nat} {m : AM} (h : RS w0 w A b g m) (k : Below w.heap.size w w') : RS w0 w' A b g m :=
  ⟨h.pb.below k, h.ok, blk_below h.res k, Kd.C_below h.c k, below_step h.low k, h.ab, h.hg⟩
theorem RS.put {w0 w w' : World} {ad : Addr} {b : List Int} {g : Nat} {m m' : AM} (h : RS w0 w (some ad) b g m) (k : Fr w w' (fun k => k = g)) (hp : PB w' g m') (hm : m'.ok) : RS w0 w' (some ad) b g m' :=
  ⟨hp, hm, k.blk h.res (by have := h.hg; omega), C_fr h.c k (by have := h.ab ad rfl; have := h.hg; omega), below_fr h.low h.low.size k (fun b hb => by have := h.hg; omega), h.ab, h.hg⟩
theorem RS.os0 {w0 w : World} {A : Option Addr} {b : List Int} {g : Nat} {m : AM} (h : RS w0 w A b g m) (ho : m.os = sN) : RS w0 w A b g { m with os := sN } := by
  obtain ⟨_, _, _, _, _, _, _, _, _, _, _⟩ := m
  simp only at ho
  subst ho
  exact h
set_option maxHeartbeats 8000000 in
set_option maxRecDepth 100000 in
theorem RRead_calls (A : Option Addr) (c : Nat) (b : List Int) (fm : Int) (w : World) (hC : Kd.C (Kd.int .u8) w A b.length b) (hl : 2 ≤ b.length) (hcc : b.length ≤ c) (hB : Byt b) (hb : rd b 1 < 128) :
    Calls Try.prog 10 #[.slice A b.length c, .int .u32 fm] w fun e w' => RdPost w b fm e w' := by
  have h29 := z29
  have X0 := Aside0.mk (blk_new w (.cells zc29 29))
  have B0 := Aside0.mk (below_alloc (Below.refl w.heap.size w) (.cells zc29 29))
  have hlb : decide ((b.length : Int) < 2) = false := decide_eq_false (by omega)
  obtain ⟨ad, e1, c1⟩ := at_one hC 1 (by omega) (by omega)
  subst e1
  have AB0 : Aside0 (∀ ad', some ad = some ad' → ad'.block < w.heap.size) := ⟨fun ad' e => by
    cases e
    have h1 := World.block_lt_of_cell? _ _ c1
    rwa [add_block] at h1⟩
  have hn0 : (0 : Int) ≤ 0 ∧ (0 : Int) < (b.length : Int) := ⟨by omega, by omega⟩
  have hn1 : (0 : Int) ≤ 1 ∧ (1 : Int) < (b.length : Int) := ⟨by omega, by omega⟩
  have hgb : decide (rd b 1 ≥ 128) = false := decide_eq_false (by omega)
  have HB := Aside0.mk hB
  have HL := Aside0.mk (And.intro hl hcc)
  have c0 := at_zero hC (by omega)
  have C0 := Aside0.mk (Kd.C_below hC B0.out)
  have k1 : (w.alloc (.cells zc29 29)).cell? ⟨ad.block, ad.off + 1, none⟩ = some (.int .u8 (rd b 1)) := pw_cell_below B0.out c1
  have k0 : (w.alloc (.cells zc29 29)).cell? ad = some (.int .u8 (rd b 0)) := pw_cell_below B0.out c0
  have hr1 : 0 ≤ rd b 1 ∧ rd b 1 ≤ 255 := hB.rd 1
  have HR1 := Aside0.mk hr1
  clear c1 c0 hC hl hcc hB hb hr1
  go_enter Try.func10, Try.ntmps10
  go_upto_region 3 with fail
  generalize w.alloc (.cells zc29 29) = w1 at *
  by_cases hv : rd b 0 = 2
  · have hvb : (rd b 0 != 2) = false := by simpa using hv
    by_cases hbad : b.length < 24 ∨ 1100 < b.length ∨ ¬ b.length % 4 = 0
    · have HRC : Aside0 (readC b fm = 3) := ⟨by
        have hh : headC b = 3 := by unfold headC; rw [if_neg (by simpa using hv), if_pos hbad]
        unfold readC
        rw [hh, if_pos (by decide)]⟩
      by_cases h24 : (b.length : Int) < 24
      · have hlb4 := decide_eq_true h24
        clear hbad hv
        go_wp2_with (refine wp_fill rfl 29 (.tmp 4) (.tmp 45) rfl w.heap.size _ 29 az.cells X0.out rfl rfl (by rw [AM.len az_ok, zc29_size]) (by rw [info29, zc29_size]) (AM.one az_ok) ?_; intro wz hxz hfz; have XZ := Aside0.mk hxz; have FZ := Aside0.mk hfz; clear hxz hfz)
        refine bodyPost_ret (results_ctt rfl _ _ w.heap.size az.cells _ _ _ _ rfl rfl rfl XZ.out (AM.len az_ok)) rfl (rd_bad _ HRC.out (by first | decide | exact HNZ.out) (below_fr B0.out B0.out.size FZ.out (fun k hk => by omega)))
      · have hlb4 := decide_eq_false h24
        by_cases h11 : (b.length : Int) > 1100
        · have hgb4 := decide_eq_true h11
          clear hbad hv
          go_wp2_with (refine wp_fill rfl 29 (.tmp 4) (.tmp 45) rfl w.heap.size _ 29 az.cells X0.out rfl rfl (by rw [AM.len az_ok, zc29_size]) (by rw [info29, zc29_size]) (AM.one az_ok) ?_; intro wz hxz hfz; have XZ := Aside0.mk hxz; have FZ := Aside0.mk hfz; clear hxz hfz)
          refine bodyPost_ret (results_ctt rfl _ _ w.heap.size az.cells _ _ _ _ rfl rfl rfl XZ.out (AM.len az_ok)) rfl (rd_bad _ HRC.out (by first | decide | exact HNZ.out) (below_fr B0.out B0.out.size FZ.out (fun k hk => by omega)))
        · have hgb4 := decide_eq_false h11
          have hrem : ¬ ((b.length : Int)) % 4 = 0 := by omega
          have hrt : (((b.length : Int)) % 4 != 0) = true := by simpa using hrem
          clear hbad hv
          go_wp2_with (refine wp_fill rfl 29 (.tmp 4) (.tmp 45) rfl w.heap.size _ 29 az.cells X0.out rfl rfl (by rw [AM.len az_ok, zc29_size]) (by rw [info29, zc29_size]) (AM.one az_ok) ?_; intro wz hxz hfz; have XZ := Aside0.mk hxz; have FZ := Aside0.mk hfz; clear hxz hfz)
          refine bodyPost_ret (results_ctt rfl _ _ w.heap.size az.cells _ _ _ _ rfl rfl rfl XZ.out (AM.len az_ok)) rfl (rd_bad _ HRC.out (by first | decide | exact HNZ.out) (below_fr B0.out B0.out.size FZ.out (fun k hk => by omega)))
    · have HH0 : Aside0 (headC b = 0) := ⟨by unfold headC; rw [if_neg (by simpa using hv), if_neg hbad]⟩
      have hlb4 : decide ((b.length : Int) < 24) = false := decide_eq_false (by omega)
      have hgb4 : decide ((b.length : Int) > 1100) = false := decide_eq_false (by omega)
      have hrm : ((b.length : Int)) % 4 = 0 := by omega
      have HN : Aside0 (24 ≤ b.length ∧ b.length ≤ 1100 ∧ b.length % 4 = 0) := ⟨by omega⟩
      clear hbad
      go_upto_region 7 with fail
      clear hlb4 hgb4 hrm hvb hlb hgb hn0 k0 hv
      have L8 := Aside0.mk (cut2_len b 8 16 (by have := HN.out; omega))
      have hwr : wrap64 (rd b 1) = rd b 1 := wrap_id _ (by have := HR1.out; omega)
      refine start_ (n := 9) (S := fun w' => w'.cell? ⟨ad.block, ad.off + 1, none⟩ = some (.int .u8 (rd b 1))) (ds := [8]) #[false, false, false, false, false, false, false, false, false] (by kernel_rfl) rfl rfl (k1) (fun hHeld => ?_)
      refine pure_ (i := 0) (N := some 46) (v := ?_) (a' := ?_) #[true, false, false, false, false, false, false, false, false] rfl rfl (by kernel_rfl) (fun _ _ _ h => h) (Or.inl ⟨by rfl, ?_⟩) ?_ ?_
      rotate_left
      · intro w'
        go_simp
        with_reducible rfl
      rotate_left
      · simp only [Act.put, List.setIfInBounds_toArray, List.set_cons_zero, List.set_cons_succ, i64_w, i32_w]
        rfl
      refine pure_ (i := 1) (N := some 47) (v := ?_) (a' := ?_) #[true, true, false, false, false, false, false, false, false] rfl rfl (by kernel_rfl) (fun _ _ _ h => h) (Or.inl ⟨by rfl, ?_⟩) ?_ ?_
      rotate_left
      · intro w'
        go_simp
        with_reducible rfl
      rotate_left
      · simp only [Act.put, List.setIfInBounds_toArray, List.set_cons_zero, List.set_cons_succ, i64_w, i32_w]
        rfl
      refine pure_ (i := 4) (N := some 50) (v := ?_) (a' := ?_) #[true, true, false, false, true, false, false, false, false] rfl rfl (by kernel_rfl) (fun _ _ _ h => h) (Or.inl ⟨by rfl, ?_⟩) ?_ ?_
      rotate_left
      · intro w'
        go_simp
        with_reducible rfl
      rotate_left
      · simp only [Act.put, List.setIfInBounds_toArray, List.set_cons_zero, List.set_cons_succ, i64_w, i32_w]
        rfl
      refine take_ (i := 2) (N := some 48) (v := ?_) (a' := ?_) #[true, true, true, false, true, false, false, false, false] rfl rfl (by kernel_rfl) (fun _ _ _ h => h) (Or.inl ⟨by rfl, ?_⟩) hHeld ?_ ?_
      rotate_left
      · intro w' s0
        go_simp
        with_reducible rfl
      rotate_left
      · simp only [Act.put, List.setIfInBounds_toArray, List.set_cons_zero, List.set_cons_succ, i64_w, i32_w]
        rfl
      refine pure_ (i := 3) (N := some 49) (v := ?_) (a' := ?_) #[true, true, true, true, true, false, false, false, false] rfl rfl (by kernel_rfl) (fun _ _ _ h => h) (Or.inl ⟨by rfl, ?_⟩) ?_ ?_
      rotate_left
      · intro w'
        go_simp
        with_reducible rfl
      rotate_left
      · simp only [Act.put, List.setIfInBounds_toArray, List.set_cons_zero, List.set_cons_succ, i64_w, i32_w]
        rfl
      refine join_ (σ := Nat) 1 #[true, true, true, true, true, true, true, true, false] (fun s => [(51, arr (cut2 b 8 16)), (7, .pointer (some ⟨s, 0, none⟩)), (52, .agg (AM.cells (a0M b)).toArray)]) (fun s w' => (w'.cell? ⟨ad.block, ad.off + 1, none⟩ = some (.int .u8 (rd b 1))) ∧ w'.heap[s]? = some (.cells zc29 29 (0, 0)) ∧ w1.heap.size ≤ s ∧ Below w1.heap.size w1 w') ?_ ?_
      rotate_left
      · intro hCont
        refine two_ (i := 5) (j := 7) (Ni := some 51) (Nj := some 7) #[true, true, true, true, true, true, false, false, false] #[true, true, true, true, true, false, false, true, false] rfl rfl rfl rfl (by kernel_rfl) (by decide) (by decide) (fun K hK => ?_) (fun K hK => ?_)
        · skip
          refine goes_ Try.func26 (by kernel_rfl) rfl #[.slice (some ad) b.length c, .int .i64 8] (by rfl) rfl rfl (by simp only [List.map_toArray, List.map_cons, List.map_nil]; rfl) ?_
          with_reducible refine (address8_calls (some ad) c b _ (Kd.C_below C0.out (Below.refl _ _).drew) HL.out.2 (by have := HN.out; omega) (by have := HN.out; omega)).mono ?_
          rintro e w8 ⟨rfl, hb8⟩
          refine ⟨_, rfl, ?_⟩
          have K8 : Below w1.heap.size w1 w8 := below_step (Below.refl _ _).drew hb8
          refine hK.out _ _ ((pw_cell_below K8 k1)) (fun hHeld => ?_)
          clear hK K
          refine norm_ (a' := ?_) ?_ ?_
          rotate_left
          · show Act.put _ (some 51) _ = _
            simp only [Act.put, List.setIfInBounds_toArray, List.set_cons_zero, List.set_cons_succ, i64_w, i32_w]
            rfl
          refine pure_ (i := 6) (N := some 52) (v := (.agg (AM.cells (a0M b)).toArray)) (a' := ?aa_1) #[true, true, true, true, true, true, true, false, false] rfl rfl (by kernel_rfl) (fun _ _ _ h => h) ?hy_1 ?ha_1 ?h_1
          case hy_1 => exact Or.inl ⟨by rfl, fun w' => exec_b29 w' (rd b 1) (cut2 b 8 16) L8.out (.tmp 49) (.tmp 51) rfl (by first | rfl | (show Value.int .i64 (wrap64 (rd b 1)) = _; rw [hwr])) rfl⟩
          case ha_1 => simp only [Act.put, List.setIfInBounds_toArray, List.set_cons_zero, List.set_cons_succ, i64_w, i32_w]; rfl
          refine one_ (i := 7) (N := some 7) #[true, true, true, true, true, true, true, true, false] rfl rfl (by kernel_rfl) (by decide) (fun K hK => ?_)
          refine value_ (w1 := ?_) (v := ?_) (by rfl) rfl ?_ ?_
          rotate_left 2
          · go_simp
            constructor
            · rfl
            · rfl
          refine hK.out _ _ ((cell_alloc_old (pw_cell_below K8 k1) _)) (fun hHeld => ?_)
          clear hK K
          refine norm_ (a' := ?_) ?_ ?_
          rotate_left
          · show Act.put _ (some 7) _ = _
            simp only [Act.put, List.setIfInBounds_toArray, List.set_cons_zero, List.set_cons_succ, i64_w, i32_w]
            rfl
          exact norm_ (by simp only [putAll, Act.put, List.setIfInBounds_toArray, List.set_cons_zero, List.set_cons_succ]) (hCont w8.heap.size _ ⟨hHeld, blk_new w8 _, K8.size, Below.alloc K8 K8.size _⟩)
        · skip
          refine value_ (w1 := ?_) (v := ?_) (by rfl) rfl ?_ ?_
          rotate_left 2
          · go_simp
            constructor
            · rfl
            · rfl
          refine hK.out _ _ ((cell_alloc_old (w := w1.drew) k1 _)) (fun hHeld => ?_)
          clear hK K
          refine norm_ (a' := ?_) ?_ ?_
          rotate_left
          · show Act.put _ (some 7) _ = _
            simp only [Act.put, List.setIfInBounds_toArray, List.set_cons_zero, List.set_cons_succ, i64_w, i32_w]
            rfl
          refine one_ (i := 5) (N := some 51) #[true, true, true, true, true, true, false, true, false] rfl rfl (by kernel_rfl) (by decide) (fun K hK => ?_)
          refine goes_ Try.func26 (by kernel_rfl) rfl #[.slice (some ad) b.length c, .int .i64 8] (by rfl) rfl rfl (by simp only [List.map_toArray, List.map_cons, List.map_nil]; rfl) ?_
          with_reducible refine (address8_calls (some ad) c b _ (Kd.C_below C0.out (below_alloc (Below.refl _ _) (.cells zc29 29)).drew) HL.out.2 (by have := HN.out; omega) (by have := HN.out; omega)).mono ?_
          rintro e w8 ⟨rfl, hb8⟩
          refine ⟨_, rfl, ?_⟩
          have K8 : Below w1.heap.size w1 w8 := below_step (below_alloc (Below.refl _ _) (.cells zc29 29)).drew hb8
          have KX8 := blk_below (blk_drew (blk_new w1 (.cells zc29 29))) hb8
          refine hK.out _ _ ((pw_cell_below K8 k1)) (fun hHeld => ?_)
          clear hK K
          refine norm_ (a' := ?_) ?_ ?_
          rotate_left
          · show Act.put _ (some 51) _ = _
            simp only [Act.put, List.setIfInBounds_toArray, List.set_cons_zero, List.set_cons_succ, i64_w, i32_w]
            rfl
          refine pure_ (i := 6) (N := some 52) (v := (.agg (AM.cells (a0M b)).toArray)) (a' := ?aa_2) #[true, true, true, true, true, true, true, true, false] rfl rfl (by kernel_rfl) (fun _ _ _ h => h) ?hy_2 ?ha_2 ?h_2
          case hy_2 => exact Or.inl ⟨by rfl, fun w' => exec_b29 w' (rd b 1) (cut2 b 8 16) L8.out (.tmp 49) (.tmp 51) rfl (by first | rfl | (show Value.int .i64 (wrap64 (rd b 1)) = _; rw [hwr])) rfl⟩
          case ha_2 => simp only [Act.put, List.setIfInBounds_toArray, List.set_cons_zero, List.set_cons_succ, i64_w, i32_w]; rfl
          exact norm_ (by simp only [putAll, Act.put, List.setIfInBounds_toArray, List.set_cons_zero, List.set_cons_succ]) (hCont w1.heap.size _ ⟨hHeld, KX8, Nat.le_refl _, K8⟩)
      rintro g9 w8 ⟨hH, h91, h92, h93⟩
      have hHeld : w8.cell? ⟨ad.block, ad.off + 1, none⟩ = some (.int .u8 (rd b 1)) := hH
      have X9 := Aside0.mk h91
      have G9 := Aside0.mk h92
      have B8 := Aside0.mk h93
      clear h91 h92 h93 hH
      refine norm_ (a' := ?_) ?_ ?_
      rotate_left
      · simp only [putAll, Act.put, List.setIfInBounds_toArray, List.set_cons_zero, List.set_cons_succ]
        rfl
      refine last_ (i := 8) (N := none) #[true, true, true, true, true, true, true, true, true] rfl rfl (by kernel_rfl) (by decide) (fun K hK => ?_)
      refine fill_ (by rfl) rfl 29 (.tmp 7) (.tmp 52) rfl g9 _ 29 (AM.cells (a0M b)) X9.out rfl rfl (by rw [AM.len ⟨L8.out, rfl, rfl, rfl, rfl⟩, zc29_size]) (by rw [info29, zc29_size]) (AM.one ⟨L8.out, rfl, rfl, rfl, rfl⟩) ?_
      intro w9 hx9 hf9
      have HX9 : Aside0 (PB w9 g9 (a0M b)) := ⟨hx9⟩
      have HF9 := Aside0.mk hf9
      clear hx9 hf9
      refine hK.out _ _ ?_
      clear hK K
      refine done_ (by kernel_rfl) ?_
      clear hwr hn1 k1
      have hf8' : Fr w8 w9 (fun k => k = g9) := HF9.out
      have S1 : Aside0 (RS w w9 (some ad) b g9 (a0M b)) := ⟨HX9.out, ⟨L8.out, rfl, rfl, rfl, rfl⟩, HF9.out.blk (blk_below X0.out B8.out) (by have := G9.out; have := blk_lt X0.out; omega), C_fr (Kd.C_below C0.out B8.out) HF9.out (by have := AB0.out ad rfl; have := G9.out; have := blk_lt X0.out; omega), below_fr (below_step B0.out B8.out) (below_step B0.out B8.out).size HF9.out (fun k hk => by have := G9.out; have := blk_lt X0.out; omega), AB0.out, by have := G9.out; have := blk_lt X0.out; omega⟩
      clear hf8' HX9 HF9 X9 B8 G9 B0 X0 C0
      have HVB := getV_bound b HB.out 4 4 (by decide)
      have BY : Aside0 (Byt (cut2 b 8 16)) := ⟨(HB.out.drop 8).take 16⟩
      go_wp2_with fail
      refine (bailiwickref1_Get.calls 10 (some ad) c b 4 4 (getV b 4 4) true w9 S1.out.c HL.out.2 (rget_f b HB.out (by have := HN.out; omega) (by have := HN.out; omega))).mono ?_
      rintro e w10 ⟨rfl, hd10⟩
      have S2 := Aside0.mk (S1.out.below hd10.below)
      clear hd10 S1
      obtain ⟨x, hx⟩ : ∃ x, getV b 4 4 = x := ⟨_, rfl⟩
      have HX := Aside0.mk hx
      rw [hx] at HVB ⊢
      have hw32 := wrap_u32 x HVB
      obtain ⟨x1, kx1⟩ := S2.out.pb.some_ S2.out.ok 1 (by decide)
      have f1 := S2.out.pb.fz 1
      have S3 : Aside0 (RS w (w10.setCell ⟨g9, 1, none⟩ (.int .u32 x)) (some ad) b g9 (aM b x)) := ⟨S2.out.put (set_fr _ _ _ _) (S2.out.pb.life_ x) ⟨L8.out, rfl, rfl, rfl, rfl⟩⟩
      clear hx S2
      go_upto_region 10 with fail
      clear kx1 f1 hw32 HVB
      show Code.wp _ _ _ _ (w10.setCell ⟨g9, 1, none⟩ (.int .u32 x))
      generalize w10.setCell ⟨g9, 1, none⟩ (.int .u32 x) = w11 at *
      have GC : Aside0 (w11.rangeAt g9 2 (e8 (cut2 b 8 16))) := ⟨range3 (p := [Value.int .i64 (rd b 1), Value.int .u32 x]) (x := e8 (cut2 b 8 16)) (q := qCl (aM b x)) S3.out.pb 2 rfl⟩
      go_wp2_with (refine wpList_load_mid rfl 25 (.tmp 62) rfl g9 2 rfl (e8 (cut2 b 8 16)) _ GC.out Try.underlying25 rfl (by rw [encs_length, L8.out]; exact info25) ?_)
      refine (RMapped_calls (cut2 b 8 16) L8.out BY.out _).mono ?_
      rintro e w12 ⟨rfl, hb12⟩
      have S4 := Aside0.mk (S3.out.below hb12)
      clear hb12 S3 GC
      by_cases hcl : mapB (cut2 b 8 16) = true ∧ mapV (cut2 b 8 16) = fm
      · rw [hcl.1, hcl.2]
        have HCL := Aside0.mk hcl
        clear hcl
        have kop : w12.cell? ⟨g9, 0, none⟩ = some (.int .i64 (rd b 1)) := S4.out.pb.kop
        have HOW := Aside0.mk (ownN_eq (rd b 1))
        go_wp2_with fail
        refine (bailiwickref25_own.calls (rd b 1) (ownN (rd b 1)) w12 HOW.out.1).mono ?_
        rintro e w13 ⟨rfl, hd13⟩
        have S5 := Aside0.mk (S4.out.below hd13.below)
        clear hd13 S4 kop
        by_cases hs : (sizeM (rd b 1)).2 = true
        · have HS := Aside0.mk hs
          have hle := sizeM_le (rd b 1)
          obtain ⟨zn, hzn⟩ : ∃ zn : Nat, (sizeM (rd b 1)).1 = (zn : Int) := ⟨(sizeM (rd b 1)).1.toNat, by omega⟩
          have HZN := Aside0.mk hzn
          rw [HOW.out.2.1 hs, hzn]
          have hz56 : (0 : Int) ≤ (zn : Int) ∧ (zn : Int) ≤ 56 := by omega
          have HZ4 : Aside0 ((24 + zn) % 4 = 0) := ⟨by
            unfold sizeM at hzn
            by_cases h0 : rd b 1 = 0
            · rw [if_pos h0] at hzn; simp at hzn; omega
            · rw [if_neg h0] at hzn
              by_cases h1 : rd b 1 = 1
              · rw [if_pos h1] at hzn; simp at hzn; omega
              · rw [if_neg h1] at hzn
                by_cases h2 : rd b 1 = 2
                · rw [if_pos h2] at hzn; simp at hzn; omega
                · rw [if_neg h2] at hzn; simp at hzn; omega⟩
          clear hs hle hzn
          by_cases hn : (b.length : Int) < 24 + (zn : Int)
          · have hnb := decide_eq_true hn
            have HRC : Aside0 (readC b fm = 3) := ⟨by unfold readC; rw [if_neg (by simpa using HH0.out), if_neg (by simpa using HCL.out), if_neg (by simp [HS.out]), if_pos (by rw [HZN.out]; exact hn)]⟩
            clear hn
            go_wp2_with (refine wp_fill rfl 29 (.tmp 4) (.tmp 86) rfl w.heap.size _ 29 az.cells S5.out.res rfl rfl (by rw [AM.len az_ok, zc29_size]) (by rw [info29, zc29_size]) (AM.one az_ok) ?_; intro wz hxz hfz; have XZ := Aside0.mk hxz; have FZ := Aside0.mk hfz; clear hxz hfz)
            refine bodyPost_ret (results_ctt rfl _ _ w.heap.size az.cells _ _ _ _ rfl rfl rfl XZ.out (AM.len az_ok)) rfl (rd_bad _ HRC.out (by first | decide | exact HNZ.out) (below_fr S5.out.low S5.out.low.size FZ.out (fun k hk => by omega)))
          · have hnb := decide_eq_false hn
            have HNN : Aside0 (¬ (b.length : Int) < 24 + (sizeM (rd b 1)).1 ∧ 24 + zn ≤ b.length) := ⟨by rw [HZN.out]; exact hn, by omega⟩
            clear hn
            go_wp2_with fail
            rw [show (24 : Int) + (zn : Int) = ((24 + zn : Nat) : Int) by omega]
            obtain ⟨R, hR⟩ : ∃ R, cutM (b.length + 1) b (24 + zn) [] = R := ⟨_, rfl⟩
            have HCUT : Aside0 (cutM (b.length + 1) b (24 + (sizeM (rd b 1)).1.toNat) [] = R) := ⟨by rw [HZN.out]; exact hR⟩
            have HOUT : Aside0 (readC b fm = outR (rd b 1) R) := ⟨by unfold readC; rw [if_neg (by simpa using HH0.out), if_neg (by simpa using HCL.out), if_neg (by simp [HS.out]), if_neg (by have := HNN.out.1; omega)]; unfold outO; rw [HCUT.out]⟩
            refine (bailiwickref25_cut.calls 2400 (some ad) c b ((24 + zn : Nat) : Int) (cutR R).1 (cutR R).2 w13 S5.out.c HL.out.2 (by rw [rcut_f b HB.out HN.out.2.1 HN.out.2.2 (24 + zn) HZ4.out HNN.out.2, hR])).mono ?_
            rintro e w14 ⟨vL, rfl, hsL, hb14⟩
            have S6 := Aside0.mk (S5.out.below hb14)
            cases R with
            | none =>
              have HRC : Aside0 (readC b fm = 6) := ⟨HOUT.out⟩
              clear hR hsL hb14 S5 hz56
              go_wp2_with (refine wp_fill rfl 29 (.tmp 4) (.tmp 96) rfl w.heap.size _ 29 az.cells S6.out.res rfl rfl (by rw [AM.len az_ok, zc29_size]) (by rw [info29, zc29_size]) (AM.one az_ok) ?_; intro wz hxz hfz; have XZ := Aside0.mk hxz; have FZ := Aside0.mk hfz; clear hxz hfz)
              refine bodyPost_ret (results_ctt rfl _ _ w.heap.size az.cells _ _ _ _ rfl rfl rfl XZ.out (AM.len az_ok)) rfl (rd_bad _ HRC.out (by first | decide | exact HNZ.out) (below_fr S6.out.low S6.out.low.size FZ.out (fun k hk => by omega)))
            | some L =>
              have HLL : Aside0 (L.length ≤ 1100) := ⟨by
                have h1 := cutM_len b _ _ _ _ hR HNN.out.2
                have h2 := HN.out.2.1
                simp at h1
                omega⟩
              have RL0 : Aside0 (k45.R 45 w14 w.heap.size (fun k => k < w14.heap.size) vL L) := ⟨Kd.R_mono (Kd.R_bound (Kd.R_lower (Kd.S_R hsL) S5.out.low.size)) (fun k hk => hk.2.2.1)⟩
              obtain ⟨AL, cL, rfl⟩ := Kd.R_slice RL0.out
              have CL0 := Aside0.mk (Kd.R_reads' RL0.out)
              clear hR hsL hb14 S5
              have kop : w14.cell? ⟨g9, 0, none⟩ = some (.int .i64 (rd b 1)) := S6.out.pb.kop
              go_wp2_with fail
              refine (bailiwickref25_wrong.calls 2400 (rd b 1) AL cL L (wrM (rd b 1) (fun _ => 0) L) w14 CL0.out.2.2 CL0.out.2.1 (rwrong_f (rd b 1) L (by have := HLL.out; omega))).mono ?_
              rintro e w15 ⟨rfl, hb15⟩
              have S7 := Aside0.mk (S6.out.below hb15)
              have RL1 := Aside0.mk (Kd.R_mono (Kd.R_below RL0.out hb15) (fun k (hk : k < w14.heap.size) => (show k < w15.heap.size from Nat.lt_of_lt_of_le hk hb15.size)))
              clear hb15 S6 RL0 CL0 kop
              obtain ⟨xw, hxw⟩ : ∃ xw, wrM (rd b 1) (fun _ => 0) L = xw := ⟨_, rfl⟩
              have HRW : Aside0 (readC b fm = xw) := ⟨HOUT.out.trans hxw⟩
              rw [hxw]
              clear hxw
              by_cases hx0 : xw = 0
              · subst hx0
                by_cases hpos : zn = 0
                · have hpz : rd b 1 = 0 := by
                    have h1 := HOW.out.2.1 HS.out
                    have h2 := HOW.out.2.2.2
                    rw [h1, HZN.out, hpos] at h2
                    by_cases h0 : rd b 1 = 0
                    · exact h0
                    · exfalso
                      have h3 := HS.out
                      unfold sizeM at h3
                      rw [if_neg h0] at h3
                      by_cases h4 : rd b 1 = 1
                      · have := h2.2 (.inl h4); omega
                      · rw [if_neg h4] at h3
                        by_cases h5 : rd b 1 = 2
                        · have := h2.2 (.inr h5); omega
                        · rw [if_neg h5] at h3; cases h3
                  have FE : Aside0 (∀ v, ({ aM b x with os := v } : AM) = { m3 b (m1 b az) with os := v }) := ⟨fun v => (final_eq b v x HX.out).2 hpz⟩
                  have S8 : Aside0 (RS w w15 (some ad) b g9 (aM b x)) := S7
                  subst hpos
                  clear hpz S7 hz56
                  go_upto_region 27 with fail
                  have RO0 : Aside0 (k45.R 45 w15 w.heap.size (fun _ => True) sN (keepL (L.take 0))) := ⟨Kd.R_nil _ _ _ _ _⟩
                  have GG : Aside0 (g9 < w15.heap.size ∧ (S8 = S8)) := ⟨blk_lt S8.out.pb, rfl⟩
                  have OSN : Aside0 (((aM b x)).os = sN) := ⟨rfl⟩
                  have RR0 : Aside0 (RS w w15 (some ad) b g9 { (aM b x) with os := sN }) := ⟨RS.os0 S8.out OSN.out⟩
                  go_loopg [15] L.length (fun q v15 wr => ∃ (i : Nat) (v : Value), v15 = .int .i64 (i : Int) ∧ Aside0 (i + q = L.length) ∧ Aside0 (RS w wr (some ad) b g9 { (aM b x) with os := v }) ∧ Aside0 (k45.R 45 wr w.heap.size (fun _ => True) v (keepL (L.take i))) ∧ Aside0 (∀ k, v.ownBlock = some k → w15.heap.size ≤ k) ∧ Aside0 (Fr w15 wr (fun k => k = g9)))
                  case atStart => exact ⟨0, sN, rfl, ⟨by omega⟩, RR0, RO0, ⟨fun k hk => by simp [Value.ownBlock] at hk⟩, ⟨Fr.refl _ _⟩⟩
                  case round =>
                    clear RR0 RO0
                    obtain ⟨i, v, rfl, Hi, RR, RO, OB, FF⟩ := hrel
                    cases gk with
                    | zero =>
                      have hlt : ¬ ((i : Int) < (L.length : Int)) := by have := Hi.out; omega
                      have hlb := decide_eq_false hlt
                      have HF : Aside0 (keepL (L.take i) = keepL L) := ⟨by rw [List.take_of_length_le (by have := Hi.out; omega)]⟩
                      have GR := Aside0.mk (range_blk (cs := AM.cells { (aM b x) with os := v }) RR.out.pb)
                      have LNE := Aside0.mk (AM.len RR.out.ok)
                      go_wp2_with (first
                        | (refine wpList_load_mid rfl 29 (.tmp 7) rfl g9 0 rfl (AM.cells { (aM b x) with os := v }) _ GR.out Try.underlying29 rfl (by rw [LNE.out]; exact info29) ?_)
                        | (refine wp_fill rfl 29 (.tmp 4) (.tmp 131) rfl w.heap.size _ 29 (AM.cells { (aM b x) with os := v }) RR.out.res rfl rfl (by rw [LNE.out, zc29_size]) (by rw [info29, zc29_size]) (AM.one RR.out.ok) ?_; intro wz hxz hfz; have XZ := Aside0.mk hxz; have FZ := Aside0.mk hfz; clear hxz hfz))
                      refine bodyPost_ret (results_ctt rfl _ _ w.heap.size (AM.cells { (aM b x) with os := v }) _ _ _ _ rfl rfl rfl XZ.out LNE.out) rfl (.inr ⟨HRW.out, L, v, HCUT.out, by rw [← FE.out v]; rfl, ?_, ?_⟩)
                      · rw [← HF.out]; exact R_frT RO.out FZ.out (fun k hk _ => by subst hk; exact ⟨_, _, RR.out.res, ty29⟩)
                      · exact below_fr RR.out.low RR.out.low.size FZ.out (fun k hk => by omega)
                    | succ q =>
                      have hlt : (i : Int) < (L.length : Int) := by have := Hi.out; omega
                      have hlb := decide_eq_true hlt
                      have hi0 : (0 : Int) ≤ i ∧ (i : Int) < (L.length : Int) := ⟨by omega, hlt⟩
                      have RLr := Aside0.mk (R_frT RL1.out FF.out (fun k hk _ => by subst hk; exact ⟨_, _, S8.out.pb, ty29⟩))
                      have hCL := (Kd.R_reads' RLr.out).2.2
                      obtain ⟨adL, A1, c1, e1, ka, kb, lb, cb⟩ := at_T45 hCL (i : Int) (by omega) hlt
                      subst e1
                      have HDR : Aside0 (L.take (i + 1) = L.take i ++ [rd_T45 L i]) := ⟨take_rd45 L i (by omega)⟩
                      have HDA : Aside0 ((Kd.int .u8).R 5 wr w.heap.size (fun k => k < w15.heap.size) (.slice A1 (rd_T45 L i).f1.length c1) (rd_T45 L i).f1) := ⟨by
                        obtain ⟨cc, _, hM, hcc⟩ := Kd.R_get RLr.out z45 (i : Int) (by omega) hlt
                        obtain ⟨v1, rfl, hv1⟩ := k45_openM hM
                        have e2 := hcc 1 v1 rfl
                        rw [show (i : Int).toNat * k45.sz + 1 = (i : Int).toNat * 2 + 1 from rfl, add_field _ _ 1 (by decide), kb] at e2
                        have e4 := Option.some.inj e2
                        subst e4
                        exact Kd.R_mono hv1 (fun _ hk => hk.1)⟩
                      obtain ⟨o, hoo⟩ : ∃ o, rd_T45 L i = o := ⟨_, rfl⟩
                      rw [hoo] at ka kb lb cb HDR HDA
                      rw [Int.toNat_natCast] at ka kb
                      clear hoo hCL
                      obtain ⟨xf, hxf⟩ : ∃ x, o.f0 = x := ⟨_, rfl⟩
                      have HXF := Aside0.mk hxf
                      rw [hxf] at ka
                      have hil : (i : Int) ≤ 1100 := by have h1 := Hi.out; have h2 := HLL.out; omega
                      clear hxf cb lb
                      by_cases h128 : xf < 128
                      · have h128b := decide_eq_true h128
                        go_upto_region 30 with fail
                        have kos : wr.cell? ⟨g9, 66, none⟩ = some v := RR.out.pb.kos RR.out.ok
                        have HKL : Aside0 (((keepL (L.take i)).length + 1) * 32 ≤ 140737488355328) := ⟨by
                          have h1 : (keepL (L.take i)).length ≤ (L.take i).length := List.length_filter_le _ _
                          rw [List.length_take] at h1
                          have h2 := HLL.out
                          omega⟩
                        refine start_ (n := 10) (S := fun w' => w'.cell? ⟨g9, 66, none⟩ = some v ∧ w'.cell? (adL.add (i * 2)) = some (.int .i64 xf) ∧ w'.cell? ⟨(adL.add (i * 2)).block, (adL.add (i * 2)).off + 1, none⟩ = some (.slice A1 o.f1.length c1)) (ds := [7, 9]) #[false, false, false, false, false, false, false, false, false, false] (by kernel_rfl) rfl rfl ⟨kos, ka, kb⟩ (fun hHeld => ?_)
                        refine pure_ (i := 0) (N := some 122) (v := ?_) (a' := ?_) #[true, false, false, false, false, false, false, false, false, false] rfl rfl (by kernel_rfl) (fun _ _ _ h => h) (Or.inl ⟨by rfl, ?_⟩) ?_ ?_
                        rotate_left
                        · intro w'
                          go_simp
                          with_reducible rfl
                        rotate_left
                        · simp only [Act.put, List.setIfInBounds_toArray, List.set_cons_zero, List.set_cons_succ, i64_w, i32_w]
                          rfl
                        refine pure_ (i := 2) (N := some 124) (v := ?_) (a' := ?_) #[true, false, true, false, false, false, false, false, false, false] rfl rfl (by kernel_rfl) (fun _ _ _ h => h) (Or.inl ⟨by rfl, ?_⟩) ?_ ?_
                        rotate_left
                        · intro w'
                          go_simp
                          with_reducible rfl
                        rotate_left
                        · simp only [Act.put, List.setIfInBounds_toArray, List.set_cons_zero, List.set_cons_succ, i64_w, i32_w]
                          rfl
                        refine pure_ (i := 3) (N := some 125) (v := ?_) (a' := ?_) #[true, false, true, true, false, false, false, false, false, false] rfl rfl (by kernel_rfl) (fun _ _ _ h => h) (Or.inl ⟨by rfl, ?_⟩) ?_ ?_
                        rotate_left
                        · intro w'
                          go_simp
                          with_reducible rfl
                        rotate_left
                        · simp only [Act.put, List.setIfInBounds_toArray, List.set_cons_zero, List.set_cons_succ, i64_w, i32_w]
                          rfl
                        refine pure_ (i := 4) (N := some 126) (v := ?_) (a' := ?_) #[true, false, true, true, true, false, false, false, false, false] rfl rfl (by kernel_rfl) (fun _ _ _ h => h) (Or.inl ⟨by rfl, ?_⟩) ?_ ?_
                        rotate_left
                        · intro w'
                          go_simp
                          with_reducible rfl
                        rotate_left
                        · simp only [Act.put, List.setIfInBounds_toArray, List.set_cons_zero, List.set_cons_succ, i64_w, i32_w]
                          rfl
                        refine take_ (i := 1) (N := some 123) (v := ?_) (a' := ?_) #[true, true, true, true, true, false, false, false, false, false] rfl rfl (by kernel_rfl) (fun _ _ _ h => h) (Or.inl ⟨by rfl, ?_⟩) hHeld ?_ ?_
                        rotate_left
                        · rintro w' ⟨s0, s1, s2⟩
                          go_simp
                          with_reducible rfl
                        rotate_left
                        · simp only [Act.put, List.setIfInBounds_toArray, List.set_cons_zero, List.set_cons_succ, i64_w, i32_w]
                          rfl
                        refine take_ (i := 5) (N := some 127) (v := ?_) (a' := ?_) #[true, true, true, true, true, true, false, false, false, false] rfl rfl (by kernel_rfl) (fun _ _ _ h => h) (Or.inl ⟨by rfl, ?_⟩) hHeld ?_ ?_
                        rotate_left
                        · rintro w' ⟨s0, s1, s2⟩
                          go_simp
                          with_reducible rfl
                        rotate_left
                        · simp only [Act.put, List.setIfInBounds_toArray, List.set_cons_zero, List.set_cons_succ, i64_w, i32_w]
                          rfl
                        refine one_ (i := 6) (N := some 128) #[true, true, true, true, true, true, true, false, false, false] rfl rfl (by kernel_rfl) (by decide) (fun K hK => ?_)
                        refine value_ (w1 := ?_) (v := ?_) (by rfl) rfl ?_ ?_
                        rotate_left 2
                        · go_simp
                          constructor
                          · rfl
                          · rfl
                        refine hK.out _ _ ⟨(cell_alloc_old (w := wr.drew) kos _), (cell_alloc_old (w := wr.drew) ka _), (cell_alloc_old (w := wr.drew) kb _)⟩ (fun hHeld => ?_)
                        clear hK K
                        refine norm_ (a' := ?_) ?_ ?_
                        rotate_left
                        · show Act.put _ (some 128) _ = _
                          simp only [Act.put, List.setIfInBounds_toArray, List.set_cons_zero, List.set_cons_succ, i64_w, i32_w]
                          rfl
                        refine last_ (i := 7) (N := some 129) #[true, true, true, true, true, true, true, true, false, false] rfl rfl (by kernel_rfl) (by decide) (fun K hK => ?_)
                        refine Kd.R_append_step k45 (w0 := wr.drew) w.heap.size (by rfl) (.tmp 123) (.tmp 128) 27 45 (.agg #[.int .i64 0, .slice none 0 0]) 32 rfl Try.underlying27 info45 rfl (by decide) (by decide) v (keepL (L.take i)) o [.int .i64 xf, .slice A1 o.f1.length c1] (fun _ => True) (fun k => k < w15.heap.size) rfl rfl (by rw [← HXF.out]; exact k45_mkM _ _ _ o (Kd.R_drew HDA.out)) (fun k hk => ⟨trivial, fun he => by have := OB.out k he.symm; omega⟩) (fun _ _ => trivial) (Kd.R_drew RO.out) (Below.refl _ _) (by have := RR.out.low.size; exact this) HKL.out ?_
                        intro v9 w9n hr9 _ hg9 hat9
                        have hpb := blk_grown (w := wr.drew) RR.out.pb hg9 (fun he => by have := OB.out g9 he.symm; have := GG.out; omega)
                        have R9 := Aside0.mk hr9
                        have F9 : Aside0 (Fr w15 w9n (fun k => k = g9)) := ⟨FF.out.drew.grown hg9 (fun k hk => .inr (OB.out k hk))⟩
                        have OB9 : Aside0 (∀ k, v9.ownBlock = some k → w15.heap.size ≤ k) := ⟨fun k hk => hat9.elim (fun e1 => OB.out k (by rw [← e1]; exact hk)) (fun ⟨bb, e1, e2⟩ => by rw [e1] at hk; injection hk with hk; subst hk; exact Nat.le_trans FF.out.size e2)⟩
                        obtain ⟨A9, c9, rfl⟩ := Kd.R_slice hr9
                        have hl9 : (keepL (L.take i) ++ [o]).length = (keepL (L.take i)).length + 1 := by simp
                        rw [hl9] at R9 OB9 ⊢
                        clear hl9
                        have PB9 : Aside0 (PB w9n g9 { (aM b x) with os := v }) := ⟨hpb⟩
                        have k66 : w9n.cell? ⟨g9, 66, none⟩ = some v := PB9.out.kos RR.out.ok
                        have f66 := PB9.out.fz 66
                        clear hr9 hg9 hat9 hpb
                        refine hK.out _ _ ?_
                        clear hK K
                        refine norm_ (a' := ?_) ?_ ?_
                        rotate_left
                        · show Act.put _ (some 129) _ = _
                          simp only [Act.put, List.setIfInBounds_toArray, List.set_cons_zero, List.set_cons_succ, i64_w, i32_w]
                          rfl
                        refine pure_ (i := 8) (N := some 130) (v := ?_) (a' := ?_) #[true, true, true, true, true, true, true, true, true, false] rfl rfl (by kernel_rfl) (fun _ _ _ h => h) (Or.inl ⟨by rfl, ?_⟩) ?_ ?_
                        rotate_left
                        · intro w'
                          go_simp
                          with_reducible rfl
                        rotate_left
                        · simp only [Act.put, List.setIfInBounds_toArray, List.set_cons_zero, List.set_cons_succ, i64_w, i32_w]
                          rfl
                        refine last_ (i := 9) (N := none) #[true, true, true, true, true, true, true, true, true, true] rfl rfl (by kernel_rfl) (by decide) (fun K hK => ?_)
                        refine skip_ (w1 := w9n.setCell ⟨g9, 66, none⟩ (.slice A9 ((keepL (L.take i)).length + 1) c9)) (by rfl) rfl ?_ ?_
                        · first | (go_simp; done) | (go_simp; rfl)
                        refine hK.out _ _ ?_
                        clear hK K
                        refine done_ (by kernel_rfl) ?_
                        have HKP : Aside0 (keepL (L.take (i + 1)) = keepL (L.take i) ++ [o]) := ⟨by rw [HDR.out, keepL_snoc, if_pos (by rw [HXF.out]; exact h128)]⟩
                        have RR9 : Aside0 (RS w (w9n.setCell ⟨g9, 66, none⟩ (.slice A9 ((keepL (L.take i)).length + 1) c9)) (some ad) b g9 { (aM b x) with os := .slice A9 ((keepL (L.take i)).length + 1) c9 }) := ⟨⟨PB9.out.os_ RR.out.ok _, ⟨RR.out.ok.cl, RR.out.ok.no, RR.out.ok.wa, RR.out.ok.fa, rfl⟩, (F9.out.trans (set_fr w9n g9 66 _) (fun k hk => .inl hk)).blk S8.out.res (by have := S8.out.hg; omega), C_fr S8.out.c (F9.out.trans (set_fr w9n g9 66 _) (fun k hk => .inl hk)) (by have := S8.out.ab ad rfl; have := S8.out.hg; omega), below_fr S8.out.low S8.out.low.size (F9.out.trans (set_fr w9n g9 66 _) (fun k hk => .inl hk)) (fun k hk => by have := S8.out.hg; omega), S8.out.ab, S8.out.hg⟩⟩
                        have RO9 : Aside0 (k45.R 45 (w9n.setCell ⟨g9, 66, none⟩ (.slice A9 ((keepL (L.take i)).length + 1) c9)) w.heap.size (fun _ => True) (.slice A9 ((keepL (L.take i)).length + 1) c9) (keepL (L.take (i + 1)))) := ⟨by rw [HKP.out]; exact Kd.R_set R9.out PB9.out ty29 66 _⟩
                        have FF9 := Aside0.mk (F9.out.trans (F2 := fun k => k = g9) (set_fr w9n g9 66 (.slice A9 ((keepL (L.take i)).length + 1) c9)) (fun k hk => .inl hk))
                        go_wp2
                        go_roundg q
                        case measure => omega
                        case rel => exact ⟨i + 1, _, by go_num, ⟨by have := Hi.out; omega⟩, RR9, RO9, OB9, FF9⟩
                      · have h128b := decide_eq_false h128
                        have HKP : Aside0 (keepL (L.take (i + 1)) = keepL (L.take i)) := ⟨by rw [HDR.out, keepL_snoc, if_neg (by rw [HXF.out]; exact h128)]⟩
                        go_wp2
                        go_roundg q
                        case measure => omega
                        case rel => exact ⟨i + 1, v, by go_num, ⟨by have := Hi.out; omega⟩, RR, ⟨by rw [HKP.out]; exact RO.out⟩, OB, FF⟩
                · have hpg : decide ((zn : Int) > 0) = true := decide_eq_true (by omega)
                  have hzg : (zn : Int) > 0 := by omega
                  have h12 : rd b 1 = 1 ∨ rd b 1 = 2 := by
                    have h1 := HOW.out.2.1 HS.out
                    have h2 := HOW.out.2.2.2
                    rw [h1, HZN.out] at h2
                    exact h2.1 (by omega)
                  have h60 : 60 ≤ b.length ∧ (rd b 1 = 2 → 80 ≤ b.length) := by
                    have h1 := HZN.out
                    have h2 := HNN.out.2
                    unfold sizeM at h1
                    rcases h12 with h | h
                    · rw [h] at h1 ⊢; simp at h1; omega
                    · rw [h] at h1 ⊢; simp at h1; omega
                  have H60 := Aside0.mk h60
                  have FE : Aside0 (∀ v, ({ partM b (aM b x) with os := v } : AM) = { m3 b (m1 b az) with os := v }) := ⟨fun v => (final_eq b v x HX.out).1 h12⟩
                  have GA := Aside0.mk (range_blk (cs := AM.cells (aM b x)) S7.out.pb)
                  have LNA := Aside0.mk (AM.len S7.out.ok)
                  clear h12 h60 hpos
                  go_wp2_with (refine wpList_load_mid rfl 29 (.tmp 7) rfl g9 0 rfl (AM.cells (aM b x)) _ GA.out Try.underlying29 rfl (by rw [LNA.out]; exact info29) ?_)
                  refine (rpart_calls (some ad) c b (aM b x) S7.out.ok rfl w15 S7.out.c HB.out HL.out.2 HN.out.2.1 H60.out.1 H60.out.2).mono ?_
                  rintro e w16 ⟨rfl, hb16⟩
                  have S7b := Aside0.mk (S7.out.below hb16)
                  have RL2 := Aside0.mk (Kd.R_mono (Kd.R_below RL1.out hb16) (fun k (hk : k < w15.heap.size) => (show k < w16.heap.size from Nat.lt_of_lt_of_le hk hb16.size)))
                  have OKP : Aside0 ((partM b (aM b x)).ok) := ⟨by
                    unfold partM
                    split
                    · exact ⟨S7.out.ok.cl, (midM_ok S7.out.ok H60.out.1).no, (midM_ok S7.out.ok H60.out.1).wa, cut2_len _ _ _ (by have := H60.out.2 (by assumption); omega), S7.out.ok.os⟩
                    · exact midM_ok S7.out.ok H60.out.1⟩
                  clear hb16 S7 RL1 GA LNA
                  unfold AM.val
                  go_upto_region 26 with (refine wp_fill rfl 29 (.tmp 7) (.tmp 109) rfl g9 _ 29 (AM.cells (partM b (aM b x))) S7b.out.pb rfl rfl (by rw [AM.len OKP.out, List.size_toArray, AM.len S7b.out.ok]) (by rw [info29, List.size_toArray, AM.len S7b.out.ok]) (AM.one OKP.out) ?_; intro w17 hx17 hf17; have PB17 : Aside0 (PB w17 g9 (partM b (aM b x))) := ⟨hx17⟩; have F17 := Aside0.mk hf17; clear hx17 hf17)
                  have S8 : Aside0 (RS w w17 (some ad) b g9 (partM b (aM b x))) := ⟨S7b.out.put F17.out PB17.out OKP.out⟩
                  have RL1 : Aside0 (k45.R 45 w17 w.heap.size (fun k => k < w17.heap.size) (.slice AL L.length cL) L) := ⟨Kd.R_mono (R_frT RL2.out F17.out (fun k hk _ => by subst hk; exact ⟨_, _, S7b.out.pb, ty29⟩)) (fun k hk => Nat.lt_of_lt_of_le hk F17.out.size)⟩
                  clear S7b RL2 PB17 F17 hpg hzg hz56
                  go_upto_region 27 with fail
                  have RO0 : Aside0 (k45.R 45 w17 w.heap.size (fun _ => True) sN (keepL (L.take 0))) := ⟨Kd.R_nil _ _ _ _ _⟩
                  have GG : Aside0 (g9 < w17.heap.size ∧ (S8 = S8)) := ⟨blk_lt S8.out.pb, rfl⟩
                  have OSN : Aside0 ((partM b (aM b x)).os = sN) := ⟨by unfold partM midM aM a0M; split <;> rfl⟩
                  have RR0 : Aside0 (RS w w17 (some ad) b g9 { partM b (aM b x) with os := sN }) := ⟨RS.os0 S8.out OSN.out⟩
                  go_loopg [15] L.length (fun q v15 wr => ∃ (i : Nat) (v : Value), v15 = .int .i64 (i : Int) ∧ Aside0 (i + q = L.length) ∧ Aside0 (RS w wr (some ad) b g9 { partM b (aM b x) with os := v }) ∧ Aside0 (k45.R 45 wr w.heap.size (fun _ => True) v (keepL (L.take i))) ∧ Aside0 (∀ k, v.ownBlock = some k → w17.heap.size ≤ k) ∧ Aside0 (Fr w17 wr (fun k => k = g9)))
                  case atStart => exact ⟨0, sN, rfl, ⟨by omega⟩, RR0, RO0, ⟨fun k hk => by simp [Value.ownBlock] at hk⟩, ⟨Fr.refl _ _⟩⟩
                  case round =>
                    clear RR0 RO0
                    obtain ⟨i, v, rfl, Hi, RR, RO, OB, FF⟩ := hrel
                    cases gk with
                    | zero =>
                      have hlt : ¬ ((i : Int) < (L.length : Int)) := by have := Hi.out; omega
                      have hlb := decide_eq_false hlt
                      have HF : Aside0 (keepL (L.take i) = keepL L) := ⟨by rw [List.take_of_length_le (by have := Hi.out; omega)]⟩
                      have GR := Aside0.mk (range_blk (cs := AM.cells { partM b (aM b x) with os := v }) RR.out.pb)
                      have LNE := Aside0.mk (AM.len RR.out.ok)
                      go_wp2_with (first
                        | (refine wpList_load_mid rfl 29 (.tmp 7) rfl g9 0 rfl (AM.cells { partM b (aM b x) with os := v }) _ GR.out Try.underlying29 rfl (by rw [LNE.out]; exact info29) ?_)
                        | (refine wp_fill rfl 29 (.tmp 4) (.tmp 131) rfl w.heap.size _ 29 (AM.cells { partM b (aM b x) with os := v }) RR.out.res rfl rfl (by rw [LNE.out, zc29_size]) (by rw [info29, zc29_size]) (AM.one RR.out.ok) ?_; intro wz hxz hfz; have XZ := Aside0.mk hxz; have FZ := Aside0.mk hfz; clear hxz hfz))
                      refine bodyPost_ret (results_ctt rfl _ _ w.heap.size (AM.cells { partM b (aM b x) with os := v }) _ _ _ _ rfl rfl rfl XZ.out LNE.out) rfl (.inr ⟨HRW.out, L, v, HCUT.out, by rw [← FE.out v]; rfl, ?_, ?_⟩)
                      · rw [← HF.out]; exact R_frT RO.out FZ.out (fun k hk _ => by subst hk; exact ⟨_, _, RR.out.res, ty29⟩)
                      · exact below_fr RR.out.low RR.out.low.size FZ.out (fun k hk => by omega)
                    | succ q =>
                      have hlt : (i : Int) < (L.length : Int) := by have := Hi.out; omega
                      have hlb := decide_eq_true hlt
                      have hi0 : (0 : Int) ≤ i ∧ (i : Int) < (L.length : Int) := ⟨by omega, hlt⟩
                      have RLr := Aside0.mk (R_frT RL1.out FF.out (fun k hk _ => by subst hk; exact ⟨_, _, S8.out.pb, ty29⟩))
                      have hCL := (Kd.R_reads' RLr.out).2.2
                      obtain ⟨adL, A1, c1, e1, ka, kb, lb, cb⟩ := at_T45 hCL (i : Int) (by omega) hlt
                      subst e1
                      have HDR : Aside0 (L.take (i + 1) = L.take i ++ [rd_T45 L i]) := ⟨take_rd45 L i (by omega)⟩
                      have HDA : Aside0 ((Kd.int .u8).R 5 wr w.heap.size (fun k => k < w17.heap.size) (.slice A1 (rd_T45 L i).f1.length c1) (rd_T45 L i).f1) := ⟨by
                        obtain ⟨cc, _, hM, hcc⟩ := Kd.R_get RLr.out z45 (i : Int) (by omega) hlt
                        obtain ⟨v1, rfl, hv1⟩ := k45_openM hM
                        have e2 := hcc 1 v1 rfl
                        rw [show (i : Int).toNat * k45.sz + 1 = (i : Int).toNat * 2 + 1 from rfl, add_field _ _ 1 (by decide), kb] at e2
                        have e4 := Option.some.inj e2
                        subst e4
                        exact Kd.R_mono hv1 (fun _ hk => hk.1)⟩
                      obtain ⟨o, hoo⟩ : ∃ o, rd_T45 L i = o := ⟨_, rfl⟩
                      rw [hoo] at ka kb lb cb HDR HDA
                      rw [Int.toNat_natCast] at ka kb
                      clear hoo hCL
                      obtain ⟨xf, hxf⟩ : ∃ x, o.f0 = x := ⟨_, rfl⟩
                      have HXF := Aside0.mk hxf
                      rw [hxf] at ka
                      have hil : (i : Int) ≤ 1100 := by have h1 := Hi.out; have h2 := HLL.out; omega
                      clear hxf cb lb
                      by_cases h128 : xf < 128
                      · have h128b := decide_eq_true h128
                        go_upto_region 30 with fail
                        have kos : wr.cell? ⟨g9, 66, none⟩ = some v := RR.out.pb.kos RR.out.ok
                        have HKL : Aside0 (((keepL (L.take i)).length + 1) * 32 ≤ 140737488355328) := ⟨by
                          have h1 : (keepL (L.take i)).length ≤ (L.take i).length := List.length_filter_le _ _
                          rw [List.length_take] at h1
                          have h2 := HLL.out
                          omega⟩
                        refine start_ (n := 10) (S := fun w' => w'.cell? ⟨g9, 66, none⟩ = some v ∧ w'.cell? (adL.add (i * 2)) = some (.int .i64 xf) ∧ w'.cell? ⟨(adL.add (i * 2)).block, (adL.add (i * 2)).off + 1, none⟩ = some (.slice A1 o.f1.length c1)) (ds := [7, 9]) #[false, false, false, false, false, false, false, false, false, false] (by kernel_rfl) rfl rfl ⟨kos, ka, kb⟩ (fun hHeld => ?_)
                        refine pure_ (i := 0) (N := some 122) (v := ?_) (a' := ?_) #[true, false, false, false, false, false, false, false, false, false] rfl rfl (by kernel_rfl) (fun _ _ _ h => h) (Or.inl ⟨by rfl, ?_⟩) ?_ ?_
                        rotate_left
                        · intro w'
                          go_simp
                          with_reducible rfl
                        rotate_left
                        · simp only [Act.put, List.setIfInBounds_toArray, List.set_cons_zero, List.set_cons_succ, i64_w, i32_w]
                          rfl
                        refine pure_ (i := 2) (N := some 124) (v := ?_) (a' := ?_) #[true, false, true, false, false, false, false, false, false, false] rfl rfl (by kernel_rfl) (fun _ _ _ h => h) (Or.inl ⟨by rfl, ?_⟩) ?_ ?_
                        rotate_left
                        · intro w'
                          go_simp
                          with_reducible rfl
                        rotate_left
                        · simp only [Act.put, List.setIfInBounds_toArray, List.set_cons_zero, List.set_cons_succ, i64_w, i32_w]
                          rfl
                        refine pure_ (i := 3) (N := some 125) (v := ?_) (a' := ?_) #[true, false, true, true, false, false, false, false, false, false] rfl rfl (by kernel_rfl) (fun _ _ _ h => h) (Or.inl ⟨by rfl, ?_⟩) ?_ ?_
                        rotate_left
                        · intro w'
                          go_simp
                          with_reducible rfl
                        rotate_left
                        · simp only [Act.put, List.setIfInBounds_toArray, List.set_cons_zero, List.set_cons_succ, i64_w, i32_w]
                          rfl
                        refine pure_ (i := 4) (N := some 126) (v := ?_) (a' := ?_) #[true, false, true, true, true, false, false, false, false, false] rfl rfl (by kernel_rfl) (fun _ _ _ h => h) (Or.inl ⟨by rfl, ?_⟩) ?_ ?_
                        rotate_left
                        · intro w'
                          go_simp
                          with_reducible rfl
                        rotate_left
                        · simp only [Act.put, List.setIfInBounds_toArray, List.set_cons_zero, List.set_cons_succ, i64_w, i32_w]
                          rfl
                        refine take_ (i := 1) (N := some 123) (v := ?_) (a' := ?_) #[true, true, true, true, true, false, false, false, false, false] rfl rfl (by kernel_rfl) (fun _ _ _ h => h) (Or.inl ⟨by rfl, ?_⟩) hHeld ?_ ?_
                        rotate_left
                        · rintro w' ⟨s0, s1, s2⟩
                          go_simp
                          with_reducible rfl
                        rotate_left
                        · simp only [Act.put, List.setIfInBounds_toArray, List.set_cons_zero, List.set_cons_succ, i64_w, i32_w]
                          rfl
                        refine take_ (i := 5) (N := some 127) (v := ?_) (a' := ?_) #[true, true, true, true, true, true, false, false, false, false] rfl rfl (by kernel_rfl) (fun _ _ _ h => h) (Or.inl ⟨by rfl, ?_⟩) hHeld ?_ ?_
                        rotate_left
                        · rintro w' ⟨s0, s1, s2⟩
                          go_simp
                          with_reducible rfl
                        rotate_left
                        · simp only [Act.put, List.setIfInBounds_toArray, List.set_cons_zero, List.set_cons_succ, i64_w, i32_w]
                          rfl
                        refine one_ (i := 6) (N := some 128) #[true, true, true, true, true, true, true, false, false, false] rfl rfl (by kernel_rfl) (by decide) (fun K hK => ?_)
                        refine value_ (w1 := ?_) (v := ?_) (by rfl) rfl ?_ ?_
                        rotate_left 2
                        · go_simp
                          constructor
                          · rfl
                          · rfl
                        refine hK.out _ _ ⟨(cell_alloc_old (w := wr.drew) kos _), (cell_alloc_old (w := wr.drew) ka _), (cell_alloc_old (w := wr.drew) kb _)⟩ (fun hHeld => ?_)
                        clear hK K
                        refine norm_ (a' := ?_) ?_ ?_
                        rotate_left
                        · show Act.put _ (some 128) _ = _
                          simp only [Act.put, List.setIfInBounds_toArray, List.set_cons_zero, List.set_cons_succ, i64_w, i32_w]
                          rfl
                        refine last_ (i := 7) (N := some 129) #[true, true, true, true, true, true, true, true, false, false] rfl rfl (by kernel_rfl) (by decide) (fun K hK => ?_)
                        refine Kd.R_append_step k45 (w0 := wr.drew) w.heap.size (by rfl) (.tmp 123) (.tmp 128) 27 45 (.agg #[.int .i64 0, .slice none 0 0]) 32 rfl Try.underlying27 info45 rfl (by decide) (by decide) v (keepL (L.take i)) o [.int .i64 xf, .slice A1 o.f1.length c1] (fun _ => True) (fun k => k < w17.heap.size) rfl rfl (by rw [← HXF.out]; exact k45_mkM _ _ _ o (Kd.R_drew HDA.out)) (fun k hk => ⟨trivial, fun he => by have := OB.out k he.symm; omega⟩) (fun _ _ => trivial) (Kd.R_drew RO.out) (Below.refl _ _) (by have := RR.out.low.size; exact this) HKL.out ?_
                        intro v9 w9n hr9 _ hg9 hat9
                        have hpb := blk_grown (w := wr.drew) RR.out.pb hg9 (fun he => by have := OB.out g9 he.symm; have := GG.out; omega)
                        have R9 := Aside0.mk hr9
                        have F9 : Aside0 (Fr w17 w9n (fun k => k = g9)) := ⟨FF.out.drew.grown hg9 (fun k hk => .inr (OB.out k hk))⟩
                        have OB9 : Aside0 (∀ k, v9.ownBlock = some k → w17.heap.size ≤ k) := ⟨fun k hk => hat9.elim (fun e1 => OB.out k (by rw [← e1]; exact hk)) (fun ⟨bb, e1, e2⟩ => by rw [e1] at hk; injection hk with hk; subst hk; exact Nat.le_trans FF.out.size e2)⟩
                        obtain ⟨A9, c9, rfl⟩ := Kd.R_slice hr9
                        have hl9 : (keepL (L.take i) ++ [o]).length = (keepL (L.take i)).length + 1 := by simp
                        rw [hl9] at R9 OB9 ⊢
                        clear hl9
                        have PB9 : Aside0 (PB w9n g9 { partM b (aM b x) with os := v }) := ⟨hpb⟩
                        have k66 : w9n.cell? ⟨g9, 66, none⟩ = some v := PB9.out.kos RR.out.ok
                        have f66 := PB9.out.fz 66
                        clear hr9 hg9 hat9 hpb
                        refine hK.out _ _ ?_
                        clear hK K
                        refine norm_ (a' := ?_) ?_ ?_
                        rotate_left
                        · show Act.put _ (some 129) _ = _
                          simp only [Act.put, List.setIfInBounds_toArray, List.set_cons_zero, List.set_cons_succ, i64_w, i32_w]
                          rfl
                        refine pure_ (i := 8) (N := some 130) (v := ?_) (a' := ?_) #[true, true, true, true, true, true, true, true, true, false] rfl rfl (by kernel_rfl) (fun _ _ _ h => h) (Or.inl ⟨by rfl, ?_⟩) ?_ ?_
                        rotate_left
                        · intro w'
                          go_simp
                          with_reducible rfl
                        rotate_left
                        · simp only [Act.put, List.setIfInBounds_toArray, List.set_cons_zero, List.set_cons_succ, i64_w, i32_w]
                          rfl
                        refine last_ (i := 9) (N := none) #[true, true, true, true, true, true, true, true, true, true] rfl rfl (by kernel_rfl) (by decide) (fun K hK => ?_)
                        refine skip_ (w1 := w9n.setCell ⟨g9, 66, none⟩ (.slice A9 ((keepL (L.take i)).length + 1) c9)) (by rfl) rfl ?_ ?_
                        · first | (go_simp; done) | (go_simp; rfl)
                        refine hK.out _ _ ?_
                        clear hK K
                        refine done_ (by kernel_rfl) ?_
                        have HKP : Aside0 (keepL (L.take (i + 1)) = keepL (L.take i) ++ [o]) := ⟨by rw [HDR.out, keepL_snoc, if_pos (by rw [HXF.out]; exact h128)]⟩
                        have RR9 : Aside0 (RS w (w9n.setCell ⟨g9, 66, none⟩ (.slice A9 ((keepL (L.take i)).length + 1) c9)) (some ad) b g9 { partM b (aM b x) with os := .slice A9 ((keepL (L.take i)).length + 1) c9 }) := ⟨⟨PB9.out.os_ RR.out.ok _, ⟨RR.out.ok.cl, RR.out.ok.no, RR.out.ok.wa, RR.out.ok.fa, rfl⟩, (F9.out.trans (set_fr w9n g9 66 _) (fun k hk => .inl hk)).blk S8.out.res (by have := S8.out.hg; omega), C_fr S8.out.c (F9.out.trans (set_fr w9n g9 66 _) (fun k hk => .inl hk)) (by have := S8.out.ab ad rfl; have := S8.out.hg; omega), below_fr S8.out.low S8.out.low.size (F9.out.trans (set_fr w9n g9 66 _) (fun k hk => .inl hk)) (fun k hk => by have := S8.out.hg; omega), S8.out.ab, S8.out.hg⟩⟩
                        have RO9 : Aside0 (k45.R 45 (w9n.setCell ⟨g9, 66, none⟩ (.slice A9 ((keepL (L.take i)).length + 1) c9)) w.heap.size (fun _ => True) (.slice A9 ((keepL (L.take i)).length + 1) c9) (keepL (L.take (i + 1)))) := ⟨by rw [HKP.out]; exact Kd.R_set R9.out PB9.out ty29 66 _⟩
                        have FF9 := Aside0.mk (F9.out.trans (F2 := fun k => k = g9) (set_fr w9n g9 66 (.slice A9 ((keepL (L.take i)).length + 1) c9)) (fun k hk => .inl hk))
                        go_wp2
                        go_roundg q
                        case measure => omega
                        case rel => exact ⟨i + 1, _, by go_num, ⟨by have := Hi.out; omega⟩, RR9, RO9, OB9, FF9⟩
                      · have h128b := decide_eq_false h128
                        have HKP : Aside0 (keepL (L.take (i + 1)) = keepL (L.take i)) := ⟨by rw [HDR.out, keepL_snoc, if_neg (by rw [HXF.out]; exact h128)]⟩
                        go_wp2
                        go_roundg q
                        case measure => omega
                        case rel => exact ⟨i + 1, v, by go_num, ⟨by have := Hi.out; omega⟩, RR, ⟨by rw [HKP.out]; exact RO.out⟩, OB, FF⟩
              · have HNZ := Aside0.mk hx0
                have hxb : (xw != 0) = true := by simpa using hx0
                clear hx0 hz56
                go_wp2_with (refine wp_fill rfl 29 (.tmp 4) (.tmp 103) rfl w.heap.size _ 29 az.cells S7.out.res rfl rfl (by rw [AM.len az_ok, zc29_size]) (by rw [info29, zc29_size]) (AM.one az_ok) ?_; intro wz hxz hfz; have XZ := Aside0.mk hxz; have FZ := Aside0.mk hfz; clear hxz hfz)
                refine bodyPost_ret (results_ctt rfl _ _ w.heap.size az.cells _ _ _ _ rfl rfl rfl XZ.out (AM.len az_ok)) rfl (rd_bad _ HRW.out HNZ.out (below_fr S7.out.low S7.out.low.size FZ.out (fun k hk => by omega)))
        · have hs' : (sizeM (rd b 1)).2 = false := by simpa using hs
          rw [HOW.out.2.2.1 hs']
          have HRC : Aside0 (readC b fm = 4) := ⟨by unfold readC; rw [if_neg (by simpa using HH0.out), if_neg (by simpa using HCL.out), if_pos hs']⟩
          clear hs hs'
          go_wp2_with (refine wp_fill rfl 29 (.tmp 4) (.tmp 80) rfl w.heap.size _ 29 az.cells S5.out.res rfl rfl (by rw [AM.len az_ok, zc29_size]) (by rw [info29, zc29_size]) (AM.one az_ok) ?_; intro wz hxz hfz; have XZ := Aside0.mk hxz; have FZ := Aside0.mk hfz; clear hxz hfz)
          refine bodyPost_ret (results_ctt rfl _ _ w.heap.size az.cells _ _ _ _ rfl rfl rfl XZ.out (AM.len az_ok)) rfl (rd_bad _ HRC.out (by first | decide | exact HNZ.out) (below_fr S5.out.low S5.out.low.size FZ.out (fun k hk => by omega)))
      · have HRC : Aside0 (readC b fm = 12) := ⟨by unfold readC; rw [if_neg (by simpa using HH0.out), if_pos hcl]⟩
        obtain ⟨y, hy⟩ : ∃ y, mapB (cut2 b 8 16) = y := ⟨_, rfl⟩
        obtain ⟨xv, hxv⟩ : ∃ xv, mapV (cut2 b 8 16) = xv := ⟨_, rfl⟩
        rw [hy, hxv] at hcl ⊢
        clear hy hxv
        cases y with
        | false =>
          clear hcl
          go_wp2_with (refine wp_fill rfl 29 (.tmp 4) (.tmp 74) rfl w.heap.size _ 29 az.cells S4.out.res rfl rfl (by rw [AM.len az_ok, zc29_size]) (by rw [info29, zc29_size]) (AM.one az_ok) ?_; intro wz hxz hfz; have XZ := Aside0.mk hxz; have FZ := Aside0.mk hfz; clear hxz hfz)
          refine bodyPost_ret (results_ctt rfl _ _ w.heap.size az.cells _ _ _ _ rfl rfl rfl XZ.out (AM.len az_ok)) rfl (rd_bad _ HRC.out (by first | decide | exact HNZ.out) (below_fr S4.out.low S4.out.low.size FZ.out (fun k hk => by omega)))
        | true =>
          have hnn : (xv != fm) = true := by simpa using hcl
          clear hcl
          go_wp2_with (refine wp_fill rfl 29 (.tmp 4) (.tmp 74) rfl w.heap.size _ 29 az.cells S4.out.res rfl rfl (by rw [AM.len az_ok, zc29_size]) (by rw [info29, zc29_size]) (AM.one az_ok) ?_; intro wz hxz hfz; have XZ := Aside0.mk hxz; have FZ := Aside0.mk hfz; clear hxz hfz)
          refine bodyPost_ret (results_ctt rfl _ _ w.heap.size az.cells _ _ _ _ rfl rfl rfl XZ.out (AM.len az_ok)) rfl (rd_bad _ HRC.out (by first | decide | exact HNZ.out) (below_fr S4.out.low S4.out.low.size FZ.out (fun k hk => by omega)))
  · have hvb : (rd b 0 != 2) = true := by simpa using hv
    have HRC : Aside0 (readC b fm = 1) := ⟨by unfold readC headC; rw [if_pos hv]; rfl⟩
    clear hv
    go_wp2_with (refine wp_fill rfl 29 (.tmp 4) (.tmp 30) rfl w.heap.size _ 29 az.cells X0.out rfl rfl (by rw [AM.len az_ok, zc29_size]) (by rw [info29, zc29_size]) (AM.one az_ok) ?_; intro wz hxz hfz; have XZ := Aside0.mk hxz; have FZ := Aside0.mk hfz; clear hxz hfz)
    refine bodyPost_ret (results_ctt rfl _ _ w.heap.size az.cells _ _ _ _ rfl rfl rfl XZ.out (AM.len az_ok)) rfl (rd_bad _ HRC.out (by first | decide | exact HNZ.out) (below_fr B0.out B0.out.size FZ.out (fun k hk => by omega)))
end Go.Proofs.Ytpjkbokojlpjoaa.Ak
