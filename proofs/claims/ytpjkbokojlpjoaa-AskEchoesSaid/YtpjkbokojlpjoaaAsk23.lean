/- ask.Grant: the answer to a request that was done. -/
import Derived.Test.YtpjkbokojlpjoaaAskP
import Derived.Test.YtpjkbokojlpjoaaPAskEchoesx1
namespace Go.Proofs.Ytpjkbokojlpjoaa.Ak
open Go.RowKit Go.Proofs.YtpjkbokojlpjoaaW.PrintWords Go.Proofs.YtpjkbokojlpjoaaW.PrintLast Go.Proofs.YtpjkbokojlpjoaaW.PrintMore Go.Proofs.Ytpjkbokojlpjoaa.Bs Go.Proofs.Ytpjkbokojlpjoaa.Fr Go.Proofs.Ytpjkbokojlpjoaa.Oct
open Go.Proofs.Ytpjkbokojlpjoaa.PAskReads (S45 k45 z45 k45_open k45_openM k45_mk k45_mkM info45 at_T45 rd_T45)
open Go.Proofs.Ytpjkbokojlpjoaa.PAskAnswers (ask_head.calls)
open Go.Proofs.Ytpjkbokojlpjoaa.PAskEchoes (ask_two.calls)
set_option linter.unusedVariables false
set_option linter.unusedSimpArgs false

def twoL (x : Int) : List Int := [x / 256 % 256, x % 256]
theorem two_calls (x : Int) (w : World) : Calls Try.prog 36 #[.int .i64 x] w fun e w' => ∃ v : Value, e = .returned v ∧ Kd.R (Kd.int .u8) 5 w' w.heap.size (fun _ => True) v (twoL x) ∧ Below w.heap.size w w' :=
  ask_two.calls x (twoL x) w rfl
theorem head0_calls (op li ep : Int) (w : World) : Calls Try.prog 34 #[.int .i64 op, .int .i64 0, .int .u32 li, .int .u32 ep] w fun e w' => ∃ v : Value, e = .returned v ∧ Kd.R (Kd.int .u8) 5 w' w.heap.size (fun _ => True) v (hd24 op 0 li ep) ∧ Below w.heap.size w w' :=
  ask_head.calls 6 op 0 li ep (hd24 op 0 li ep) w (head_f op 0 li ep)
/-- The bytes ahead of the options. -/
def b40 (x : AM) (li ep : Int) : List Int := hd24 x.op 0 li ep ++ x.no ++ [x.pr % 256, 0, 0, 0]
def b60 (x : AM) (li ep oa op : Int) : List Int := b40 x li ep ++ twoL x.po ++ twoL op ++ wideL oa
def b80 (x : AM) (li ep oa op : Int) : List Int := b60 x li ep oa op ++ twoL x.fp ++ [0, 0] ++ x.fa
def baseG (x : AM) (li ep oa op : Int) : List Int := if x.op = 2 then b80 x li ep oa op else b60 x li ep oa op
/-- An option's bytes. -/
def optB (o : S45) : List Int := [o.f0 % 256, 0] ++ twoL o.f1.length ++ o.f1 ++ List.replicate (wholeN o.f1.length - o.f1.length) 0
def grantG (x : AM) (li ep oa op : Int) (L : List S45) : List Int := baseG x li ep oa op ++ L.flatMap optB
theorem optB_len (o : S45) : (optB o).length = 4 + wholeN o.f1.length := by
  have := whole_le o.f1.length
  unfold optB twoL
  simp
  omega
theorem flat_mod (L : List S45) : (L.flatMap optB).length % 4 = 0 := by
  induction L with
  | nil => rfl
  | cons o l ih =>
    have := whole_le o.f1.length
    rw [List.flatMap_cons, List.length_append, optB_len]
    omega
theorem baseG_len (x : AM) (hx : x.ok) (li ep oa op : Int) : (baseG x li ep oa op).length = if x.op = 2 then 80 else 60 := by
  unfold baseG b80 b60 b40 twoL
  have h1 : (hd24 x.op 0 li ep).length = 24 := rfl
  have h2 : (wideL oa).length = 16 := rfl
  split <;> simp [h1, h2, hx.no, hx.fa]
theorem C_at {w : World} {g : Nat} {t : TypeId} {P Q : List Value} {l : List Int} {o : Nat} (h : w.heap[g]? = some (.cells (P ++ (e8 l ++ Q)).toArray t (0, 0))) (ho : P.length = o) (hl : l.length ≤ 9223372036854775807) : Kd.C (Kd.int .u8) w (some ⟨g, o, none⟩) l.length l := by
  have hr := range3 h o ho
  refine ⟨rfl, hl, fun hp => ⟨⟨g, o, none⟩, rfl, fun j p hj => ⟨[.int .u8 p], rfl, rfl, fun i u hu => ?_⟩⟩⟩
  rcases i with _ | i
  · obtain rfl := Option.some.inj hu
    rw [Addr.add_mid, show o + (j * (Kd.int .u8).sz + 0) = o + j from by show o + (j * 1 + 0) = o + j; omega]
    refine hr j _ ?_
    unfold e8 encs
    rw [List.getElem?_map, hj]
    rfl
  · simp at hu
theorem PB.cno {w : World} {g : Nat} {m : AM} (h : PB w g m) (hm : m.ok) : Kd.C (Kd.int .u8) w (some ⟨g, 18, none⟩) 12 m.no := by
  unfold PB at h; rw [t_no] at h
  have h1 := C_at h (o := 18) (by rw [List.length_tail, l_no hm]) (by rw [hm.no]; decide)
  rw [hm.no] at h1; exact h1
theorem PB.cfa {w : World} {g : Nat} {m : AM} (h : PB w g m) (hm : m.ok) : Kd.C (Kd.int .u8) w (some ⟨g, 50, none⟩) 16 m.fa := by
  unfold PB at h; rw [t_fa] at h
  have h1 := C_at h (o := 50) (by rw [List.length_tail, l_fa hm]) (by rw [hm.fa]; decide)
  rw [hm.fa] at h1; exact h1
set_option maxHeartbeats 8000000 in
set_option maxRecDepth 100000 in
theorem Grant_calls (x : AM) (hx : x.ok) (hop : x.op = 1 ∨ x.op = 2) (L : List S45) (hL : L.length ≤ 1100) (hLd : ∀ o ∈ L, o.f1.length ≤ 1100) (li ep oa op : Int) (hG : (grantG x li ep oa op L).length ≤ 1100) (A1 : Option Addr) (c1 : Nat) (w : World) (h1 : Kd.C k45 w A1 L.length L) :
    Calls Try.prog 18 #[AM.val { x with os := .slice A1 L.length c1 }, .int .u32 li, .int .u32 ep, .agg #[.int .u32 oa, .int .i64 op]] w fun e w' => ∃ v, e = .returned v ∧ Kd.R (Kd.int .u8) 5 w' w.heap.size (fun _ => True) v (grantG x li ep oa op L) ∧ Below w.heap.size w w' := by
  have hbA := below_alloc (Below.refl w.heap.size w) (.cells (AM.cells { x with os := .slice A1 L.length c1 }).toArray 29)
  have B1 := Aside0.mk (Below.alloc hbA hbA.size (.cells #[.int .u32 oa, .int .i64 op] 42))
  have P1 : Aside0 (PB ((w.alloc (.cells (AM.cells { x with os := .slice A1 L.length c1 }).toArray 29)).alloc (.cells #[.int .u32 oa, .int .i64 op] 42)) w.heap.size { x with os := .slice A1 L.length c1 }) := ⟨blk_alloc (blk_new w _) _⟩
  have E1 : Aside0 (((w.alloc (.cells (AM.cells { x with os := .slice A1 L.length c1 }).toArray 29)).alloc (.cells #[.int .u32 oa, .int .i64 op] 42)).heap[w.heap.size + 1]? = some (.cells #[.int .u32 oa, .int .i64 op] 42 (0, 0))) := ⟨by have h := blk_new (w.alloc (.cells (AM.cells { x with os := .slice A1 L.length c1 }).toArray 29)) (.cells #[.int .u32 oa, .int .i64 op] 42); rw [World.size_alloc] at h; exact h⟩
  have O1 : Aside0 (({ x with os := .slice A1 L.length c1 } : AM).ok) := ⟨⟨hx.cl, hx.no, hx.wa, hx.fa, rfl⟩⟩
  have HC1 := Aside0.mk (Kd.C_below h1 B1.out)
  have HX := Aside0.mk hx
  have HL := Aside0.mk (And.intro hL (And.intro hLd hG))
  have HOP := Aside0.mk hop
  clear hbA h1 hx hL hLd hG hop
  unfold AM.val
  go_enter Try.func18, Try.ntmps18
  go_upto_region 1 with fail
  generalize (w.alloc (.cells (AM.cells { x with os := .slice A1 L.length c1 }).toArray 29)).alloc (.cells #[.int .u32 oa, .int .i64 op] 42) = w1 at *
  have kop : w1.cell? ⟨w.heap.size, 0, none⟩ = some (.int .i64 x.op) := P1.out.kop
  obtain ⟨kpr, kpo, _, kfp⟩ := P1.out.kk O1.out
  have CN := Aside0.mk (P1.out.cno O1.out)
  rcases HOP.out with hop | hop
  · rw [hop] at kop
    have HOPE := Aside0.mk hop
    clear hop
    have kop1 : w1.cell? ⟨w.heap.size + 1, 1, none⟩ = some (.int .i64 op) := blk_cell E1.out 1
    have koa : w1.cell? ⟨w.heap.size + 1, 0, none⟩ = some (.int .u32 oa) := blk_cell E1.out 0
    go_upto_region 3 with fail
    refine start_ (n := 14) (S := fun w' => w'.cell? ⟨w.heap.size, 0, none⟩ = some (.int .i64 1) ∧ w'.cell? ⟨w.heap.size, 30, none⟩ = some (.int .i64 x.pr)) (ds := [12]) #[false, false, false, false, false, false, false, false, false, false, false, false, false, false] (by kernel_rfl) rfl rfl ⟨kop, kpr⟩ (fun hHeld => ?_)
    refine pure_ (i := 0) (N := some 21) (v := ?_) (a' := ?_) #[true, false, false, false, false, false, false, false, false, false, false, false, false, false] rfl rfl (by kernel_rfl) (fun _ _ _ h => h) (Or.inl ⟨by rfl, ?_⟩) ?_ ?_
    rotate_left
    · intro w'
      go_simp
      with_reducible rfl
    rotate_left
    · simp only [Act.put, List.setIfInBounds_toArray, List.set_cons_zero, List.set_cons_succ, i64_w, i32_w]
      rfl
    refine pure_ (i := 2) (N := some 23) (v := ?_) (a' := ?_) #[true, false, true, false, false, false, false, false, false, false, false, false, false, false] rfl rfl (by kernel_rfl) (fun _ _ _ h => h) (Or.inl ⟨by rfl, ?_⟩) ?_ ?_
    rotate_left
    · intro w'
      go_simp
      with_reducible rfl
    rotate_left
    · simp only [Act.put, List.setIfInBounds_toArray, List.set_cons_zero, List.set_cons_succ, i64_w, i32_w]
      rfl
    refine pure_ (i := 3) (N := some 24) (v := ?_) (a' := ?_) #[true, false, true, true, false, false, false, false, false, false, false, false, false, false] rfl rfl (by kernel_rfl) (fun _ _ _ h => h) (Or.inl ⟨by rfl, ?_⟩) ?_ ?_
    rotate_left
    · intro w'
      go_simp
      with_reducible rfl
    rotate_left
    · simp only [Act.put, List.setIfInBounds_toArray, List.set_cons_zero, List.set_cons_succ, i64_w, i32_w]
      rfl
    refine pure_ (i := 5) (N := some 26) (v := ?_) (a' := ?_) #[true, false, true, true, false, true, false, false, false, false, false, false, false, false] rfl rfl (by kernel_rfl) (fun _ _ _ h => h) (Or.inl ⟨by rfl, ?_⟩) ?_ ?_
    rotate_left
    · intro w'
      go_simp
      with_reducible rfl
    rotate_left
    · simp only [Act.put, List.setIfInBounds_toArray, List.set_cons_zero, List.set_cons_succ, i64_w, i32_w]
      rfl
    refine pure_ (i := 6) (N := some 27) (v := ?_) (a' := ?_) #[true, false, true, true, false, true, true, false, false, false, false, false, false, false] rfl rfl (by kernel_rfl) (fun _ _ _ h => h) (Or.inl ⟨by rfl, ?_⟩) ?_ ?_
    rotate_left
    · intro w'
      go_simp
      with_reducible rfl
    rotate_left
    · simp only [Act.put, List.setIfInBounds_toArray, List.set_cons_zero, List.set_cons_succ, i64_w, i32_w]
      rfl
    refine pure_ (i := 8) (N := some 29) (v := ?_) (a' := ?_) #[true, false, true, true, false, true, true, false, true, false, false, false, false, false] rfl rfl (by kernel_rfl) (fun _ _ _ h => h) (Or.inl ⟨by rfl, ?_⟩) ?_ ?_
    rotate_left
    · intro w'
      go_simp
      with_reducible rfl
    rotate_left
    · simp only [Act.put, List.setIfInBounds_toArray, List.set_cons_zero, List.set_cons_succ, i64_w, i32_w]
      rfl
    refine take_ (i := 1) (N := some 22) (v := ?_) (a' := ?_) #[true, true, true, true, false, true, true, false, true, false, false, false, false, false] rfl rfl (by kernel_rfl) (fun _ _ _ h => h) (Or.inl ⟨by rfl, ?_⟩) hHeld ?_ ?_
    rotate_left
    · rintro w' ⟨s0, s1⟩
      go_simp
      with_reducible rfl
    rotate_left
    · simp only [Act.put, List.setIfInBounds_toArray, List.set_cons_zero, List.set_cons_succ, i64_w, i32_w]
      rfl
    refine take_ (i := 9) (N := some 30) (v := ?_) (a' := ?_) #[true, true, true, true, false, true, true, false, true, true, false, false, false, false] rfl rfl (by kernel_rfl) (fun _ _ _ h => h) (Or.inl ⟨by rfl, ?_⟩) hHeld ?_ ?_
    rotate_left
    · rintro w' ⟨s0, s1⟩
      go_simp
      with_reducible rfl
    rotate_left
    · simp only [Act.put, List.setIfInBounds_toArray, List.set_cons_zero, List.set_cons_succ, i64_w, i32_w]
      rfl
    refine pure_ (i := 10) (N := some 31) (v := ?_) (a' := ?_) #[true, true, true, true, false, true, true, false, true, true, true, false, false, false] rfl rfl (by kernel_rfl) (fun _ _ _ h => h) (Or.inl ⟨by rfl, ?_⟩) ?_ ?_
    rotate_left
    · intro w'
      go_simp
      with_reducible rfl
    rotate_left
    · simp only [Act.put, List.setIfInBounds_toArray, List.set_cons_zero, List.set_cons_succ, i64_w, i32_w]
      rfl
    refine join_ (σ := Value × Value × Nat) 2 #[true, true, true, true, true, true, true, true, true, true, true, true, false, false] (fun s => [(25, s.1), (28, s.2.1), (32, .slice (some ⟨s.2.2, 0, none⟩) 4 4)]) (fun s w' => (w'.cell? ⟨w.heap.size, 0, none⟩ = some (.int .i64 1) ∧ w'.cell? ⟨w.heap.size, 30, none⟩ = some (.int .i64 x.pr)) ∧ Kd.R (Kd.int .u8) 5 w' w1.heap.size (fun _ => True) s.2.1 ((hd24 1 0 li ep) ++ x.no) ∧ w'.heap[s.2.2]? = some (.cells #[.int .u8 (x.pr % 256), .int .u8 0, .int .u8 0, .int .u8 0] 5 (0, 0)) ∧ Below w1.heap.size w1 w') ?_ ?_
    rotate_left
    · intro hCont
      refine two_ (i := 4) (j := 11) (Ni := some 25) (Nj := some 32) #[true, true, true, true, true, true, true, false, true, true, true, false, false, false] #[true, true, true, true, false, true, true, false, true, true, true, true, false, false] rfl rfl rfl rfl (by kernel_rfl) (by decide) (by decide) (fun K hK => ?_) (fun K hK => ?_)
      · skip
        refine goes_ Try.func34 (by kernel_rfl) rfl #[.int .i64 1, .int .i64 0, .int .u32 li, .int .u32 ep] (by rfl) rfl rfl (by simp only [List.map_toArray, List.map_cons, List.map_nil]; rfl) ?_
        with_reducible refine (head0_calls 1 li ep _).mono ?_
        rintro e wA ⟨vH, rfl, hrA, hbA⟩
        refine ⟨_, rfl, ?_⟩
        have KA : Below w1.heap.size w1 wA := below_step (Below.refl _ _).drew hbA
        have RA : Kd.R (Kd.int .u8) 5 wA w1.heap.size (fun _ => True) vH (hd24 1 0 li ep) := hrA
        refine hK.out _ _ ⟨(pw_cell_below KA kop), (pw_cell_below KA kpr)⟩ (fun hHeld => ?_)
        clear hK K
        refine norm_ (a' := ?_) ?_ ?_
        rotate_left
        · show Act.put _ (some 25) _ = _
          simp only [Act.put, List.setIfInBounds_toArray, List.set_cons_zero, List.set_cons_succ, i64_w, i32_w]
          rfl
        refine two_ (i := 7) (j := 11) (Ni := some 28) (Nj := some 32) #[true, true, true, true, true, true, true, true, true, true, true, false, false, false] #[true, true, true, true, true, true, true, false, true, true, true, true, false, false] rfl rfl rfl rfl (by kernel_rfl) (by decide) (by decide) (fun K hK => ?_) (fun K hK => ?_)
        · skip
          refine Kd.R_append_rows_step (Kd.int .u8) (Rr := (Kd.int .u8).K _) (w0 := w1) w1.heap.size (by rfl) (.tmp 25) (.tmp 27) 22 5 (.int .u8 0) 1 rfl Try.underlying22 info_u8 rfl (by decide) (by decide) vH (hd24 1 0 li ep) x.no (some ⟨w.heap.size, 18, none⟩) 12 12 (fun _ => True) (fun _ => False) rfl rfl RA (Kd.C_below CN.out KA) (fun _ _ h => h) (fun _ hk => hk.elim) (fun _ _ => trivial) KA KA.size (by show (24 + 12) * 1 ≤ _; decide) ?_
          intro vB wB hrB hbB hgB hatB
          have KB : Below w1.heap.size w1 wB := hbB
          refine hK.out _ _ ⟨(pw_cell_below KB kop), (pw_cell_below KB kpr)⟩ (fun hHeld => ?_)
          clear hK K
          refine norm_ (a' := ?_) ?_ ?_
          rotate_left
          · show Act.put _ (some 28) _ = _
            simp only [Act.put, List.setIfInBounds_toArray, List.set_cons_zero, List.set_cons_succ, i64_w, i32_w]
            rfl
          refine one_ (i := 11) (N := some 32) #[true, true, true, true, true, true, true, true, true, true, true, true, false, false] rfl rfl (by kernel_rfl) (by decide) (fun K hK => ?_)
          refine value_ (w1 := ?_) (v := ?_) (by rfl) rfl ?_ ?_
          rotate_left 2
          · go_simp
            constructor
            · rfl
            · rfl
          refine hK.out _ _ ⟨(cell_alloc_old (pw_cell_below KB kop) _), (cell_alloc_old (pw_cell_below KB kpr) _)⟩ (fun hHeld => ?_)
          clear hK K
          refine norm_ (a' := ?_) ?_ ?_
          rotate_left
          · show Act.put _ (some 32) _ = _
            simp only [Act.put, List.setIfInBounds_toArray, List.set_cons_zero, List.set_cons_succ, i64_w, i32_w]
            rfl
          exact norm_ (by simp only [putAll, Act.put, List.setIfInBounds_toArray, List.set_cons_zero, List.set_cons_succ]) (hCont (vH, vB, wB.heap.size) _ ⟨hHeld, Kd.R_alloc hrB _, blk_new wB _, Below.alloc KB KB.size _⟩)
        · skip
          refine value_ (w1 := ?_) (v := ?_) (by rfl) rfl ?_ ?_
          rotate_left 2
          · go_simp
            constructor
            · rfl
            · rfl
          refine hK.out _ _ ⟨(cell_alloc_old (pw_cell_below KA kop) _), (cell_alloc_old (pw_cell_below KA kpr) _)⟩ (fun hHeld => ?_)
          clear hK K
          refine norm_ (a' := ?_) ?_ ?_
          rotate_left
          · show Act.put _ (some 32) _ = _
            simp only [Act.put, List.setIfInBounds_toArray, List.set_cons_zero, List.set_cons_succ, i64_w, i32_w]
            rfl
          refine one_ (i := 7) (N := some 28) #[true, true, true, true, true, true, true, true, true, true, true, true, false, false] rfl rfl (by kernel_rfl) (by decide) (fun K hK => ?_)
          refine Kd.R_append_rows_step (Kd.int .u8) (Rr := (Kd.int .u8).K _) (w0 := w1) w1.heap.size (by rfl) (.tmp 25) (.tmp 27) 22 5 (.int .u8 0) 1 rfl Try.underlying22 info_u8 rfl (by decide) (by decide) vH (hd24 1 0 li ep) x.no (some ⟨w.heap.size, 18, none⟩) 12 12 (fun _ => True) (fun _ => False) rfl rfl (Kd.R_alloc RA (.cells #[.int .u8 (IntKind.u8.wrap x.pr), .int .u8 0, .int .u8 0, .int .u8 0] 5)) (Kd.C_below CN.out (Below.alloc KA KA.size (.cells #[.int .u8 (IntKind.u8.wrap x.pr), .int .u8 0, .int .u8 0, .int .u8 0] 5))) (fun _ _ h => h) (fun _ hk => hk.elim) (fun _ _ => trivial) (Below.alloc KA KA.size (.cells #[.int .u8 (IntKind.u8.wrap x.pr), .int .u8 0, .int .u8 0, .int .u8 0] 5)) (Below.alloc KA KA.size (.cells #[.int .u8 (IntKind.u8.wrap x.pr), .int .u8 0, .int .u8 0, .int .u8 0] 5)).size (by show (24 + 12) * 1 ≤ _; decide) ?_
          intro vB wB hrB hbB hgB hatB
          have KB : Below w1.heap.size w1 wB := hbB
          have LB := blk_grown (blk_new wA (.cells #[.int .u8 (IntKind.u8.wrap x.pr), .int .u8 0, .int .u8 0, .int .u8 0] 5)) hgB (fun he => by have := R_lt' (Kd.R_mono RA (fun _ _ => trivial)) he.symm; omega)
          refine hK.out _ _ ⟨(pw_cell_below KB kop), (pw_cell_below KB kpr)⟩ (fun hHeld => ?_)
          clear hK K
          refine norm_ (a' := ?_) ?_ ?_
          rotate_left
          · show Act.put _ (some 28) _ = _
            simp only [Act.put, List.setIfInBounds_toArray, List.set_cons_zero, List.set_cons_succ, i64_w, i32_w]
            rfl
          exact norm_ (by simp only [putAll, Act.put, List.setIfInBounds_toArray, List.set_cons_zero, List.set_cons_succ]) (hCont (vH, vB, wA.heap.size) _ ⟨hHeld, hrB, LB, KB⟩)
      · skip
        refine value_ (w1 := ?_) (v := ?_) (by rfl) rfl ?_ ?_
        rotate_left 2
        · go_simp
          constructor
          · rfl
          · rfl
        refine hK.out _ _ ⟨(cell_alloc_old (w := w1.drew) kop _), (cell_alloc_old (w := w1.drew) kpr _)⟩ (fun hHeld => ?_)
        clear hK K
        refine norm_ (a' := ?_) ?_ ?_
        rotate_left
        · show Act.put _ (some 32) _ = _
          simp only [Act.put, List.setIfInBounds_toArray, List.set_cons_zero, List.set_cons_succ, i64_w, i32_w]
          rfl
        refine one_ (i := 4) (N := some 25) #[true, true, true, true, true, true, true, false, true, true, true, true, false, false] rfl rfl (by kernel_rfl) (by decide) (fun K hK => ?_)
        refine goes_ Try.func34 (by kernel_rfl) rfl #[.int .i64 1, .int .i64 0, .int .u32 li, .int .u32 ep] (by rfl) rfl rfl (by simp only [List.map_toArray, List.map_cons, List.map_nil]; rfl) ?_
        with_reducible refine (head0_calls 1 li ep _).mono ?_
        rintro e wA ⟨vH, rfl, hrA, hbA⟩
        refine ⟨_, rfl, ?_⟩
        have KA : Below w1.heap.size w1 wA := below_step (below_alloc (Below.refl _ _) (.cells #[.int .u8 (IntKind.u8.wrap x.pr), .int .u8 0, .int .u8 0, .int .u8 0] 5)).drew hbA
        have RA := Kd.R_lower hrA (show w1.heap.size ≤ _ from (below_alloc (Below.refl w1.heap.size w1) (.cells #[.int .u8 (IntKind.u8.wrap x.pr), .int .u8 0, .int .u8 0, .int .u8 0] 5)).size)
        have LA := blk_below (blk_drew (blk_new w1 (.cells #[.int .u8 (IntKind.u8.wrap x.pr), .int .u8 0, .int .u8 0, .int .u8 0] 5))) hbA
        have NB : ∀ k, vH.ownBlock = some k → w1.heap.size < k := fun k hk => by have h1 := R_ge hrA hk; have h2 : (w1.alloc (.cells #[.int .u8 (IntKind.u8.wrap x.pr), .int .u8 0, .int .u8 0, .int .u8 0] 5)).drew.heap.size = w1.heap.size + 1 := World.size_alloc _ _; omega
        refine hK.out _ _ ⟨(pw_cell_below KA kop), (pw_cell_below KA kpr)⟩ (fun hHeld => ?_)
        clear hK K
        refine norm_ (a' := ?_) ?_ ?_
        rotate_left
        · show Act.put _ (some 25) _ = _
          simp only [Act.put, List.setIfInBounds_toArray, List.set_cons_zero, List.set_cons_succ, i64_w, i32_w]
          rfl
        refine one_ (i := 7) (N := some 28) #[true, true, true, true, true, true, true, true, true, true, true, true, false, false] rfl rfl (by kernel_rfl) (by decide) (fun K hK => ?_)
        refine Kd.R_append_rows_step (Kd.int .u8) (Rr := (Kd.int .u8).K _) (w0 := w1) w1.heap.size (by rfl) (.tmp 25) (.tmp 27) 22 5 (.int .u8 0) 1 rfl Try.underlying22 info_u8 rfl (by decide) (by decide) vH (hd24 1 0 li ep) x.no (some ⟨w.heap.size, 18, none⟩) 12 12 (fun _ => True) (fun _ => False) rfl rfl RA (Kd.C_below CN.out KA) (fun _ _ h => h) (fun _ hk => hk.elim) (fun _ _ => trivial) KA KA.size (by show (24 + 12) * 1 ≤ _; decide) ?_
        intro vB wB hrB hbB hgB hatB
        have KB : Below w1.heap.size w1 wB := hbB
        have LB := blk_grown LA hgB (fun he => by have := NB _ he.symm; omega)
        refine hK.out _ _ ⟨(pw_cell_below KB kop), (pw_cell_below KB kpr)⟩ (fun hHeld => ?_)
        clear hK K
        refine norm_ (a' := ?_) ?_ ?_
        rotate_left
        · show Act.put _ (some 28) _ = _
          simp only [Act.put, List.setIfInBounds_toArray, List.set_cons_zero, List.set_cons_succ, i64_w, i32_w]
          rfl
        exact norm_ (by simp only [putAll, Act.put, List.setIfInBounds_toArray, List.set_cons_zero, List.set_cons_succ]) (hCont (vH, vB, w1.heap.size) _ ⟨hHeld, hrB, LB, KB⟩)
    rintro ⟨vH, vB, bL⟩ w6 ⟨hH, hR6, hL6, hB6⟩
    have hHeld : w6.cell? ⟨w.heap.size, 0, none⟩ = some (.int .i64 1) ∧ w6.cell? ⟨w.heap.size, 30, none⟩ = some (.int .i64 x.pr) := hH
    have R6 : Aside0 (Kd.R (Kd.int .u8) 5 w6 w1.heap.size (fun _ => True) vB ((hd24 1 0 li ep) ++ x.no)) := ⟨hR6⟩
    have C6 : Aside0 (Kd.C (Kd.int .u8) w6 (some ⟨bL, 0, none⟩) 4 [x.pr % 256, 0, 0, 0]) := ⟨C_arr (l := [x.pr % 256, 0, 0, 0]) hL6 (by simp)⟩
    have B6 : Aside0 (Below w1.heap.size w1 w6) := ⟨hB6⟩
    clear hR6 hL6 hB6 hH
    refine norm_ (a' := ?_) ?_ ?_
    rotate_left
    · simp only [putAll, Act.put, List.setIfInBounds_toArray, List.set_cons_zero, List.set_cons_succ]
      rfl
    refine last_ (i := 12) (N := some 33) #[true, true, true, true, true, true, true, true, true, true, true, true, true, false] rfl rfl (by kernel_rfl) (by decide) (fun K hK => ?_)
    refine Kd.R_append_rows_step (Kd.int .u8) (Rr := (Kd.int .u8).K _) (w0 := w1) w1.heap.size (by rfl) (.tmp 28) (.tmp 32) 22 5 (.int .u8 0) 1 rfl Try.underlying22 info_u8 rfl (by decide) (by decide) vB ((hd24 1 0 li ep) ++ x.no) [x.pr % 256, 0, 0, 0] (some ⟨bL, 0, none⟩) 4 4 (fun _ => True) (fun _ => False) rfl rfl R6.out C6.out (fun _ _ h => h) (fun _ hk => hk.elim) (fun _ _ => trivial) B6.out B6.out.size (by rw [List.length_append, HX.out.no]; show (24 + 12 + 4) * 1 ≤ _; decide) ?_
    intro v9 w9 hr9 hb9 _ _
    have R9 := Aside0.mk hr9
    have B9 := Aside0.mk hb9
    clear hr9 hb9
    refine hK.out _ _ ?_
    clear hK K
    refine norm_ (a' := ?_) ?_ ?_
    rotate_left
    · show Act.put _ (some 33) _ = _
      simp only [Act.put, List.setIfInBounds_toArray, List.set_cons_zero, List.set_cons_succ, i64_w, i32_w]
      rfl
    refine pure_ (i := 13) (N := some 9) (v := ?_) (a' := ?_) #[true, true, true, true, true, true, true, true, true, true, true, true, true, true] rfl rfl (by kernel_rfl) (fun _ _ _ h => h) (Or.inl ⟨by rfl, ?_⟩) ?_ ?_
    rotate_left
    · intro w'
      go_simp
      with_reducible rfl
    rotate_left
    · simp only [Act.put, List.setIfInBounds_toArray, List.set_cons_zero, List.set_cons_succ, i64_w, i32_w]
      rfl
    refine done_ (by kernel_rfl) ?_
    have HB40 : Aside0 (hd24 1 0 li ep ++ x.no ++ [x.pr % 256, 0, 0, 0] = b40 x li ep) := ⟨by unfold b40; rw [HOPE.out]⟩
    rw [HB40.out] at R9
    have L40 : Aside0 ((b40 x li ep).length = 40) := ⟨by unfold b40; rw [List.length_append, List.length_append, HX.out.no]; rfl⟩
    clear R6 C6 B6 CN kpr
    go_upto_region 4 with fail
    refine start_ (n := 10) (S := fun w' => w'.cell? ⟨w.heap.size, 31, none⟩ = some (.int .i64 x.po) ∧ w'.cell? ⟨w.heap.size + 1, 1, none⟩ = some (.int .i64 op)) (ds := [8]) #[false, false, false, false, false, false, false, false, false, false] (by kernel_rfl) rfl rfl ⟨(pw_cell_below B9.out kpo), (pw_cell_below B9.out kop1)⟩ (fun hHeld => ?_)
    refine pure_ (i := 0) (N := some 34) (v := ?_) (a' := ?_) #[true, false, false, false, false, false, false, false, false, false] rfl rfl (by kernel_rfl) (fun _ _ _ h => h) (Or.inl ⟨by rfl, ?_⟩) ?_ ?_
    rotate_left
    · intro w'
      go_simp
      with_reducible rfl
    rotate_left
    · simp only [Act.put, List.setIfInBounds_toArray, List.set_cons_zero, List.set_cons_succ, i64_w, i32_w]
      rfl
    refine pure_ (i := 1) (N := some 35) (v := ?_) (a' := ?_) #[true, true, false, false, false, false, false, false, false, false] rfl rfl (by kernel_rfl) (fun _ _ _ h => h) (Or.inl ⟨by rfl, ?_⟩) ?_ ?_
    rotate_left
    · intro w'
      go_simp
      with_reducible rfl
    rotate_left
    · simp only [Act.put, List.setIfInBounds_toArray, List.set_cons_zero, List.set_cons_succ, i64_w, i32_w]
      rfl
    refine pure_ (i := 5) (N := some 39) (v := ?_) (a' := ?_) #[true, true, false, false, false, true, false, false, false, false] rfl rfl (by kernel_rfl) (fun _ _ _ h => h) (Or.inl ⟨by rfl, ?_⟩) ?_ ?_
    rotate_left
    · intro w'
      go_simp
      with_reducible rfl
    rotate_left
    · simp only [Act.put, List.setIfInBounds_toArray, List.set_cons_zero, List.set_cons_succ, i64_w, i32_w]
      rfl
    refine take_ (i := 2) (N := some 36) (v := ?_) (a' := ?_) #[true, true, true, false, false, true, false, false, false, false] rfl rfl (by kernel_rfl) (fun _ _ _ h => h) (Or.inl ⟨by rfl, ?_⟩) hHeld ?_ ?_
    rotate_left
    · rintro w' ⟨s0, s1⟩
      go_simp
      with_reducible rfl
    rotate_left
    · simp only [Act.put, List.setIfInBounds_toArray, List.set_cons_zero, List.set_cons_succ, i64_w, i32_w]
      rfl
    refine take_ (i := 6) (N := some 40) (v := ?_) (a' := ?_) #[true, true, true, false, false, true, true, false, false, false] rfl rfl (by kernel_rfl) (fun _ _ _ h => h) (Or.inl ⟨by rfl, ?_⟩) hHeld ?_ ?_
    rotate_left
    · rintro w' ⟨s0, s1⟩
      go_simp
      with_reducible rfl
    rotate_left
    · simp only [Act.put, List.setIfInBounds_toArray, List.set_cons_zero, List.set_cons_succ, i64_w, i32_w]
      rfl
    refine one_ (i := 3) (N := some 37) #[true, true, true, true, false, true, true, false, false, false] rfl rfl (by kernel_rfl) (by decide) (fun K hK => ?_)
    refine goes_ Try.func36 (by kernel_rfl) rfl #[.int .i64 x.po] (by rfl) rfl rfl (by simp only [List.map_toArray, List.map_cons, List.map_nil]; rfl) ?_
    with_reducible refine (two_calls x.po _).mono ?_
    rintro e wC ⟨vT, rfl, hrwC, hbwC⟩
    refine ⟨_, rfl, ?_⟩
    have KC : Below w1.heap.size w1 wC := below_step B9.out.drew hbwC
    have RwC := Kd.R_below (Kd.R_drew R9.out) hbwC
    obtain ⟨AwC, cwC, rfl⟩ := Kd.R_slice hrwC
    have CwC := (Kd.R_reads' hrwC).2.2
    refine hK.out _ _ ⟨(pw_cell_below KC kpo), (pw_cell_below KC kop1)⟩ (fun hHeld => ?_)
    clear hK K
    refine norm_ (a' := ?_) ?_ ?_
    rotate_left
    · show Act.put _ (some 37) _ = _
      simp only [Act.put, List.setIfInBounds_toArray, List.set_cons_zero, List.set_cons_succ, i64_w, i32_w]
      rfl
    refine one_ (i := 4) (N := some 38) #[true, true, true, true, true, true, true, false, false, false] rfl rfl (by kernel_rfl) (by decide) (fun K hK => ?_)
    refine Kd.R_append_rows_step (Kd.int .u8) (Rr := (Kd.int .u8).K _) (w0 := w1) w1.heap.size (by rfl) (.tmp 34) (.tmp 37) 22 5 (.int .u8 0) 1 rfl Try.underlying22 info_u8 rfl (by decide) (by decide) v9 (b40 x li ep) (twoL x.po) AwC _ cwC (fun _ => True) (fun _ => False) rfl rfl RwC CwC (fun _ _ h => h) (fun _ hk => hk.elim) (fun _ _ => trivial) KC KC.size (by rw [L40.out]; show (40 + 2) * 1 ≤ _; decide) ?_
    intro vD wD hrD hbD _ _
    have KD : Below w1.heap.size w1 wD := hbD
    refine hK.out _ _ ⟨(pw_cell_below KD kpo), (pw_cell_below KD kop1)⟩ (fun hHeld => ?_)
    clear hK K
    refine norm_ (a' := ?_) ?_ ?_
    rotate_left
    · show Act.put _ (some 38) _ = _
      simp only [Act.put, List.setIfInBounds_toArray, List.set_cons_zero, List.set_cons_succ, i64_w, i32_w]
      rfl
    refine one_ (i := 7) (N := some 41) #[true, true, true, true, true, true, true, true, false, false] rfl rfl (by kernel_rfl) (by decide) (fun K hK => ?_)
    refine goes_ Try.func36 (by kernel_rfl) rfl #[.int .i64 op] (by rfl) rfl rfl (by simp only [List.map_toArray, List.map_cons, List.map_nil]; rfl) ?_
    with_reducible refine (two_calls op _).mono ?_
    rintro e wE ⟨vU, rfl, hrwE, hbwE⟩
    refine ⟨_, rfl, ?_⟩
    have KE : Below w1.heap.size w1 wE := below_step KD hbwE
    have RwE := Kd.R_below hrD hbwE
    obtain ⟨AwE, cwE, rfl⟩ := Kd.R_slice hrwE
    have CwE := (Kd.R_reads' hrwE).2.2
    refine hK.out _ _ ⟨(pw_cell_below KE kpo), (pw_cell_below KE kop1)⟩ (fun hHeld => ?_)
    clear hK K
    refine norm_ (a' := ?_) ?_ ?_
    rotate_left
    · show Act.put _ (some 41) _ = _
      simp only [Act.put, List.setIfInBounds_toArray, List.set_cons_zero, List.set_cons_succ, i64_w, i32_w]
      rfl
    refine last_ (i := 8) (N := some 42) #[true, true, true, true, true, true, true, true, true, false] rfl rfl (by kernel_rfl) (by decide) (fun K hK => ?_)
    refine Kd.R_append_rows_step (Kd.int .u8) (Rr := (Kd.int .u8).K _) (w0 := w1) w1.heap.size (by rfl) (.tmp 38) (.tmp 41) 22 5 (.int .u8 0) 1 rfl Try.underlying22 info_u8 rfl (by decide) (by decide) vD (b40 x li ep ++ twoL x.po) (twoL op) AwE _ cwE (fun _ => True) (fun _ => False) rfl rfl RwE CwE (fun _ _ h => h) (fun _ hk => hk.elim) (fun _ _ => trivial) KE KE.size (by rw [List.length_append, L40.out]; show (40 + 2 + 2) * 1 ≤ _; decide) ?_
    intro v10 w10 hr10 hb10 _ _
    have R10 := Aside0.mk hr10
    have B10 := Aside0.mk hb10
    clear hr10 hb10
    refine hK.out _ _ ?_
    clear hK K
    refine norm_ (a' := ?_) ?_ ?_
    rotate_left
    · show Act.put _ (some 42) _ = _
      simp only [Act.put, List.setIfInBounds_toArray, List.set_cons_zero, List.set_cons_succ, i64_w, i32_w]
      rfl
    refine pure_ (i := 9) (N := some 9) (v := ?_) (a' := ?_) #[true, true, true, true, true, true, true, true, true, true] rfl rfl (by kernel_rfl) (fun _ _ _ h => h) (Or.inl ⟨by rfl, ?_⟩) ?_ ?_
    rotate_left
    · intro w'
      go_simp
      with_reducible rfl
    rotate_left
    · simp only [Act.put, List.setIfInBounds_toArray, List.set_cons_zero, List.set_cons_succ, i64_w, i32_w]
      rfl
    refine done_ (by kernel_rfl) ?_
    clear R9 B9 kpo kop1
    have koa10 := pw_cell_below B10.out koa
    go_wp2_with fail
    refine (Wide_calls oa _).mono ?_
    rintro e w11 ⟨rfl, hb11⟩
    have R11 := Aside0.mk (Kd.R_below R10.out hb11)
    have B11 := Aside0.mk (below_step B10.out hb11)
    clear hb11 koa koa10 R10 B10
    have N11 := Aside0.mk (blk_new w11 (.cells (encs (Value.int .u8) z16).toArray 25))
    unfold arr
    go_upto_region 6 with (refine wp_fill rfl 25 (.tmp 10) (.tmp 45) rfl w11.heap.size _ 25 (encs (Value.int .u8) (wideL oa)) N11.out rfl rfl rfl (by rw [info25]; rfl) (one_u8 _) ?_; intro w12 hx12 hf12; have X12 := Aside0.mk hx12; have K12 : Aside0 (Below w11.heap.size w11 w12) := ⟨below_fr (below_alloc (Below.refl _ _) (.cells (encs (Value.int .u8) z16).toArray 25)) (by rw [World.size_alloc]; exact Nat.le_succ _) hf12 (fun k hk => by rw [hk]; exact Nat.le_refl _)⟩; clear hx12 hf12)
    have R12 := Aside0.mk (Kd.R_below R11.out K12.out)
    have B12 := Aside0.mk (below_step B11.out K12.out)
    have C12 : Aside0 (Kd.C (Kd.int .u8) w12 (some ⟨w11.heap.size, 0, none⟩) 16 (wideL oa)) := ⟨C_arr (l := wideL oa) X12.out (by show 16 ≤ _; decide)⟩
    clear R11 B11 N11 K12 X12
    go_upto_region 7 with ((with_reducible refine gate_builtin (b := .append) (xs := #[.tmp 46, .tmp 47]) rfl ?_); at_builtin; refine Kd.R_append_row (Value.int .u8) (0 : Int) (w0 := w1) w1.heap.size rfl (.tmp 46) (.tmp 47) 22 5 (.int .u8 0) 1 rfl Try.underlying22 info_u8 rfl (Nat.succ_pos _) v10 (b40 x li ep ++ twoL x.po ++ twoL op) (wideL oa) (some ⟨w11.heap.size, 0, none⟩) 16 16 (fun _ => True) rfl rfl (fun _ _ => trivial) R12.out C12.out B12.out B12.out.size (by rw [List.length_append, List.length_append, L40.out]; show (40 + 2 + 2 + 16) * 1 ≤ _; decide) ?_; intro v13 w13 hr_ hb_ _ _; have Rw13 := Aside0.mk hr_; have Bw13 := Aside0.mk hb_; clear hr_ hb_)
    have HB60 : Aside0 (b40 x li ep ++ twoL x.po ++ twoL op ++ wideL oa = b60 x li ep oa op) := ⟨rfl⟩
    rw [HB60.out] at Rw13
    have L60 : Aside0 ((b60 x li ep oa op).length = 60) := ⟨by unfold b60; rw [List.length_append, List.length_append, List.length_append, L40.out]; rfl⟩
    clear R12 B12 C12
    have kop2 := pw_cell_below Bw13.out kop
    have HBG : Aside0 (b60 x li ep oa op = baseG x li ep oa op) := ⟨by unfold baseG; rw [if_neg (by rw [HOPE.out]; decide)]⟩
    rw [HBG.out] at Rw13
    have RB0 := Rw13
    have BB0 := Bw13
    have kos0 : w1.cell? ⟨w.heap.size, 66, none⟩ = some (.slice A1 L.length c1) := P1.out.kos O1.out
    have kos := pw_cell_below BB0.out kos0
    obtain ⟨A0_, c0_, rfl⟩ := Kd.R_slice RB0.out
    have RF0 : Aside0 (Kd.R (Kd.int .u8) 5 w13 w1.heap.size (fun _ => True) (.slice A0_ (baseG x li ep oa op).length c0_) (baseG x li ep oa op ++ (L.take 0).flatMap optB)) := ⟨by rw [List.take_zero, List.flatMap_nil, List.append_nil]; exact RB0.out⟩
    have LE0 : Aside0 ((baseG x li ep oa op).length = (baseG x li ep oa op ++ (L.take 0).flatMap optB).length) := ⟨by rw [List.take_zero, List.flatMap_nil, List.append_nil]⟩
    go_upto_region 11 with fail
    go_loopg [9, 66] L.length (fun q v9 v66 wr => ∃ (i n9 c9 : Nat) (A9 : Option Addr), v66 = .int .i64 (i : Int) ∧ v9 = .slice A9 n9 c9 ∧ Aside0 (i + q = L.length) ∧ Aside0 (n9 = (baseG x li ep oa op ++ (L.take i).flatMap optB).length) ∧ Aside0 (Kd.R (Kd.int .u8) 5 wr w1.heap.size (fun _ => True) (.slice A9 n9 c9) (baseG x li ep oa op ++ (L.take i).flatMap optB)) ∧ Aside0 (Below w1.heap.size w1 wr))
    case atStart => exact ⟨0, _, c0_, A0_, rfl, rfl, ⟨by omega⟩, LE0, RF0, BB0⟩
    case round =>
      clear RF0 RB0 BB0 LE0 kos kos0
      obtain ⟨i, n9, c9, A9, rfl, rfl, Hi, HN9, RO, BO⟩ := hrel
      have HPL : Aside0 ((baseG x li ep oa op ++ (L.take i).flatMap optB).length ≤ 1100) := ⟨by
        have h := HL.out.2.2
        unfold grantG at h
        rw [← List.take_append_drop i L, List.flatMap_append, List.length_append, List.length_append] at h
        rw [List.length_append]
        omega⟩
      cases gk with
      | zero =>
        have hlt : ¬ ((i : Int) < (L.length : Int)) := by have := Hi.out; omega
        have hlb := decide_eq_false hlt
        have HF : Aside0 (baseG x li ep oa op ++ (L.take i).flatMap optB = grantG x li ep oa op L) := ⟨by rw [List.take_of_length_le (by have := Hi.out; omega)]; rfl⟩
        have h11 : ¬ (n9 : Int) > 1100 := by have h1 := HN9.out; have h2 := HPL.out; omega
        have h11b := decide_eq_false h11
        go_wp2
        go_ret
        exact ⟨_, rfl, by rw [← HF.out]; exact Kd.R_lower RO.out B1.out.size, below_step B1.out (by exact BO.out)⟩
      | succ q =>
        have hlt : (i : Int) < (L.length : Int) := by have := Hi.out; omega
        have hlb := decide_eq_true hlt
        have hi0 : (0 : Int) ≤ i ∧ (i : Int) < (L.length : Int) := ⟨by omega, hlt⟩
        obtain ⟨adL, A5, c5, e1, ka1, kb1, lb, cb⟩ := at_T45 HC1.out (i : Int) (by omega) hlt
        have ka := pw_cell_below BO.out ka1
        have kb := pw_cell_below BO.out kb1
        clear ka1 kb1
        have HDR : Aside0 (L.take (i + 1) = L.take i ++ [rd_T45 L i]) := ⟨take_rd45 L i (by omega)⟩
        have HLO : Aside0 ((rd_T45 L i).f1.length ≤ 1100) := ⟨by
          refine HL.out.2.1 _ ?_
          unfold rd_T45
          have hi' : i < L.length := by omega
          simp [List.getD_eq_getElem?_getD, List.getElem?_eq_getElem hi']⟩
        subst e1
        obtain ⟨o, hoo⟩ : ∃ o, rd_T45 L i = o := ⟨_, rfl⟩
        rw [hoo] at ka kb lb cb HDR HLO
        rw [Int.toNat_natCast] at ka kb
        clear hoo
        obtain ⟨xf, hxf⟩ : ∃ x, o.f0 = x := ⟨_, rfl⟩
        have HXF := Aside0.mk hxf
        rw [hxf] at ka
        have hil : (i : Int) ≤ 1100 := by have h1 := Hi.out; have h2 := HL.out.1; omega
        have C1o : Aside0 (Kd.C (Kd.int .u8) w1 A5 o.f1.length o.f1) := ⟨cb⟩
        have N3 := Aside0.mk (blk_new wr (.cells #[.int .i64 0, .slice none 0 0] 45))
        clear hxf cb lb
        obtain ⟨LS, hLS⟩ : ∃ LS, baseG x li ep oa op ++ (L.take i).flatMap optB = LS := ⟨_, rfl⟩
        have HLSE := Aside0.mk hLS
        rw [hLS] at RO HN9 HPL
        clear hLS
        go_upto_region 13 with (refine wp_fill rfl 45 (.tmp 12) (.tmp 69) rfl wr.heap.size _ 45 [.int .i64 xf, .slice A5 o.f1.length c5] N3.out rfl rfl rfl info45s (one2 _ _ _ _) ?_; intro w3 hx3 hf3; have X3 : Aside0 (w3.heap[wr.heap.size]? = some (.cells #[.int .i64 xf, .slice A5 o.f1.length c5] 45 (0, 0))) := ⟨hx3⟩; have K3 : Aside0 (Below wr.heap.size wr w3) := ⟨below_fr (below_alloc (Below.refl _ _) (.cells #[.int .i64 0, .slice none 0 0] 45)) (by rw [World.size_alloc]; exact Nat.le_succ _) hf3 (fun k hk => by rw [hk]; exact Nat.le_refl _)⟩; clear hx3 hf3)
        have R3 := Aside0.mk (Kd.R_below RO.out K3.out)
        have B3 := Aside0.mk (below_step BO.out K3.out)
        have HLS := HPL
        clear N3 K3 ka kb BO
        obtain ⟨g4, hg4⟩ : ∃ g4, wr.heap.size = g4 := ⟨_, rfl⟩
        have HG4 := Aside0.mk hg4
        rw [hg4] at X3 ⊢
        have k40 : w3.cell? ⟨g4, 0, none⟩ = some (.int .i64 xf) := blk_cell X3.out 0
        have k41 : w3.cell? ⟨g4, 1, none⟩ = some (.slice A5 o.f1.length c5) := blk_cell X3.out 1
        have h13 : ¬ (o.f1.length : Int) > 1100 := by have := HLO.out; omega
        have h13b := decide_eq_false h13
        have h14 : ¬ (n9 : Int) > 1100 := by have h1 := HN9.out; have h2 := HPL.out; omega
        have h14b := decide_eq_false h14
        go_upto_region 15 with fail
        clear h13b h14b h13 h14
        refine start_ (n := 12) (S := fun w' => w'.cell? ⟨g4, 0, none⟩ = some (.int .i64 xf) ∧ w'.cell? ⟨g4, 1, none⟩ = some (.slice A5 o.f1.length c5)) (ds := [9, 10]) #[false, false, false, false, false, false, false, false, false, false, false, false] (by kernel_rfl) rfl rfl ⟨k40, k41⟩ (fun hHeld => ?_)
        refine pure_ (i := 0) (N := some 79) (v := ?_) (a' := ?_) #[true, false, false, false, false, false, false, false, false, false, false, false] rfl rfl (by kernel_rfl) (fun _ _ _ h => h) (Or.inl ⟨by rfl, ?_⟩) ?_ ?_
        rotate_left
        · intro w'
          go_simp
          with_reducible rfl
        rotate_left
        · simp only [Act.put, List.setIfInBounds_toArray, List.set_cons_zero, List.set_cons_succ, i64_w, i32_w]
          rfl
        refine pure_ (i := 1) (N := some 80) (v := ?_) (a' := ?_) #[true, true, false, false, false, false, false, false, false, false, false, false] rfl rfl (by kernel_rfl) (fun _ _ _ h => h) (Or.inl ⟨by rfl, ?_⟩) ?_ ?_
        rotate_left
        · intro w'
          go_simp
          with_reducible rfl
        rotate_left
        · simp only [Act.put, List.setIfInBounds_toArray, List.set_cons_zero, List.set_cons_succ, i64_w, i32_w]
          rfl
        refine pure_ (i := 6) (N := some 85) (v := ?_) (a' := ?_) #[true, true, false, false, false, false, true, false, false, false, false, false] rfl rfl (by kernel_rfl) (fun _ _ _ h => h) (Or.inl ⟨by rfl, ?_⟩) ?_ ?_
        rotate_left
        · intro w'
          go_simp
          with_reducible rfl
        rotate_left
        · simp only [Act.put, List.setIfInBounds_toArray, List.set_cons_zero, List.set_cons_succ, i64_w, i32_w]
          rfl
        refine take_ (i := 2) (N := some 81) (v := ?_) (a' := ?_) #[true, true, true, false, false, false, true, false, false, false, false, false] rfl rfl (by kernel_rfl) (fun _ _ _ h => h) (Or.inl ⟨by rfl, ?_⟩) hHeld ?_ ?_
        rotate_left
        · rintro w' ⟨s0, s1⟩
          go_simp
          with_reducible rfl
        rotate_left
        · simp only [Act.put, List.setIfInBounds_toArray, List.set_cons_zero, List.set_cons_succ, i64_w, i32_w]
          rfl
        refine pure_ (i := 3) (N := some 82) (v := ?_) (a' := ?_) #[true, true, true, true, false, false, true, false, false, false, false, false] rfl rfl (by kernel_rfl) (fun _ _ _ h => h) (Or.inl ⟨by rfl, ?_⟩) ?_ ?_
        rotate_left
        · intro w'
          go_simp
          with_reducible rfl
        rotate_left
        · simp only [Act.put, List.setIfInBounds_toArray, List.set_cons_zero, List.set_cons_succ, i64_w, i32_w]
          rfl
        refine take_ (i := 7) (N := some 86) (v := ?_) (a' := ?_) #[true, true, true, true, false, false, true, true, false, false, false, false] rfl rfl (by kernel_rfl) (fun _ _ _ h => h) (Or.inl ⟨by rfl, ?_⟩) hHeld ?_ ?_
        rotate_left
        · rintro w' ⟨s0, s1⟩
          go_simp
          with_reducible rfl
        rotate_left
        · simp only [Act.put, List.setIfInBounds_toArray, List.set_cons_zero, List.set_cons_succ, i64_w, i32_w]
          rfl
        refine pure_ (i := 8) (N := some 87) (v := ?_) (a' := ?_) #[true, true, true, true, false, false, true, true, true, false, false, false] rfl rfl (by kernel_rfl) (fun _ _ _ h => h) (Or.inl ⟨by rfl, ?_⟩) ?_ ?_
        rotate_left
        · intro w'
          go_simp
          with_reducible rfl
        rotate_left
        · simp only [Act.put, List.setIfInBounds_toArray, List.set_cons_zero, List.set_cons_succ, i64_w, i32_w]
          rfl
        refine one_ (i := 4) (N := some 83) #[true, true, true, true, true, false, true, true, true, false, false, false] rfl rfl (by kernel_rfl) (by decide) (fun K hK => ?_)
        refine value_ (w1 := ?_) (v := ?_) (by rfl) rfl ?_ ?_
        rotate_left 2
        · go_simp
          constructor
          · rfl
          · rfl
        refine hK.out _ _ ⟨(cell_alloc_old (w := w3.drew) k40 _), (cell_alloc_old (w := w3.drew) k41 _)⟩ (fun hHeld => ?_)
        clear hK K
        refine norm_ (a' := ?_) ?_ ?_
        rotate_left
        · show Act.put _ (some 83) _ = _
          simp only [Act.put, List.setIfInBounds_toArray, List.set_cons_zero, List.set_cons_succ, i64_w, i32_w]
          rfl
        refine one_ (i := 5) (N := some 84) #[true, true, true, true, true, true, true, true, true, false, false, false] rfl rfl (by kernel_rfl) (by decide) (fun K hK => ?_)
        refine Kd.R_append_rows_step (Kd.int .u8) (Rr := (Kd.int .u8).K _) (w0 := w1) w1.heap.size (by rfl) (.tmp 79) (.tmp 83) 22 5 (.int .u8 0) 1 rfl Try.underlying22 info_u8 rfl (by decide) (by decide) (.slice A9 n9 c9) LS [xf % 256, 0] (some ⟨w3.heap.size, 0, none⟩) 2 2 (fun _ => True) (fun _ => False) rfl rfl (Kd.R_drew (Kd.R_alloc R3.out (.cells #[.int .u8 (IntKind.u8.wrap xf), .int .u8 0] 5))) (C_arr (l := [xf % 256, 0]) (blk_drew (blk_new w3 (.cells #[.int .u8 (IntKind.u8.wrap xf), .int .u8 0] 5))) (by simp)) (fun _ _ h => h) (fun _ hk => hk.elim) (fun _ _ => trivial) (Below.alloc B3.out B3.out.size (.cells #[.int .u8 (IntKind.u8.wrap xf), .int .u8 0] 5)).drew (Below.alloc B3.out B3.out.size (.cells #[.int .u8 (IntKind.u8.wrap xf), .int .u8 0] 5)).drew.size (by have := HLS.out; show (LS.length + 2) * 1 ≤ _; omega) ?_
        intro vF wF hrF hbF hgF hatF
        have KF : Below w1.heap.size w1 wF := hbF
        have X4F := blk_grown (blk_drew (blk_alloc X3.out (.cells #[.int .u8 (IntKind.u8.wrap xf), .int .u8 0] 5))) hgF (fun he => by have := R_lt' RO.out he.symm; omega)
        have hnF : ¬ vF.ownBlock = some g4 := fun he => hatF.elim (fun h1 => by rw [h1] at he; have := R_lt' RO.out he; omega) (fun ⟨bb, h1, h2⟩ => by rw [h1] at he; injection he with he; subst he; have h3 := blk_lt X3.out; have h4 : (w3.alloc (.cells #[.int .u8 (IntKind.u8.wrap xf), .int .u8 0] 5)).drew.heap.size = w3.heap.size + 1 := World.size_alloc _ _; omega)
        refine hK.out _ _ ⟨(blk_cell X4F 0), (blk_cell X4F 1)⟩ (fun hHeld => ?_)
        clear hK K
        refine norm_ (a' := ?_) ?_ ?_
        rotate_left
        · show Act.put _ (some 84) _ = _
          simp only [Act.put, List.setIfInBounds_toArray, List.set_cons_zero, List.set_cons_succ, i64_w, i32_w]
          rfl
        refine last_ (i := 9) (N := some 88) #[true, true, true, true, true, true, true, true, true, true, false, false] rfl rfl (by kernel_rfl) (by decide) (fun K hK => ?_)
        refine goes_ Try.func36 (by kernel_rfl) rfl #[.int .i64 (o.f1.length : Int)] (by rfl) rfl rfl (by simp only [List.map_toArray, List.map_cons, List.map_nil]; rfl) ?_
        with_reducible refine (two_calls (o.f1.length : Int) _).mono ?_
        rintro e wG ⟨vT, rfl, hrwG, hbwG⟩
        refine ⟨_, rfl, ?_⟩
        have KG : Below w1.heap.size w1 wG := below_step KF hbwG
        have RwG := Kd.R_below hrF hbwG
        obtain ⟨AwG, cwG, rfl⟩ := Kd.R_slice hrwG
        have CwG := (Kd.R_reads' hrwG).2.2
        have X4G := blk_below X4F hbwG
        refine hK.out _ _ ?_
        clear hK K
        refine norm_ (a' := ?_) ?_ ?_
        rotate_left
        · show Act.put _ (some 88) _ = _
          simp only [Act.put, List.setIfInBounds_toArray, List.set_cons_zero, List.set_cons_succ, i64_w, i32_w]
          rfl
        refine last_ (i := 10) (N := some 89) #[true, true, true, true, true, true, true, true, true, true, true, false] rfl rfl (by kernel_rfl) (by decide) (fun K hK => ?_)
        refine Kd.R_append_rows_step (Kd.int .u8) (Rr := (Kd.int .u8).K _) (w0 := w1) w1.heap.size (by rfl) (.tmp 84) (.tmp 88) 22 5 (.int .u8 0) 1 rfl Try.underlying22 info_u8 rfl (by decide) (by decide) vF (LS ++ [xf % 256, 0]) (twoL o.f1.length) AwG _ cwG (fun _ => True) (fun _ => False) rfl rfl RwG CwG (fun _ _ h => h) (fun _ hk => hk.elim) (fun _ _ => trivial) KG KG.size (by have := HLS.out; rw [List.length_append]; show (LS.length + 2 + 2) * 1 ≤ _; omega) ?_
        intro v5 w5 hr5 hb5 hg5 _
        have R5 := Aside0.mk hr5
        have B5 := Aside0.mk hb5
        have K35 : Aside0 (Below w1.heap.size w1 w5) := ⟨hb5⟩
        have X5 : Aside0 (w5.heap[g4]? = some (.cells #[.int .i64 xf, .slice A5 o.f1.length c5] 45 (0, 0))) := ⟨blk_grown X4G hg5 (fun he => hnF he.symm)⟩
        clear hr5 hb5 hg5
        refine hK.out _ _ ?_
        clear hK K
        refine norm_ (a' := ?_) ?_ ?_
        rotate_left
        · show Act.put _ (some 89) _ = _
          simp only [Act.put, List.setIfInBounds_toArray, List.set_cons_zero, List.set_cons_succ, i64_w, i32_w]
          rfl
        refine pure_ (i := 11) (N := some 9) (v := ?_) (a' := ?_) #[true, true, true, true, true, true, true, true, true, true, true, true] rfl rfl (by kernel_rfl) (fun _ _ _ h => h) (Or.inl ⟨by rfl, ?_⟩) ?_ ?_
        rotate_left
        · intro w'
          go_simp
          with_reducible rfl
        rotate_left
        · simp only [Act.put, List.setIfInBounds_toArray, List.set_cons_zero, List.set_cons_succ, i64_w, i32_w]
          rfl
        refine done_ (by kernel_rfl) ?_
        clear k40 k41 R3 B3 X3 RO
        have C5 := Aside0.mk (Kd.C_below C1o.out K35.out)
        have k51 : w5.cell? ⟨g4, 1, none⟩ = some (.slice A5 o.f1.length c5) := blk_cell X5.out 1
        obtain ⟨LT, hLT⟩ : ∃ LT, LS ++ [xf % 256, 0] ++ twoL o.f1.length ++ o.f1 = LT := ⟨_, rfl⟩
        have HLT := Aside0.mk hLT
        have HLTL : Aside0 (LT.length = LS.length + 4 + o.f1.length) := ⟨by rw [← hLT]; unfold twoL; simp; omega⟩
        clear hLT hg4
        go_upto_region 17 with ((with_reducible refine gate_builtin (b := .append) (xs := #[.tmp 90, .tmp 92]) rfl ?_); at_builtin; refine Kd.R_append_row (Value.int .u8) (0 : Int) (w0 := w1) w1.heap.size rfl (.tmp 90) (.tmp 92) 22 5 (.int .u8 0) 1 rfl Try.underlying22 info_u8 rfl (Nat.succ_pos _) v5 (LS ++ [xf % 256, 0] ++ twoL o.f1.length) o.f1 A5 _ c5 (fun _ => True) rfl rfl (fun _ _ => trivial) R5.out C5.out B5.out B5.out.size (by have h1 := HLS.out; have h2 := HLO.out; rw [List.length_append, List.length_append]; show (LS.length + 2 + 2 + o.f1.length) * 1 ≤ _; omega) ?_; intro v6 w6 hr_ hb_ _ _; have Rw6 := Aside0.mk hr_; have Bw6 := Aside0.mk hb_; clear hr_ hb_)
        clear k51 R5 B5
        rw [HLT.out] at Rw6
        have HWL : Aside0 (LS.length + 4 + wholeN o.f1.length ≤ 1100 ∧ LS.length % 4 = 0 ∧ o.f1.length ≤ wholeN o.f1.length ∧ wholeN o.f1.length ≤ o.f1.length + 3 ∧ wholeN o.f1.length % 4 = 0) := ⟨by
          have h1 := whole_le o.f1.length
          have h := HL.out.2.2
          unfold grantG at h
          rw [← List.take_append_drop (i + 1) L, List.flatMap_append, List.length_append, List.length_append, HDR.out, List.flatMap_append, List.length_append] at h
          have h2 := HLSE.out
          have h3 : LS.length = (baseG x li ep oa op).length + ((L.take i).flatMap optB).length := by rw [← h2, List.length_append]
          have h4 : ([o].flatMap optB).length = 4 + wholeN o.f1.length := by rw [List.flatMap_cons, List.flatMap_nil, List.append_nil, optB_len]
          have h5 := flat_mod (L.take i)
          have h6 := baseG_len x HX.out li ep oa op
          have h7 : (baseG x li ep oa op).length % 4 = 0 := by rw [h6]; split <;> rfl
          refine ⟨by omega, by omega, h1.1, h1.2.1, h1.2.2⟩⟩
        obtain ⟨A6, c6, rfl⟩ := Kd.R_slice Rw6.out
        have RI0 : Aside0 (Kd.R (Kd.int .u8) 5 w6 w1.heap.size (fun _ => True) (.slice A6 LT.length c6) (LT ++ List.replicate 0 0)) := ⟨by rw [List.replicate_zero, List.append_nil]; exact Rw6.out⟩
        have BI0 := Bw6
        clear Rw6 Bw6 X5 C5 K35 C1o
        go_loopg [9] (wholeN o.f1.length - o.f1.length) (fun p v9 wi => ∃ (z n6 c6 : Nat) (A6 : Option Addr), v9 = .slice A6 n6 c6 ∧ Aside0 (z + p = wholeN o.f1.length - o.f1.length) ∧ Aside0 (n6 = LT.length + z) ∧ Aside0 (Kd.R (Kd.int .u8) 5 wi w1.heap.size (fun _ => True) (.slice A6 n6 c6) (LT ++ List.replicate z 0)) ∧ Aside0 (Below w1.heap.size w1 wi))
        case atStart => exact ⟨0, _, c6, A6, rfl, ⟨by omega⟩, ⟨rfl⟩, RI0, BI0⟩
        case round =>
          clear RI0 BI0
          obtain ⟨z, n6, c6, A6, rfl, Hz, HN6, RI, BI⟩ := hrel
          cases gk with
          | zero =>
            have hm : Aside0 (n6 % 4 = 0 ∧ n6 = LS.length + 4 + wholeN o.f1.length) := ⟨by have h1 := HN6.out; have h2 := HLTL.out; have h3 := Hz.out; have h4 := HWL.out; omega⟩
            have hrm : ((n6 : Int)) % 4 = 0 := by have := hm.out; omega
            have HFIN : Aside0 (LT ++ List.replicate z 0 = baseG x li ep oa op ++ (L.take (i + 1)).flatMap optB) := ⟨by
              rw [HDR.out, List.flatMap_append, List.flatMap_cons, List.flatMap_nil, List.append_nil, ← List.append_assoc, HLSE.out, ← HLT.out]
              unfold optB
              rw [HXF.out, show z = wholeN o.f1.length - o.f1.length by have := Hz.out; omega]
              simp only [List.append_assoc]⟩
            have hil2 : (i : Int) ≤ 1100 := by have h1 := Hi.out; have h2 := HL.out.1; omega
            go_wp2
            go_roundg q
            case measure => omega
            case rel => exact ⟨i + 1, n6, c6, A6, by go_num, rfl, ⟨by have := Hi.out; omega⟩, ⟨by rw [← HFIN.out, List.length_append, List.length_replicate]; exact HN6.out⟩, ⟨by rw [← HFIN.out]; exact RI.out⟩, BI⟩
          | succ p =>
            have hnr : ¬ ((n6 : Int)) % 4 = 0 := by have h1 := HN6.out; have h2 := HLTL.out; have h3 := Hz.out; have h4 := HWL.out; omega
            have hnb : (((n6 : Int)) % 4 != 0) = true := by simpa using hnr
            have HLZ : Aside0 (((LT ++ List.replicate z (0 : Int)).length + 1) * 1 ≤ 140737488355328) := ⟨by rw [List.length_append, List.length_replicate]; have h1 := HN6.out; have h2 := HLTL.out; have h3 := Hz.out; have h4 := HWL.out; omega⟩
            have HZ2 : Aside0 (LT ++ List.replicate z 0 ++ [0] = LT ++ List.replicate (z + 1) (0 : Int)) := ⟨snoc_zero _ _⟩
            go_wp2_with (at_builtin; refine Kd.R_append (Kd.int .u8) (w0 := w1) w1.heap.size rfl (.tmp 98) (.tmp 99) 22 5 (.int .u8 0) 1 rfl Try.underlying22 info_u8 rfl (Nat.succ_pos _) (Nat.succ_pos _) (.slice A6 n6 c6) _ 0 [.int .u8 0] (fun _ => True) (fun _ => False) rfl rfl rfl (fun _ hk => hk.elim) (fun _ _ => trivial) RI.out BI.out BI.out.size HLZ.out ?_; intro v7 w7 hr hb hg hat; have R7 := Aside0.mk hr; have B7 := Aside0.mk hb; clear hr hb hg hat)
            rw [HZ2.out] at R7
            obtain ⟨A7, c7, rfl⟩ := Kd.R_slice R7.out
            have hl7 : (LT ++ List.replicate (z + 1) (0 : Int)).length = n6 + 1 := by rw [List.length_append, List.length_replicate]; have := HN6.out; omega
            rw [hl7] at R7 ⊢
            clear hl7
            go_roundg p
            case measure => omega
            case rel => exact ⟨z + 1, n6 + 1, c7, A7, rfl, ⟨by have := Hz.out; omega⟩, ⟨by have := HN6.out; omega⟩, R7, B7⟩
  · rw [hop] at kop
    have HOPE := Aside0.mk hop
    clear hop
    have kop1 : w1.cell? ⟨w.heap.size + 1, 1, none⟩ = some (.int .i64 op) := blk_cell E1.out 1
    have koa : w1.cell? ⟨w.heap.size + 1, 0, none⟩ = some (.int .u32 oa) := blk_cell E1.out 0
    go_upto_region 3 with fail
    refine start_ (n := 14) (S := fun w' => w'.cell? ⟨w.heap.size, 0, none⟩ = some (.int .i64 2) ∧ w'.cell? ⟨w.heap.size, 30, none⟩ = some (.int .i64 x.pr)) (ds := [12]) #[false, false, false, false, false, false, false, false, false, false, false, false, false, false] (by kernel_rfl) rfl rfl ⟨kop, kpr⟩ (fun hHeld => ?_)
    refine pure_ (i := 0) (N := some 21) (v := ?_) (a' := ?_) #[true, false, false, false, false, false, false, false, false, false, false, false, false, false] rfl rfl (by kernel_rfl) (fun _ _ _ h => h) (Or.inl ⟨by rfl, ?_⟩) ?_ ?_
    rotate_left
    · intro w'
      go_simp
      with_reducible rfl
    rotate_left
    · simp only [Act.put, List.setIfInBounds_toArray, List.set_cons_zero, List.set_cons_succ, i64_w, i32_w]
      rfl
    refine pure_ (i := 2) (N := some 23) (v := ?_) (a' := ?_) #[true, false, true, false, false, false, false, false, false, false, false, false, false, false] rfl rfl (by kernel_rfl) (fun _ _ _ h => h) (Or.inl ⟨by rfl, ?_⟩) ?_ ?_
    rotate_left
    · intro w'
      go_simp
      with_reducible rfl
    rotate_left
    · simp only [Act.put, List.setIfInBounds_toArray, List.set_cons_zero, List.set_cons_succ, i64_w, i32_w]
      rfl
    refine pure_ (i := 3) (N := some 24) (v := ?_) (a' := ?_) #[true, false, true, true, false, false, false, false, false, false, false, false, false, false] rfl rfl (by kernel_rfl) (fun _ _ _ h => h) (Or.inl ⟨by rfl, ?_⟩) ?_ ?_
    rotate_left
    · intro w'
      go_simp
      with_reducible rfl
    rotate_left
    · simp only [Act.put, List.setIfInBounds_toArray, List.set_cons_zero, List.set_cons_succ, i64_w, i32_w]
      rfl
    refine pure_ (i := 5) (N := some 26) (v := ?_) (a' := ?_) #[true, false, true, true, false, true, false, false, false, false, false, false, false, false] rfl rfl (by kernel_rfl) (fun _ _ _ h => h) (Or.inl ⟨by rfl, ?_⟩) ?_ ?_
    rotate_left
    · intro w'
      go_simp
      with_reducible rfl
    rotate_left
    · simp only [Act.put, List.setIfInBounds_toArray, List.set_cons_zero, List.set_cons_succ, i64_w, i32_w]
      rfl
    refine pure_ (i := 6) (N := some 27) (v := ?_) (a' := ?_) #[true, false, true, true, false, true, true, false, false, false, false, false, false, false] rfl rfl (by kernel_rfl) (fun _ _ _ h => h) (Or.inl ⟨by rfl, ?_⟩) ?_ ?_
    rotate_left
    · intro w'
      go_simp
      with_reducible rfl
    rotate_left
    · simp only [Act.put, List.setIfInBounds_toArray, List.set_cons_zero, List.set_cons_succ, i64_w, i32_w]
      rfl
    refine pure_ (i := 8) (N := some 29) (v := ?_) (a' := ?_) #[true, false, true, true, false, true, true, false, true, false, false, false, false, false] rfl rfl (by kernel_rfl) (fun _ _ _ h => h) (Or.inl ⟨by rfl, ?_⟩) ?_ ?_
    rotate_left
    · intro w'
      go_simp
      with_reducible rfl
    rotate_left
    · simp only [Act.put, List.setIfInBounds_toArray, List.set_cons_zero, List.set_cons_succ, i64_w, i32_w]
      rfl
    refine take_ (i := 1) (N := some 22) (v := ?_) (a' := ?_) #[true, true, true, true, false, true, true, false, true, false, false, false, false, false] rfl rfl (by kernel_rfl) (fun _ _ _ h => h) (Or.inl ⟨by rfl, ?_⟩) hHeld ?_ ?_
    rotate_left
    · rintro w' ⟨s0, s1⟩
      go_simp
      with_reducible rfl
    rotate_left
    · simp only [Act.put, List.setIfInBounds_toArray, List.set_cons_zero, List.set_cons_succ, i64_w, i32_w]
      rfl
    refine take_ (i := 9) (N := some 30) (v := ?_) (a' := ?_) #[true, true, true, true, false, true, true, false, true, true, false, false, false, false] rfl rfl (by kernel_rfl) (fun _ _ _ h => h) (Or.inl ⟨by rfl, ?_⟩) hHeld ?_ ?_
    rotate_left
    · rintro w' ⟨s0, s1⟩
      go_simp
      with_reducible rfl
    rotate_left
    · simp only [Act.put, List.setIfInBounds_toArray, List.set_cons_zero, List.set_cons_succ, i64_w, i32_w]
      rfl
    refine pure_ (i := 10) (N := some 31) (v := ?_) (a' := ?_) #[true, true, true, true, false, true, true, false, true, true, true, false, false, false] rfl rfl (by kernel_rfl) (fun _ _ _ h => h) (Or.inl ⟨by rfl, ?_⟩) ?_ ?_
    rotate_left
    · intro w'
      go_simp
      with_reducible rfl
    rotate_left
    · simp only [Act.put, List.setIfInBounds_toArray, List.set_cons_zero, List.set_cons_succ, i64_w, i32_w]
      rfl
    refine join_ (σ := Value × Value × Nat) 2 #[true, true, true, true, true, true, true, true, true, true, true, true, false, false] (fun s => [(25, s.1), (28, s.2.1), (32, .slice (some ⟨s.2.2, 0, none⟩) 4 4)]) (fun s w' => (w'.cell? ⟨w.heap.size, 0, none⟩ = some (.int .i64 2) ∧ w'.cell? ⟨w.heap.size, 30, none⟩ = some (.int .i64 x.pr)) ∧ Kd.R (Kd.int .u8) 5 w' w1.heap.size (fun _ => True) s.2.1 ((hd24 2 0 li ep) ++ x.no) ∧ w'.heap[s.2.2]? = some (.cells #[.int .u8 (x.pr % 256), .int .u8 0, .int .u8 0, .int .u8 0] 5 (0, 0)) ∧ Below w1.heap.size w1 w') ?_ ?_
    rotate_left
    · intro hCont
      refine two_ (i := 4) (j := 11) (Ni := some 25) (Nj := some 32) #[true, true, true, true, true, true, true, false, true, true, true, false, false, false] #[true, true, true, true, false, true, true, false, true, true, true, true, false, false] rfl rfl rfl rfl (by kernel_rfl) (by decide) (by decide) (fun K hK => ?_) (fun K hK => ?_)
      · skip
        refine goes_ Try.func34 (by kernel_rfl) rfl #[.int .i64 2, .int .i64 0, .int .u32 li, .int .u32 ep] (by rfl) rfl rfl (by simp only [List.map_toArray, List.map_cons, List.map_nil]; rfl) ?_
        with_reducible refine (head0_calls 2 li ep _).mono ?_
        rintro e wA ⟨vH, rfl, hrA, hbA⟩
        refine ⟨_, rfl, ?_⟩
        have KA : Below w1.heap.size w1 wA := below_step (Below.refl _ _).drew hbA
        have RA : Kd.R (Kd.int .u8) 5 wA w1.heap.size (fun _ => True) vH (hd24 2 0 li ep) := hrA
        refine hK.out _ _ ⟨(pw_cell_below KA kop), (pw_cell_below KA kpr)⟩ (fun hHeld => ?_)
        clear hK K
        refine norm_ (a' := ?_) ?_ ?_
        rotate_left
        · show Act.put _ (some 25) _ = _
          simp only [Act.put, List.setIfInBounds_toArray, List.set_cons_zero, List.set_cons_succ, i64_w, i32_w]
          rfl
        refine two_ (i := 7) (j := 11) (Ni := some 28) (Nj := some 32) #[true, true, true, true, true, true, true, true, true, true, true, false, false, false] #[true, true, true, true, true, true, true, false, true, true, true, true, false, false] rfl rfl rfl rfl (by kernel_rfl) (by decide) (by decide) (fun K hK => ?_) (fun K hK => ?_)
        · skip
          refine Kd.R_append_rows_step (Kd.int .u8) (Rr := (Kd.int .u8).K _) (w0 := w1) w1.heap.size (by rfl) (.tmp 25) (.tmp 27) 22 5 (.int .u8 0) 1 rfl Try.underlying22 info_u8 rfl (by decide) (by decide) vH (hd24 2 0 li ep) x.no (some ⟨w.heap.size, 18, none⟩) 12 12 (fun _ => True) (fun _ => False) rfl rfl RA (Kd.C_below CN.out KA) (fun _ _ h => h) (fun _ hk => hk.elim) (fun _ _ => trivial) KA KA.size (by show (24 + 12) * 1 ≤ _; decide) ?_
          intro vB wB hrB hbB hgB hatB
          have KB : Below w1.heap.size w1 wB := hbB
          refine hK.out _ _ ⟨(pw_cell_below KB kop), (pw_cell_below KB kpr)⟩ (fun hHeld => ?_)
          clear hK K
          refine norm_ (a' := ?_) ?_ ?_
          rotate_left
          · show Act.put _ (some 28) _ = _
            simp only [Act.put, List.setIfInBounds_toArray, List.set_cons_zero, List.set_cons_succ, i64_w, i32_w]
            rfl
          refine one_ (i := 11) (N := some 32) #[true, true, true, true, true, true, true, true, true, true, true, true, false, false] rfl rfl (by kernel_rfl) (by decide) (fun K hK => ?_)
          refine value_ (w1 := ?_) (v := ?_) (by rfl) rfl ?_ ?_
          rotate_left 2
          · go_simp
            constructor
            · rfl
            · rfl
          refine hK.out _ _ ⟨(cell_alloc_old (pw_cell_below KB kop) _), (cell_alloc_old (pw_cell_below KB kpr) _)⟩ (fun hHeld => ?_)
          clear hK K
          refine norm_ (a' := ?_) ?_ ?_
          rotate_left
          · show Act.put _ (some 32) _ = _
            simp only [Act.put, List.setIfInBounds_toArray, List.set_cons_zero, List.set_cons_succ, i64_w, i32_w]
            rfl
          exact norm_ (by simp only [putAll, Act.put, List.setIfInBounds_toArray, List.set_cons_zero, List.set_cons_succ]) (hCont (vH, vB, wB.heap.size) _ ⟨hHeld, Kd.R_alloc hrB _, blk_new wB _, Below.alloc KB KB.size _⟩)
        · skip
          refine value_ (w1 := ?_) (v := ?_) (by rfl) rfl ?_ ?_
          rotate_left 2
          · go_simp
            constructor
            · rfl
            · rfl
          refine hK.out _ _ ⟨(cell_alloc_old (pw_cell_below KA kop) _), (cell_alloc_old (pw_cell_below KA kpr) _)⟩ (fun hHeld => ?_)
          clear hK K
          refine norm_ (a' := ?_) ?_ ?_
          rotate_left
          · show Act.put _ (some 32) _ = _
            simp only [Act.put, List.setIfInBounds_toArray, List.set_cons_zero, List.set_cons_succ, i64_w, i32_w]
            rfl
          refine one_ (i := 7) (N := some 28) #[true, true, true, true, true, true, true, true, true, true, true, true, false, false] rfl rfl (by kernel_rfl) (by decide) (fun K hK => ?_)
          refine Kd.R_append_rows_step (Kd.int .u8) (Rr := (Kd.int .u8).K _) (w0 := w1) w1.heap.size (by rfl) (.tmp 25) (.tmp 27) 22 5 (.int .u8 0) 1 rfl Try.underlying22 info_u8 rfl (by decide) (by decide) vH (hd24 2 0 li ep) x.no (some ⟨w.heap.size, 18, none⟩) 12 12 (fun _ => True) (fun _ => False) rfl rfl (Kd.R_alloc RA (.cells #[.int .u8 (IntKind.u8.wrap x.pr), .int .u8 0, .int .u8 0, .int .u8 0] 5)) (Kd.C_below CN.out (Below.alloc KA KA.size (.cells #[.int .u8 (IntKind.u8.wrap x.pr), .int .u8 0, .int .u8 0, .int .u8 0] 5))) (fun _ _ h => h) (fun _ hk => hk.elim) (fun _ _ => trivial) (Below.alloc KA KA.size (.cells #[.int .u8 (IntKind.u8.wrap x.pr), .int .u8 0, .int .u8 0, .int .u8 0] 5)) (Below.alloc KA KA.size (.cells #[.int .u8 (IntKind.u8.wrap x.pr), .int .u8 0, .int .u8 0, .int .u8 0] 5)).size (by show (24 + 12) * 1 ≤ _; decide) ?_
          intro vB wB hrB hbB hgB hatB
          have KB : Below w1.heap.size w1 wB := hbB
          have LB := blk_grown (blk_new wA (.cells #[.int .u8 (IntKind.u8.wrap x.pr), .int .u8 0, .int .u8 0, .int .u8 0] 5)) hgB (fun he => by have := R_lt' (Kd.R_mono RA (fun _ _ => trivial)) he.symm; omega)
          refine hK.out _ _ ⟨(pw_cell_below KB kop), (pw_cell_below KB kpr)⟩ (fun hHeld => ?_)
          clear hK K
          refine norm_ (a' := ?_) ?_ ?_
          rotate_left
          · show Act.put _ (some 28) _ = _
            simp only [Act.put, List.setIfInBounds_toArray, List.set_cons_zero, List.set_cons_succ, i64_w, i32_w]
            rfl
          exact norm_ (by simp only [putAll, Act.put, List.setIfInBounds_toArray, List.set_cons_zero, List.set_cons_succ]) (hCont (vH, vB, wA.heap.size) _ ⟨hHeld, hrB, LB, KB⟩)
      · skip
        refine value_ (w1 := ?_) (v := ?_) (by rfl) rfl ?_ ?_
        rotate_left 2
        · go_simp
          constructor
          · rfl
          · rfl
        refine hK.out _ _ ⟨(cell_alloc_old (w := w1.drew) kop _), (cell_alloc_old (w := w1.drew) kpr _)⟩ (fun hHeld => ?_)
        clear hK K
        refine norm_ (a' := ?_) ?_ ?_
        rotate_left
        · show Act.put _ (some 32) _ = _
          simp only [Act.put, List.setIfInBounds_toArray, List.set_cons_zero, List.set_cons_succ, i64_w, i32_w]
          rfl
        refine one_ (i := 4) (N := some 25) #[true, true, true, true, true, true, true, false, true, true, true, true, false, false] rfl rfl (by kernel_rfl) (by decide) (fun K hK => ?_)
        refine goes_ Try.func34 (by kernel_rfl) rfl #[.int .i64 2, .int .i64 0, .int .u32 li, .int .u32 ep] (by rfl) rfl rfl (by simp only [List.map_toArray, List.map_cons, List.map_nil]; rfl) ?_
        with_reducible refine (head0_calls 2 li ep _).mono ?_
        rintro e wA ⟨vH, rfl, hrA, hbA⟩
        refine ⟨_, rfl, ?_⟩
        have KA : Below w1.heap.size w1 wA := below_step (below_alloc (Below.refl _ _) (.cells #[.int .u8 (IntKind.u8.wrap x.pr), .int .u8 0, .int .u8 0, .int .u8 0] 5)).drew hbA
        have RA := Kd.R_lower hrA (show w1.heap.size ≤ _ from (below_alloc (Below.refl w1.heap.size w1) (.cells #[.int .u8 (IntKind.u8.wrap x.pr), .int .u8 0, .int .u8 0, .int .u8 0] 5)).size)
        have LA := blk_below (blk_drew (blk_new w1 (.cells #[.int .u8 (IntKind.u8.wrap x.pr), .int .u8 0, .int .u8 0, .int .u8 0] 5))) hbA
        have NB : ∀ k, vH.ownBlock = some k → w1.heap.size < k := fun k hk => by have h1 := R_ge hrA hk; have h2 : (w1.alloc (.cells #[.int .u8 (IntKind.u8.wrap x.pr), .int .u8 0, .int .u8 0, .int .u8 0] 5)).drew.heap.size = w1.heap.size + 1 := World.size_alloc _ _; omega
        refine hK.out _ _ ⟨(pw_cell_below KA kop), (pw_cell_below KA kpr)⟩ (fun hHeld => ?_)
        clear hK K
        refine norm_ (a' := ?_) ?_ ?_
        rotate_left
        · show Act.put _ (some 25) _ = _
          simp only [Act.put, List.setIfInBounds_toArray, List.set_cons_zero, List.set_cons_succ, i64_w, i32_w]
          rfl
        refine one_ (i := 7) (N := some 28) #[true, true, true, true, true, true, true, true, true, true, true, true, false, false] rfl rfl (by kernel_rfl) (by decide) (fun K hK => ?_)
        refine Kd.R_append_rows_step (Kd.int .u8) (Rr := (Kd.int .u8).K _) (w0 := w1) w1.heap.size (by rfl) (.tmp 25) (.tmp 27) 22 5 (.int .u8 0) 1 rfl Try.underlying22 info_u8 rfl (by decide) (by decide) vH (hd24 2 0 li ep) x.no (some ⟨w.heap.size, 18, none⟩) 12 12 (fun _ => True) (fun _ => False) rfl rfl RA (Kd.C_below CN.out KA) (fun _ _ h => h) (fun _ hk => hk.elim) (fun _ _ => trivial) KA KA.size (by show (24 + 12) * 1 ≤ _; decide) ?_
        intro vB wB hrB hbB hgB hatB
        have KB : Below w1.heap.size w1 wB := hbB
        have LB := blk_grown LA hgB (fun he => by have := NB _ he.symm; omega)
        refine hK.out _ _ ⟨(pw_cell_below KB kop), (pw_cell_below KB kpr)⟩ (fun hHeld => ?_)
        clear hK K
        refine norm_ (a' := ?_) ?_ ?_
        rotate_left
        · show Act.put _ (some 28) _ = _
          simp only [Act.put, List.setIfInBounds_toArray, List.set_cons_zero, List.set_cons_succ, i64_w, i32_w]
          rfl
        exact norm_ (by simp only [putAll, Act.put, List.setIfInBounds_toArray, List.set_cons_zero, List.set_cons_succ]) (hCont (vH, vB, w1.heap.size) _ ⟨hHeld, hrB, LB, KB⟩)
    rintro ⟨vH, vB, bL⟩ w6 ⟨hH, hR6, hL6, hB6⟩
    have hHeld : w6.cell? ⟨w.heap.size, 0, none⟩ = some (.int .i64 2) ∧ w6.cell? ⟨w.heap.size, 30, none⟩ = some (.int .i64 x.pr) := hH
    have R6 : Aside0 (Kd.R (Kd.int .u8) 5 w6 w1.heap.size (fun _ => True) vB ((hd24 2 0 li ep) ++ x.no)) := ⟨hR6⟩
    have C6 : Aside0 (Kd.C (Kd.int .u8) w6 (some ⟨bL, 0, none⟩) 4 [x.pr % 256, 0, 0, 0]) := ⟨C_arr (l := [x.pr % 256, 0, 0, 0]) hL6 (by simp)⟩
    have B6 : Aside0 (Below w1.heap.size w1 w6) := ⟨hB6⟩
    clear hR6 hL6 hB6 hH
    refine norm_ (a' := ?_) ?_ ?_
    rotate_left
    · simp only [putAll, Act.put, List.setIfInBounds_toArray, List.set_cons_zero, List.set_cons_succ]
      rfl
    refine last_ (i := 12) (N := some 33) #[true, true, true, true, true, true, true, true, true, true, true, true, true, false] rfl rfl (by kernel_rfl) (by decide) (fun K hK => ?_)
    refine Kd.R_append_rows_step (Kd.int .u8) (Rr := (Kd.int .u8).K _) (w0 := w1) w1.heap.size (by rfl) (.tmp 28) (.tmp 32) 22 5 (.int .u8 0) 1 rfl Try.underlying22 info_u8 rfl (by decide) (by decide) vB ((hd24 2 0 li ep) ++ x.no) [x.pr % 256, 0, 0, 0] (some ⟨bL, 0, none⟩) 4 4 (fun _ => True) (fun _ => False) rfl rfl R6.out C6.out (fun _ _ h => h) (fun _ hk => hk.elim) (fun _ _ => trivial) B6.out B6.out.size (by rw [List.length_append, HX.out.no]; show (24 + 12 + 4) * 1 ≤ _; decide) ?_
    intro v9 w9 hr9 hb9 _ _
    have R9 := Aside0.mk hr9
    have B9 := Aside0.mk hb9
    clear hr9 hb9
    refine hK.out _ _ ?_
    clear hK K
    refine norm_ (a' := ?_) ?_ ?_
    rotate_left
    · show Act.put _ (some 33) _ = _
      simp only [Act.put, List.setIfInBounds_toArray, List.set_cons_zero, List.set_cons_succ, i64_w, i32_w]
      rfl
    refine pure_ (i := 13) (N := some 9) (v := ?_) (a' := ?_) #[true, true, true, true, true, true, true, true, true, true, true, true, true, true] rfl rfl (by kernel_rfl) (fun _ _ _ h => h) (Or.inl ⟨by rfl, ?_⟩) ?_ ?_
    rotate_left
    · intro w'
      go_simp
      with_reducible rfl
    rotate_left
    · simp only [Act.put, List.setIfInBounds_toArray, List.set_cons_zero, List.set_cons_succ, i64_w, i32_w]
      rfl
    refine done_ (by kernel_rfl) ?_
    have HB40 : Aside0 (hd24 2 0 li ep ++ x.no ++ [x.pr % 256, 0, 0, 0] = b40 x li ep) := ⟨by unfold b40; rw [HOPE.out]⟩
    rw [HB40.out] at R9
    have L40 : Aside0 ((b40 x li ep).length = 40) := ⟨by unfold b40; rw [List.length_append, List.length_append, HX.out.no]; rfl⟩
    clear R6 C6 B6 CN kpr
    go_upto_region 4 with fail
    refine start_ (n := 10) (S := fun w' => w'.cell? ⟨w.heap.size, 31, none⟩ = some (.int .i64 x.po) ∧ w'.cell? ⟨w.heap.size + 1, 1, none⟩ = some (.int .i64 op)) (ds := [8]) #[false, false, false, false, false, false, false, false, false, false] (by kernel_rfl) rfl rfl ⟨(pw_cell_below B9.out kpo), (pw_cell_below B9.out kop1)⟩ (fun hHeld => ?_)
    refine pure_ (i := 0) (N := some 34) (v := ?_) (a' := ?_) #[true, false, false, false, false, false, false, false, false, false] rfl rfl (by kernel_rfl) (fun _ _ _ h => h) (Or.inl ⟨by rfl, ?_⟩) ?_ ?_
    rotate_left
    · intro w'
      go_simp
      with_reducible rfl
    rotate_left
    · simp only [Act.put, List.setIfInBounds_toArray, List.set_cons_zero, List.set_cons_succ, i64_w, i32_w]
      rfl
    refine pure_ (i := 1) (N := some 35) (v := ?_) (a' := ?_) #[true, true, false, false, false, false, false, false, false, false] rfl rfl (by kernel_rfl) (fun _ _ _ h => h) (Or.inl ⟨by rfl, ?_⟩) ?_ ?_
    rotate_left
    · intro w'
      go_simp
      with_reducible rfl
    rotate_left
    · simp only [Act.put, List.setIfInBounds_toArray, List.set_cons_zero, List.set_cons_succ, i64_w, i32_w]
      rfl
    refine pure_ (i := 5) (N := some 39) (v := ?_) (a' := ?_) #[true, true, false, false, false, true, false, false, false, false] rfl rfl (by kernel_rfl) (fun _ _ _ h => h) (Or.inl ⟨by rfl, ?_⟩) ?_ ?_
    rotate_left
    · intro w'
      go_simp
      with_reducible rfl
    rotate_left
    · simp only [Act.put, List.setIfInBounds_toArray, List.set_cons_zero, List.set_cons_succ, i64_w, i32_w]
      rfl
    refine take_ (i := 2) (N := some 36) (v := ?_) (a' := ?_) #[true, true, true, false, false, true, false, false, false, false] rfl rfl (by kernel_rfl) (fun _ _ _ h => h) (Or.inl ⟨by rfl, ?_⟩) hHeld ?_ ?_
    rotate_left
    · rintro w' ⟨s0, s1⟩
      go_simp
      with_reducible rfl
    rotate_left
    · simp only [Act.put, List.setIfInBounds_toArray, List.set_cons_zero, List.set_cons_succ, i64_w, i32_w]
      rfl
    refine take_ (i := 6) (N := some 40) (v := ?_) (a' := ?_) #[true, true, true, false, false, true, true, false, false, false] rfl rfl (by kernel_rfl) (fun _ _ _ h => h) (Or.inl ⟨by rfl, ?_⟩) hHeld ?_ ?_
    rotate_left
    · rintro w' ⟨s0, s1⟩
      go_simp
      with_reducible rfl
    rotate_left
    · simp only [Act.put, List.setIfInBounds_toArray, List.set_cons_zero, List.set_cons_succ, i64_w, i32_w]
      rfl
    refine one_ (i := 3) (N := some 37) #[true, true, true, true, false, true, true, false, false, false] rfl rfl (by kernel_rfl) (by decide) (fun K hK => ?_)
    refine goes_ Try.func36 (by kernel_rfl) rfl #[.int .i64 x.po] (by rfl) rfl rfl (by simp only [List.map_toArray, List.map_cons, List.map_nil]; rfl) ?_
    with_reducible refine (two_calls x.po _).mono ?_
    rintro e wC ⟨vT, rfl, hrwC, hbwC⟩
    refine ⟨_, rfl, ?_⟩
    have KC : Below w1.heap.size w1 wC := below_step B9.out.drew hbwC
    have RwC := Kd.R_below (Kd.R_drew R9.out) hbwC
    obtain ⟨AwC, cwC, rfl⟩ := Kd.R_slice hrwC
    have CwC := (Kd.R_reads' hrwC).2.2
    refine hK.out _ _ ⟨(pw_cell_below KC kpo), (pw_cell_below KC kop1)⟩ (fun hHeld => ?_)
    clear hK K
    refine norm_ (a' := ?_) ?_ ?_
    rotate_left
    · show Act.put _ (some 37) _ = _
      simp only [Act.put, List.setIfInBounds_toArray, List.set_cons_zero, List.set_cons_succ, i64_w, i32_w]
      rfl
    refine one_ (i := 4) (N := some 38) #[true, true, true, true, true, true, true, false, false, false] rfl rfl (by kernel_rfl) (by decide) (fun K hK => ?_)
    refine Kd.R_append_rows_step (Kd.int .u8) (Rr := (Kd.int .u8).K _) (w0 := w1) w1.heap.size (by rfl) (.tmp 34) (.tmp 37) 22 5 (.int .u8 0) 1 rfl Try.underlying22 info_u8 rfl (by decide) (by decide) v9 (b40 x li ep) (twoL x.po) AwC _ cwC (fun _ => True) (fun _ => False) rfl rfl RwC CwC (fun _ _ h => h) (fun _ hk => hk.elim) (fun _ _ => trivial) KC KC.size (by rw [L40.out]; show (40 + 2) * 1 ≤ _; decide) ?_
    intro vD wD hrD hbD _ _
    have KD : Below w1.heap.size w1 wD := hbD
    refine hK.out _ _ ⟨(pw_cell_below KD kpo), (pw_cell_below KD kop1)⟩ (fun hHeld => ?_)
    clear hK K
    refine norm_ (a' := ?_) ?_ ?_
    rotate_left
    · show Act.put _ (some 38) _ = _
      simp only [Act.put, List.setIfInBounds_toArray, List.set_cons_zero, List.set_cons_succ, i64_w, i32_w]
      rfl
    refine one_ (i := 7) (N := some 41) #[true, true, true, true, true, true, true, true, false, false] rfl rfl (by kernel_rfl) (by decide) (fun K hK => ?_)
    refine goes_ Try.func36 (by kernel_rfl) rfl #[.int .i64 op] (by rfl) rfl rfl (by simp only [List.map_toArray, List.map_cons, List.map_nil]; rfl) ?_
    with_reducible refine (two_calls op _).mono ?_
    rintro e wE ⟨vU, rfl, hrwE, hbwE⟩
    refine ⟨_, rfl, ?_⟩
    have KE : Below w1.heap.size w1 wE := below_step KD hbwE
    have RwE := Kd.R_below hrD hbwE
    obtain ⟨AwE, cwE, rfl⟩ := Kd.R_slice hrwE
    have CwE := (Kd.R_reads' hrwE).2.2
    refine hK.out _ _ ⟨(pw_cell_below KE kpo), (pw_cell_below KE kop1)⟩ (fun hHeld => ?_)
    clear hK K
    refine norm_ (a' := ?_) ?_ ?_
    rotate_left
    · show Act.put _ (some 41) _ = _
      simp only [Act.put, List.setIfInBounds_toArray, List.set_cons_zero, List.set_cons_succ, i64_w, i32_w]
      rfl
    refine last_ (i := 8) (N := some 42) #[true, true, true, true, true, true, true, true, true, false] rfl rfl (by kernel_rfl) (by decide) (fun K hK => ?_)
    refine Kd.R_append_rows_step (Kd.int .u8) (Rr := (Kd.int .u8).K _) (w0 := w1) w1.heap.size (by rfl) (.tmp 38) (.tmp 41) 22 5 (.int .u8 0) 1 rfl Try.underlying22 info_u8 rfl (by decide) (by decide) vD (b40 x li ep ++ twoL x.po) (twoL op) AwE _ cwE (fun _ => True) (fun _ => False) rfl rfl RwE CwE (fun _ _ h => h) (fun _ hk => hk.elim) (fun _ _ => trivial) KE KE.size (by rw [List.length_append, L40.out]; show (40 + 2 + 2) * 1 ≤ _; decide) ?_
    intro v10 w10 hr10 hb10 _ _
    have R10 := Aside0.mk hr10
    have B10 := Aside0.mk hb10
    clear hr10 hb10
    refine hK.out _ _ ?_
    clear hK K
    refine norm_ (a' := ?_) ?_ ?_
    rotate_left
    · show Act.put _ (some 42) _ = _
      simp only [Act.put, List.setIfInBounds_toArray, List.set_cons_zero, List.set_cons_succ, i64_w, i32_w]
      rfl
    refine pure_ (i := 9) (N := some 9) (v := ?_) (a' := ?_) #[true, true, true, true, true, true, true, true, true, true] rfl rfl (by kernel_rfl) (fun _ _ _ h => h) (Or.inl ⟨by rfl, ?_⟩) ?_ ?_
    rotate_left
    · intro w'
      go_simp
      with_reducible rfl
    rotate_left
    · simp only [Act.put, List.setIfInBounds_toArray, List.set_cons_zero, List.set_cons_succ, i64_w, i32_w]
      rfl
    refine done_ (by kernel_rfl) ?_
    clear R9 B9 kpo kop1
    have koa10 := pw_cell_below B10.out koa
    go_wp2_with fail
    refine (Wide_calls oa _).mono ?_
    rintro e w11 ⟨rfl, hb11⟩
    have R11 := Aside0.mk (Kd.R_below R10.out hb11)
    have B11 := Aside0.mk (below_step B10.out hb11)
    clear hb11 koa koa10 R10 B10
    have N11 := Aside0.mk (blk_new w11 (.cells (encs (Value.int .u8) z16).toArray 25))
    unfold arr
    go_upto_region 6 with (refine wp_fill rfl 25 (.tmp 10) (.tmp 45) rfl w11.heap.size _ 25 (encs (Value.int .u8) (wideL oa)) N11.out rfl rfl rfl (by rw [info25]; rfl) (one_u8 _) ?_; intro w12 hx12 hf12; have X12 := Aside0.mk hx12; have K12 : Aside0 (Below w11.heap.size w11 w12) := ⟨below_fr (below_alloc (Below.refl _ _) (.cells (encs (Value.int .u8) z16).toArray 25)) (by rw [World.size_alloc]; exact Nat.le_succ _) hf12 (fun k hk => by rw [hk]; exact Nat.le_refl _)⟩; clear hx12 hf12)
    have R12 := Aside0.mk (Kd.R_below R11.out K12.out)
    have B12 := Aside0.mk (below_step B11.out K12.out)
    have C12 : Aside0 (Kd.C (Kd.int .u8) w12 (some ⟨w11.heap.size, 0, none⟩) 16 (wideL oa)) := ⟨C_arr (l := wideL oa) X12.out (by show 16 ≤ _; decide)⟩
    clear R11 B11 N11 K12 X12
    go_upto_region 7 with ((with_reducible refine gate_builtin (b := .append) (xs := #[.tmp 46, .tmp 47]) rfl ?_); at_builtin; refine Kd.R_append_row (Value.int .u8) (0 : Int) (w0 := w1) w1.heap.size rfl (.tmp 46) (.tmp 47) 22 5 (.int .u8 0) 1 rfl Try.underlying22 info_u8 rfl (Nat.succ_pos _) v10 (b40 x li ep ++ twoL x.po ++ twoL op) (wideL oa) (some ⟨w11.heap.size, 0, none⟩) 16 16 (fun _ => True) rfl rfl (fun _ _ => trivial) R12.out C12.out B12.out B12.out.size (by rw [List.length_append, List.length_append, L40.out]; show (40 + 2 + 2 + 16) * 1 ≤ _; decide) ?_; intro v13 w13 hr_ hb_ _ _; have Rw13 := Aside0.mk hr_; have Bw13 := Aside0.mk hb_; clear hr_ hb_)
    have HB60 : Aside0 (b40 x li ep ++ twoL x.po ++ twoL op ++ wideL oa = b60 x li ep oa op) := ⟨rfl⟩
    rw [HB60.out] at Rw13
    have L60 : Aside0 ((b60 x li ep oa op).length = 60) := ⟨by unfold b60; rw [List.length_append, List.length_append, List.length_append, L40.out]; rfl⟩
    clear R12 B12 C12
    have kop2 := pw_cell_below Bw13.out kop
    have kfp2 := pw_cell_below Bw13.out kfp
    go_wp2_with fail
    refine (two_calls x.fp _).mono ?_
    rintro e w14 ⟨v14, rfl, hr14, hb14⟩
    have R14 := Aside0.mk (Kd.R_below Rw13.out hb14)
    have B14 := Aside0.mk (below_step Bw13.out hb14)
    obtain ⟨A14, c14, rfl⟩ := Kd.R_slice hr14
    have C14 := Aside0.mk (Kd.R_reads' hr14).2.2
    clear hr14 hb14 kop2 kfp2 Rw13 Bw13
    go_upto_region 9 with (first
      | ((with_reducible refine gate_builtin (b := .append) (xs := #[.tmp 52, .tmp 55]) rfl ?_); at_builtin; refine Kd.R_append_row (Value.int .u8) (0 : Int) (w0 := w1) w1.heap.size rfl (.tmp 52) (.tmp 55) 22 5 (.int .u8 0) 1 rfl Try.underlying22 info_u8 rfl (Nat.succ_pos _) v13 (b60 x li ep oa op) (twoL x.fp) A14 _ c14 (fun _ => True) rfl rfl (fun _ _ => trivial) R14.out C14.out B14.out B14.out.size (by rw [L60.out]; show (60 + 2) * 1 ≤ _; decide) ?_; intro v15 w15 hr_ hb_ _ _; have Rw15 := Aside0.mk hr_; have Bw15 := Aside0.mk hb_; clear hr_ hb_)
      | ((with_reducible refine gate_builtin (b := .append) (xs := #[.tmp 56, .tmp 57]) rfl ?_); at_builtin; refine Kd.R_append_row (Value.int .u8) (0 : Int) (w0 := w1) w1.heap.size rfl (.tmp 56) (.tmp 57) 22 5 (.int .u8 0) 1 rfl Try.underlying22 info_u8 rfl (Nat.succ_pos _) v15 (b60 x li ep oa op ++ twoL x.fp) [0, 0] (some ⟨w15.heap.size, 0, none⟩) 2 2 (fun _ => True) rfl rfl (fun _ _ => trivial) (Kd.R_alloc Rw15.out (.cells #[.int .u8 0, .int .u8 0] 5)) (lit_C (enc := Value.int .u8) (h1 := fun _ => rfl) (e := 5) w15 [0, 0] (by simp)) (Below.alloc Bw15.out Bw15.out.size (.cells #[.int .u8 0, .int .u8 0] 5)) (Below.alloc Bw15.out Bw15.out.size (.cells #[.int .u8 0, .int .u8 0] 5)).size (by rw [List.length_append, L60.out]; show (60 + 2 + 2) * 1 ≤ _; decide) ?_; intro v16 w16 hr_ hb_ _ _; have Rw16 := Aside0.mk hr_; have Bw16 := Aside0.mk hb_; clear hr_ hb_))
    have CF := Aside0.mk (Kd.C_below (P1.out.cfa O1.out) Bw16.out)
    go_upto_region 10 with ((with_reducible refine gate_builtin (b := .append) (xs := #[.tmp 59, .tmp 61]) rfl ?_); at_builtin; refine Kd.R_append_row (Value.int .u8) (0 : Int) (w0 := w1) w1.heap.size rfl (.tmp 59) (.tmp 61) 22 5 (.int .u8 0) 1 rfl Try.underlying22 info_u8 rfl (Nat.succ_pos _) v16 (b60 x li ep oa op ++ twoL x.fp ++ [0, 0]) x.fa (some ⟨w.heap.size, 50, none⟩) 16 16 (fun _ => True) rfl rfl (fun _ _ => trivial) Rw16.out CF.out Bw16.out Bw16.out.size (by rw [List.length_append, List.length_append, L60.out]; show (60 + 2 + 2 + 16) * 1 ≤ _; decide) ?_; intro v17 w17 hr_ hb_ _ _; have Rw17 := Aside0.mk hr_; have Bw17 := Aside0.mk hb_; clear hr_ hb_)
    have HBG : Aside0 (b60 x li ep oa op ++ twoL x.fp ++ [0, 0] ++ x.fa = baseG x li ep oa op) := ⟨by unfold baseG; rw [if_pos HOPE.out]; rfl⟩
    rw [HBG.out] at Rw17
    have RB0 := Rw17
    have BB0 := Bw17
    have kos0 : w1.cell? ⟨w.heap.size, 66, none⟩ = some (.slice A1 L.length c1) := P1.out.kos O1.out
    have kos := pw_cell_below BB0.out kos0
    obtain ⟨A0_, c0_, rfl⟩ := Kd.R_slice RB0.out
    have RF0 : Aside0 (Kd.R (Kd.int .u8) 5 w17 w1.heap.size (fun _ => True) (.slice A0_ (baseG x li ep oa op).length c0_) (baseG x li ep oa op ++ (L.take 0).flatMap optB)) := ⟨by rw [List.take_zero, List.flatMap_nil, List.append_nil]; exact RB0.out⟩
    have LE0 : Aside0 ((baseG x li ep oa op).length = (baseG x li ep oa op ++ (L.take 0).flatMap optB).length) := ⟨by rw [List.take_zero, List.flatMap_nil, List.append_nil]⟩
    go_upto_region 11 with fail
    go_loopg [9, 66] L.length (fun q v9 v66 wr => ∃ (i n9 c9 : Nat) (A9 : Option Addr), v66 = .int .i64 (i : Int) ∧ v9 = .slice A9 n9 c9 ∧ Aside0 (i + q = L.length) ∧ Aside0 (n9 = (baseG x li ep oa op ++ (L.take i).flatMap optB).length) ∧ Aside0 (Kd.R (Kd.int .u8) 5 wr w1.heap.size (fun _ => True) (.slice A9 n9 c9) (baseG x li ep oa op ++ (L.take i).flatMap optB)) ∧ Aside0 (Below w1.heap.size w1 wr))
    case atStart => exact ⟨0, _, c0_, A0_, rfl, rfl, ⟨by omega⟩, LE0, RF0, BB0⟩
    case round =>
      clear RF0 RB0 BB0 LE0 kos kos0
      obtain ⟨i, n9, c9, A9, rfl, rfl, Hi, HN9, RO, BO⟩ := hrel
      have HPL : Aside0 ((baseG x li ep oa op ++ (L.take i).flatMap optB).length ≤ 1100) := ⟨by
        have h := HL.out.2.2
        unfold grantG at h
        rw [← List.take_append_drop i L, List.flatMap_append, List.length_append, List.length_append] at h
        rw [List.length_append]
        omega⟩
      cases gk with
      | zero =>
        have hlt : ¬ ((i : Int) < (L.length : Int)) := by have := Hi.out; omega
        have hlb := decide_eq_false hlt
        have HF : Aside0 (baseG x li ep oa op ++ (L.take i).flatMap optB = grantG x li ep oa op L) := ⟨by rw [List.take_of_length_le (by have := Hi.out; omega)]; rfl⟩
        have h11 : ¬ (n9 : Int) > 1100 := by have h1 := HN9.out; have h2 := HPL.out; omega
        have h11b := decide_eq_false h11
        go_wp2
        go_ret
        exact ⟨_, rfl, by rw [← HF.out]; exact Kd.R_lower RO.out B1.out.size, below_step B1.out (by exact BO.out)⟩
      | succ q =>
        have hlt : (i : Int) < (L.length : Int) := by have := Hi.out; omega
        have hlb := decide_eq_true hlt
        have hi0 : (0 : Int) ≤ i ∧ (i : Int) < (L.length : Int) := ⟨by omega, hlt⟩
        obtain ⟨adL, A5, c5, e1, ka1, kb1, lb, cb⟩ := at_T45 HC1.out (i : Int) (by omega) hlt
        have ka := pw_cell_below BO.out ka1
        have kb := pw_cell_below BO.out kb1
        clear ka1 kb1
        have HDR : Aside0 (L.take (i + 1) = L.take i ++ [rd_T45 L i]) := ⟨take_rd45 L i (by omega)⟩
        have HLO : Aside0 ((rd_T45 L i).f1.length ≤ 1100) := ⟨by
          refine HL.out.2.1 _ ?_
          unfold rd_T45
          have hi' : i < L.length := by omega
          simp [List.getD_eq_getElem?_getD, List.getElem?_eq_getElem hi']⟩
        subst e1
        obtain ⟨o, hoo⟩ : ∃ o, rd_T45 L i = o := ⟨_, rfl⟩
        rw [hoo] at ka kb lb cb HDR HLO
        rw [Int.toNat_natCast] at ka kb
        clear hoo
        obtain ⟨xf, hxf⟩ : ∃ x, o.f0 = x := ⟨_, rfl⟩
        have HXF := Aside0.mk hxf
        rw [hxf] at ka
        have hil : (i : Int) ≤ 1100 := by have h1 := Hi.out; have h2 := HL.out.1; omega
        have C1o : Aside0 (Kd.C (Kd.int .u8) w1 A5 o.f1.length o.f1) := ⟨cb⟩
        have N3 := Aside0.mk (blk_new wr (.cells #[.int .i64 0, .slice none 0 0] 45))
        clear hxf cb lb
        obtain ⟨LS, hLS⟩ : ∃ LS, baseG x li ep oa op ++ (L.take i).flatMap optB = LS := ⟨_, rfl⟩
        have HLSE := Aside0.mk hLS
        rw [hLS] at RO HN9 HPL
        clear hLS
        go_upto_region 13 with (refine wp_fill rfl 45 (.tmp 12) (.tmp 69) rfl wr.heap.size _ 45 [.int .i64 xf, .slice A5 o.f1.length c5] N3.out rfl rfl rfl info45s (one2 _ _ _ _) ?_; intro w3 hx3 hf3; have X3 : Aside0 (w3.heap[wr.heap.size]? = some (.cells #[.int .i64 xf, .slice A5 o.f1.length c5] 45 (0, 0))) := ⟨hx3⟩; have K3 : Aside0 (Below wr.heap.size wr w3) := ⟨below_fr (below_alloc (Below.refl _ _) (.cells #[.int .i64 0, .slice none 0 0] 45)) (by rw [World.size_alloc]; exact Nat.le_succ _) hf3 (fun k hk => by rw [hk]; exact Nat.le_refl _)⟩; clear hx3 hf3)
        have R3 := Aside0.mk (Kd.R_below RO.out K3.out)
        have B3 := Aside0.mk (below_step BO.out K3.out)
        have HLS := HPL
        clear N3 K3 ka kb BO
        obtain ⟨g4, hg4⟩ : ∃ g4, wr.heap.size = g4 := ⟨_, rfl⟩
        have HG4 := Aside0.mk hg4
        rw [hg4] at X3 ⊢
        have k40 : w3.cell? ⟨g4, 0, none⟩ = some (.int .i64 xf) := blk_cell X3.out 0
        have k41 : w3.cell? ⟨g4, 1, none⟩ = some (.slice A5 o.f1.length c5) := blk_cell X3.out 1
        have h13 : ¬ (o.f1.length : Int) > 1100 := by have := HLO.out; omega
        have h13b := decide_eq_false h13
        have h14 : ¬ (n9 : Int) > 1100 := by have h1 := HN9.out; have h2 := HPL.out; omega
        have h14b := decide_eq_false h14
        go_upto_region 15 with fail
        clear h13b h14b h13 h14
        refine start_ (n := 12) (S := fun w' => w'.cell? ⟨g4, 0, none⟩ = some (.int .i64 xf) ∧ w'.cell? ⟨g4, 1, none⟩ = some (.slice A5 o.f1.length c5)) (ds := [9, 10]) #[false, false, false, false, false, false, false, false, false, false, false, false] (by kernel_rfl) rfl rfl ⟨k40, k41⟩ (fun hHeld => ?_)
        refine pure_ (i := 0) (N := some 79) (v := ?_) (a' := ?_) #[true, false, false, false, false, false, false, false, false, false, false, false] rfl rfl (by kernel_rfl) (fun _ _ _ h => h) (Or.inl ⟨by rfl, ?_⟩) ?_ ?_
        rotate_left
        · intro w'
          go_simp
          with_reducible rfl
        rotate_left
        · simp only [Act.put, List.setIfInBounds_toArray, List.set_cons_zero, List.set_cons_succ, i64_w, i32_w]
          rfl
        refine pure_ (i := 1) (N := some 80) (v := ?_) (a' := ?_) #[true, true, false, false, false, false, false, false, false, false, false, false] rfl rfl (by kernel_rfl) (fun _ _ _ h => h) (Or.inl ⟨by rfl, ?_⟩) ?_ ?_
        rotate_left
        · intro w'
          go_simp
          with_reducible rfl
        rotate_left
        · simp only [Act.put, List.setIfInBounds_toArray, List.set_cons_zero, List.set_cons_succ, i64_w, i32_w]
          rfl
        refine pure_ (i := 6) (N := some 85) (v := ?_) (a' := ?_) #[true, true, false, false, false, false, true, false, false, false, false, false] rfl rfl (by kernel_rfl) (fun _ _ _ h => h) (Or.inl ⟨by rfl, ?_⟩) ?_ ?_
        rotate_left
        · intro w'
          go_simp
          with_reducible rfl
        rotate_left
        · simp only [Act.put, List.setIfInBounds_toArray, List.set_cons_zero, List.set_cons_succ, i64_w, i32_w]
          rfl
        refine take_ (i := 2) (N := some 81) (v := ?_) (a' := ?_) #[true, true, true, false, false, false, true, false, false, false, false, false] rfl rfl (by kernel_rfl) (fun _ _ _ h => h) (Or.inl ⟨by rfl, ?_⟩) hHeld ?_ ?_
        rotate_left
        · rintro w' ⟨s0, s1⟩
          go_simp
          with_reducible rfl
        rotate_left
        · simp only [Act.put, List.setIfInBounds_toArray, List.set_cons_zero, List.set_cons_succ, i64_w, i32_w]
          rfl
        refine pure_ (i := 3) (N := some 82) (v := ?_) (a' := ?_) #[true, true, true, true, false, false, true, false, false, false, false, false] rfl rfl (by kernel_rfl) (fun _ _ _ h => h) (Or.inl ⟨by rfl, ?_⟩) ?_ ?_
        rotate_left
        · intro w'
          go_simp
          with_reducible rfl
        rotate_left
        · simp only [Act.put, List.setIfInBounds_toArray, List.set_cons_zero, List.set_cons_succ, i64_w, i32_w]
          rfl
        refine take_ (i := 7) (N := some 86) (v := ?_) (a' := ?_) #[true, true, true, true, false, false, true, true, false, false, false, false] rfl rfl (by kernel_rfl) (fun _ _ _ h => h) (Or.inl ⟨by rfl, ?_⟩) hHeld ?_ ?_
        rotate_left
        · rintro w' ⟨s0, s1⟩
          go_simp
          with_reducible rfl
        rotate_left
        · simp only [Act.put, List.setIfInBounds_toArray, List.set_cons_zero, List.set_cons_succ, i64_w, i32_w]
          rfl
        refine pure_ (i := 8) (N := some 87) (v := ?_) (a' := ?_) #[true, true, true, true, false, false, true, true, true, false, false, false] rfl rfl (by kernel_rfl) (fun _ _ _ h => h) (Or.inl ⟨by rfl, ?_⟩) ?_ ?_
        rotate_left
        · intro w'
          go_simp
          with_reducible rfl
        rotate_left
        · simp only [Act.put, List.setIfInBounds_toArray, List.set_cons_zero, List.set_cons_succ, i64_w, i32_w]
          rfl
        refine one_ (i := 4) (N := some 83) #[true, true, true, true, true, false, true, true, true, false, false, false] rfl rfl (by kernel_rfl) (by decide) (fun K hK => ?_)
        refine value_ (w1 := ?_) (v := ?_) (by rfl) rfl ?_ ?_
        rotate_left 2
        · go_simp
          constructor
          · rfl
          · rfl
        refine hK.out _ _ ⟨(cell_alloc_old (w := w3.drew) k40 _), (cell_alloc_old (w := w3.drew) k41 _)⟩ (fun hHeld => ?_)
        clear hK K
        refine norm_ (a' := ?_) ?_ ?_
        rotate_left
        · show Act.put _ (some 83) _ = _
          simp only [Act.put, List.setIfInBounds_toArray, List.set_cons_zero, List.set_cons_succ, i64_w, i32_w]
          rfl
        refine one_ (i := 5) (N := some 84) #[true, true, true, true, true, true, true, true, true, false, false, false] rfl rfl (by kernel_rfl) (by decide) (fun K hK => ?_)
        refine Kd.R_append_rows_step (Kd.int .u8) (Rr := (Kd.int .u8).K _) (w0 := w1) w1.heap.size (by rfl) (.tmp 79) (.tmp 83) 22 5 (.int .u8 0) 1 rfl Try.underlying22 info_u8 rfl (by decide) (by decide) (.slice A9 n9 c9) LS [xf % 256, 0] (some ⟨w3.heap.size, 0, none⟩) 2 2 (fun _ => True) (fun _ => False) rfl rfl (Kd.R_drew (Kd.R_alloc R3.out (.cells #[.int .u8 (IntKind.u8.wrap xf), .int .u8 0] 5))) (C_arr (l := [xf % 256, 0]) (blk_drew (blk_new w3 (.cells #[.int .u8 (IntKind.u8.wrap xf), .int .u8 0] 5))) (by simp)) (fun _ _ h => h) (fun _ hk => hk.elim) (fun _ _ => trivial) (Below.alloc B3.out B3.out.size (.cells #[.int .u8 (IntKind.u8.wrap xf), .int .u8 0] 5)).drew (Below.alloc B3.out B3.out.size (.cells #[.int .u8 (IntKind.u8.wrap xf), .int .u8 0] 5)).drew.size (by have := HLS.out; show (LS.length + 2) * 1 ≤ _; omega) ?_
        intro vF wF hrF hbF hgF hatF
        have KF : Below w1.heap.size w1 wF := hbF
        have X4F := blk_grown (blk_drew (blk_alloc X3.out (.cells #[.int .u8 (IntKind.u8.wrap xf), .int .u8 0] 5))) hgF (fun he => by have := R_lt' RO.out he.symm; omega)
        have hnF : ¬ vF.ownBlock = some g4 := fun he => hatF.elim (fun h1 => by rw [h1] at he; have := R_lt' RO.out he; omega) (fun ⟨bb, h1, h2⟩ => by rw [h1] at he; injection he with he; subst he; have h3 := blk_lt X3.out; have h4 : (w3.alloc (.cells #[.int .u8 (IntKind.u8.wrap xf), .int .u8 0] 5)).drew.heap.size = w3.heap.size + 1 := World.size_alloc _ _; omega)
        refine hK.out _ _ ⟨(blk_cell X4F 0), (blk_cell X4F 1)⟩ (fun hHeld => ?_)
        clear hK K
        refine norm_ (a' := ?_) ?_ ?_
        rotate_left
        · show Act.put _ (some 84) _ = _
          simp only [Act.put, List.setIfInBounds_toArray, List.set_cons_zero, List.set_cons_succ, i64_w, i32_w]
          rfl
        refine last_ (i := 9) (N := some 88) #[true, true, true, true, true, true, true, true, true, true, false, false] rfl rfl (by kernel_rfl) (by decide) (fun K hK => ?_)
        refine goes_ Try.func36 (by kernel_rfl) rfl #[.int .i64 (o.f1.length : Int)] (by rfl) rfl rfl (by simp only [List.map_toArray, List.map_cons, List.map_nil]; rfl) ?_
        with_reducible refine (two_calls (o.f1.length : Int) _).mono ?_
        rintro e wG ⟨vT, rfl, hrwG, hbwG⟩
        refine ⟨_, rfl, ?_⟩
        have KG : Below w1.heap.size w1 wG := below_step KF hbwG
        have RwG := Kd.R_below hrF hbwG
        obtain ⟨AwG, cwG, rfl⟩ := Kd.R_slice hrwG
        have CwG := (Kd.R_reads' hrwG).2.2
        have X4G := blk_below X4F hbwG
        refine hK.out _ _ ?_
        clear hK K
        refine norm_ (a' := ?_) ?_ ?_
        rotate_left
        · show Act.put _ (some 88) _ = _
          simp only [Act.put, List.setIfInBounds_toArray, List.set_cons_zero, List.set_cons_succ, i64_w, i32_w]
          rfl
        refine last_ (i := 10) (N := some 89) #[true, true, true, true, true, true, true, true, true, true, true, false] rfl rfl (by kernel_rfl) (by decide) (fun K hK => ?_)
        refine Kd.R_append_rows_step (Kd.int .u8) (Rr := (Kd.int .u8).K _) (w0 := w1) w1.heap.size (by rfl) (.tmp 84) (.tmp 88) 22 5 (.int .u8 0) 1 rfl Try.underlying22 info_u8 rfl (by decide) (by decide) vF (LS ++ [xf % 256, 0]) (twoL o.f1.length) AwG _ cwG (fun _ => True) (fun _ => False) rfl rfl RwG CwG (fun _ _ h => h) (fun _ hk => hk.elim) (fun _ _ => trivial) KG KG.size (by have := HLS.out; rw [List.length_append]; show (LS.length + 2 + 2) * 1 ≤ _; omega) ?_
        intro v5 w5 hr5 hb5 hg5 _
        have R5 := Aside0.mk hr5
        have B5 := Aside0.mk hb5
        have K35 : Aside0 (Below w1.heap.size w1 w5) := ⟨hb5⟩
        have X5 : Aside0 (w5.heap[g4]? = some (.cells #[.int .i64 xf, .slice A5 o.f1.length c5] 45 (0, 0))) := ⟨blk_grown X4G hg5 (fun he => hnF he.symm)⟩
        clear hr5 hb5 hg5
        refine hK.out _ _ ?_
        clear hK K
        refine norm_ (a' := ?_) ?_ ?_
        rotate_left
        · show Act.put _ (some 89) _ = _
          simp only [Act.put, List.setIfInBounds_toArray, List.set_cons_zero, List.set_cons_succ, i64_w, i32_w]
          rfl
        refine pure_ (i := 11) (N := some 9) (v := ?_) (a' := ?_) #[true, true, true, true, true, true, true, true, true, true, true, true] rfl rfl (by kernel_rfl) (fun _ _ _ h => h) (Or.inl ⟨by rfl, ?_⟩) ?_ ?_
        rotate_left
        · intro w'
          go_simp
          with_reducible rfl
        rotate_left
        · simp only [Act.put, List.setIfInBounds_toArray, List.set_cons_zero, List.set_cons_succ, i64_w, i32_w]
          rfl
        refine done_ (by kernel_rfl) ?_
        clear k40 k41 R3 B3 X3 RO
        have C5 := Aside0.mk (Kd.C_below C1o.out K35.out)
        have k51 : w5.cell? ⟨g4, 1, none⟩ = some (.slice A5 o.f1.length c5) := blk_cell X5.out 1
        obtain ⟨LT, hLT⟩ : ∃ LT, LS ++ [xf % 256, 0] ++ twoL o.f1.length ++ o.f1 = LT := ⟨_, rfl⟩
        have HLT := Aside0.mk hLT
        have HLTL : Aside0 (LT.length = LS.length + 4 + o.f1.length) := ⟨by rw [← hLT]; unfold twoL; simp; omega⟩
        clear hLT hg4
        go_upto_region 17 with ((with_reducible refine gate_builtin (b := .append) (xs := #[.tmp 90, .tmp 92]) rfl ?_); at_builtin; refine Kd.R_append_row (Value.int .u8) (0 : Int) (w0 := w1) w1.heap.size rfl (.tmp 90) (.tmp 92) 22 5 (.int .u8 0) 1 rfl Try.underlying22 info_u8 rfl (Nat.succ_pos _) v5 (LS ++ [xf % 256, 0] ++ twoL o.f1.length) o.f1 A5 _ c5 (fun _ => True) rfl rfl (fun _ _ => trivial) R5.out C5.out B5.out B5.out.size (by have h1 := HLS.out; have h2 := HLO.out; rw [List.length_append, List.length_append]; show (LS.length + 2 + 2 + o.f1.length) * 1 ≤ _; omega) ?_; intro v6 w6 hr_ hb_ _ _; have Rw6 := Aside0.mk hr_; have Bw6 := Aside0.mk hb_; clear hr_ hb_)
        clear k51 R5 B5
        rw [HLT.out] at Rw6
        have HWL : Aside0 (LS.length + 4 + wholeN o.f1.length ≤ 1100 ∧ LS.length % 4 = 0 ∧ o.f1.length ≤ wholeN o.f1.length ∧ wholeN o.f1.length ≤ o.f1.length + 3 ∧ wholeN o.f1.length % 4 = 0) := ⟨by
          have h1 := whole_le o.f1.length
          have h := HL.out.2.2
          unfold grantG at h
          rw [← List.take_append_drop (i + 1) L, List.flatMap_append, List.length_append, List.length_append, HDR.out, List.flatMap_append, List.length_append] at h
          have h2 := HLSE.out
          have h3 : LS.length = (baseG x li ep oa op).length + ((L.take i).flatMap optB).length := by rw [← h2, List.length_append]
          have h4 : ([o].flatMap optB).length = 4 + wholeN o.f1.length := by rw [List.flatMap_cons, List.flatMap_nil, List.append_nil, optB_len]
          have h5 := flat_mod (L.take i)
          have h6 := baseG_len x HX.out li ep oa op
          have h7 : (baseG x li ep oa op).length % 4 = 0 := by rw [h6]; split <;> rfl
          refine ⟨by omega, by omega, h1.1, h1.2.1, h1.2.2⟩⟩
        obtain ⟨A6, c6, rfl⟩ := Kd.R_slice Rw6.out
        have RI0 : Aside0 (Kd.R (Kd.int .u8) 5 w6 w1.heap.size (fun _ => True) (.slice A6 LT.length c6) (LT ++ List.replicate 0 0)) := ⟨by rw [List.replicate_zero, List.append_nil]; exact Rw6.out⟩
        have BI0 := Bw6
        clear Rw6 Bw6 X5 C5 K35 C1o
        go_loopg [9] (wholeN o.f1.length - o.f1.length) (fun p v9 wi => ∃ (z n6 c6 : Nat) (A6 : Option Addr), v9 = .slice A6 n6 c6 ∧ Aside0 (z + p = wholeN o.f1.length - o.f1.length) ∧ Aside0 (n6 = LT.length + z) ∧ Aside0 (Kd.R (Kd.int .u8) 5 wi w1.heap.size (fun _ => True) (.slice A6 n6 c6) (LT ++ List.replicate z 0)) ∧ Aside0 (Below w1.heap.size w1 wi))
        case atStart => exact ⟨0, _, c6, A6, rfl, ⟨by omega⟩, ⟨rfl⟩, RI0, BI0⟩
        case round =>
          clear RI0 BI0
          obtain ⟨z, n6, c6, A6, rfl, Hz, HN6, RI, BI⟩ := hrel
          cases gk with
          | zero =>
            have hm : Aside0 (n6 % 4 = 0 ∧ n6 = LS.length + 4 + wholeN o.f1.length) := ⟨by have h1 := HN6.out; have h2 := HLTL.out; have h3 := Hz.out; have h4 := HWL.out; omega⟩
            have hrm : ((n6 : Int)) % 4 = 0 := by have := hm.out; omega
            have HFIN : Aside0 (LT ++ List.replicate z 0 = baseG x li ep oa op ++ (L.take (i + 1)).flatMap optB) := ⟨by
              rw [HDR.out, List.flatMap_append, List.flatMap_cons, List.flatMap_nil, List.append_nil, ← List.append_assoc, HLSE.out, ← HLT.out]
              unfold optB
              rw [HXF.out, show z = wholeN o.f1.length - o.f1.length by have := Hz.out; omega]
              simp only [List.append_assoc]⟩
            have hil2 : (i : Int) ≤ 1100 := by have h1 := Hi.out; have h2 := HL.out.1; omega
            go_wp2
            go_roundg q
            case measure => omega
            case rel => exact ⟨i + 1, n6, c6, A6, by go_num, rfl, ⟨by have := Hi.out; omega⟩, ⟨by rw [← HFIN.out, List.length_append, List.length_replicate]; exact HN6.out⟩, ⟨by rw [← HFIN.out]; exact RI.out⟩, BI⟩
          | succ p =>
            have hnr : ¬ ((n6 : Int)) % 4 = 0 := by have h1 := HN6.out; have h2 := HLTL.out; have h3 := Hz.out; have h4 := HWL.out; omega
            have hnb : (((n6 : Int)) % 4 != 0) = true := by simpa using hnr
            have HLZ : Aside0 (((LT ++ List.replicate z (0 : Int)).length + 1) * 1 ≤ 140737488355328) := ⟨by rw [List.length_append, List.length_replicate]; have h1 := HN6.out; have h2 := HLTL.out; have h3 := Hz.out; have h4 := HWL.out; omega⟩
            have HZ2 : Aside0 (LT ++ List.replicate z 0 ++ [0] = LT ++ List.replicate (z + 1) (0 : Int)) := ⟨snoc_zero _ _⟩
            go_wp2_with (at_builtin; refine Kd.R_append (Kd.int .u8) (w0 := w1) w1.heap.size rfl (.tmp 98) (.tmp 99) 22 5 (.int .u8 0) 1 rfl Try.underlying22 info_u8 rfl (Nat.succ_pos _) (Nat.succ_pos _) (.slice A6 n6 c6) _ 0 [.int .u8 0] (fun _ => True) (fun _ => False) rfl rfl rfl (fun _ hk => hk.elim) (fun _ _ => trivial) RI.out BI.out BI.out.size HLZ.out ?_; intro v7 w7 hr hb hg hat; have R7 := Aside0.mk hr; have B7 := Aside0.mk hb; clear hr hb hg hat)
            rw [HZ2.out] at R7
            obtain ⟨A7, c7, rfl⟩ := Kd.R_slice R7.out
            have hl7 : (LT ++ List.replicate (z + 1) (0 : Int)).length = n6 + 1 := by rw [List.length_append, List.length_replicate]; have := HN6.out; omega
            rw [hl7] at R7 ⊢
            clear hl7
            go_roundg p
            case measure => omega
            case rel => exact ⟨z + 1, n6 + 1, c7, A7, rfl, ⟨by have := Hz.out; omega⟩, ⟨by have := HN6.out; omega⟩, R7, B7⟩
end Go.Proofs.Ytpjkbokojlpjoaa.Ak
