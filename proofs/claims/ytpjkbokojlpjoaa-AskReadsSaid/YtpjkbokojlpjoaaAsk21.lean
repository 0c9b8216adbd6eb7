/- the document's Same, of two requests. -/
import Derived.Test.YtpjkbokojlpjoaaAsk20
namespace Go.Proofs.Ytpjkbokojlpjoaa.Ak
open Go.RowKit Go.Proofs.YtpjkbokojlpjoaaW.PrintWords Go.Proofs.YtpjkbokojlpjoaaW.PrintLast Go.Proofs.YtpjkbokojlpjoaaW.PrintMore Go.Proofs.Ytpjkbokojlpjoaa.Bs Go.Proofs.Ytpjkbokojlpjoaa.Fr Go.Proofs.Ytpjkbokojlpjoaa.Oct
open Go.Proofs.Ytpjkbokojlpjoaa.PAskReads (S45 k45 z45 k45_open k45_openM k45_mk k45_mkM info45 at_T45 rd_T45)
set_option linter.unusedVariables false
set_option linter.unusedSimpArgs false

theorem neq25 (l : List Int) (hl : l.length = 16) (w : World) : (binOp .neq 25 (.agg (e8 l).toArray) (.agg (e8 l).toArray)).run Try.prog w = .ok (.bool false) w := by
  rw [neq_bytes Try.underlying25 l l w hl hl, decide_eq_true rfl]; rfl
theorem neq26 (l : List Int) (hl : l.length = 12) (w : World) : (binOp .neq 26 (.agg (e8 l).toArray) (.agg (e8 l).toArray)).run Try.prog w = .ok (.bool false) w := by
  rw [neq_bytes Try.underlying26 l l w hl hl, decide_eq_true rfl]; rfl
set_option maxHeartbeats 4000000 in
set_option maxRecDepth 100000 in
theorem RSame_calls (x : AM) (hx : x.ok) (L : List S45) (hL : L.length ≤ 1100) (hLd : ∀ o ∈ L, o.f1.length ≤ 2000) (A1 A2 : Option Addr) (c1 c2 : Nat) (w : World) (h1 : Kd.C k45 w A1 L.length L) (h2 : Kd.C k45 w A2 L.length L) :
    Calls Try.prog 11 #[AM.val { x with os := .slice A1 L.length c1 }, AM.val { x with os := .slice A2 L.length c2 }] w fun e w' => e = .returned (.bool true) ∧ Below w.heap.size w w' := by
  have hbA := below_alloc (Below.refl w.heap.size w) (.cells (AM.cells { x with os := .slice A1 L.length c1 }).toArray 29)
  have B1 := Aside0.mk (Below.alloc hbA hbA.size (.cells (AM.cells { x with os := .slice A2 L.length c2 }).toArray 29))
  have P1 : Aside0 (PB ((w.alloc (.cells (AM.cells { x with os := .slice A1 L.length c1 }).toArray 29)).alloc (.cells (AM.cells { x with os := .slice A2 L.length c2 }).toArray 29)) w.heap.size { x with os := .slice A1 L.length c1 }) := ⟨blk_alloc (blk_new w _) _⟩
  have P2 : Aside0 (PB ((w.alloc (.cells (AM.cells { x with os := .slice A1 L.length c1 }).toArray 29)).alloc (.cells (AM.cells { x with os := .slice A2 L.length c2 }).toArray 29)) (w.heap.size + 1) { x with os := .slice A2 L.length c2 }) := ⟨by have h := blk_new (w.alloc (.cells (AM.cells { x with os := .slice A1 L.length c1 }).toArray 29)) (.cells (AM.cells { x with os := .slice A2 L.length c2 }).toArray 29); rw [World.size_alloc] at h; exact h⟩
  have O1 : Aside0 (({ x with os := .slice A1 L.length c1 } : AM).ok) := ⟨⟨hx.cl, hx.no, hx.wa, hx.fa, rfl⟩⟩
  have O2 : Aside0 (({ x with os := .slice A2 L.length c2 } : AM).ok) := ⟨⟨hx.cl, hx.no, hx.wa, hx.fa, rfl⟩⟩
  have H1 := Aside0.mk (Kd.C_below h1 B1.out)
  have H2 := Aside0.mk (Kd.C_below h2 B1.out)
  have HX := Aside0.mk hx
  have HLL := Aside0.mk (And.intro hL hLd)
  clear hbA h1 h2 hx hL hLd
  unfold AM.val
  go_enter Try.func11, Try.ntmps11
  go_upto_region 1 with fail
  generalize (w.alloc (.cells (AM.cells { x with os := .slice A1 L.length c1 }).toArray 29)).alloc (.cells (AM.cells { x with os := .slice A2 L.length c2 }).toArray 29) = w1 at *
  have a0 : w1.cell? ⟨w.heap.size, 0, none⟩ = some (.int .i64 x.op) := P1.out.kop
  have b0 : w1.cell? ⟨w.heap.size + 1, 0, none⟩ = some (.int .i64 x.op) := P2.out.kop
  have a1 : w1.cell? ⟨w.heap.size, 1, none⟩ = some (.int .u32 x.life) := P1.out.k1
  have b1 : w1.cell? ⟨w.heap.size + 1, 1, none⟩ = some (.int .u32 x.life) := P2.out.k1
  obtain ⟨a30, a31, a32, a49⟩ := P1.out.kk O1.out
  obtain ⟨b30, b31, b32, b49⟩ := P2.out.kk O2.out
  have a66 : w1.cell? ⟨w.heap.size, 66, none⟩ = some (.slice A1 L.length c1) := P1.out.kos O1.out
  have b66 : w1.cell? ⟨w.heap.size + 1, 66, none⟩ = some (.slice A2 L.length c2) := P2.out.kos O2.out
  have ncl := neq25 x.cl HX.out.cl
  have nwa := neq25 x.wa HX.out.wa
  have nfa := neq25 x.fa HX.out.fa
  have nno := neq26 x.no HX.out.no
  have S20 : Aside0 (w1.rangeAt w.heap.size 2 (e8 x.cl)) := ⟨P1.out.rcl⟩
  have S22 : Aside0 (w1.rangeAt (w.heap.size + 1) 2 (e8 x.cl)) := ⟨P2.out.rcl⟩
  have S27 : Aside0 (w1.rangeAt w.heap.size 18 (e8 x.no)) := ⟨P1.out.rno O1.out⟩
  have S29 : Aside0 (w1.rangeAt (w.heap.size + 1) 18 (e8 x.no)) := ⟨P2.out.rno O2.out⟩
  have S55 : Aside0 (w1.rangeAt w.heap.size 33 (e8 x.wa)) := ⟨P1.out.rwa O1.out⟩
  have S57 : Aside0 (w1.rangeAt (w.heap.size + 1) 33 (e8 x.wa)) := ⟨P2.out.rwa O2.out⟩
  have S69 : Aside0 (w1.rangeAt w.heap.size 50 (e8 x.fa)) := ⟨P1.out.rfa O1.out⟩
  have S71 : Aside0 (w1.rangeAt (w.heap.size + 1) 50 (e8 x.fa)) := ⟨P2.out.rfa O2.out⟩
  go_upto_region 4 with (first
    | (refine gate_guard (by rfl) ?_; refine wpList_load_mid rfl 25 (.tmp 19) rfl w.heap.size 2 rfl (e8 x.cl) _ S20.out Try.underlying25 rfl (by rw [encs_length, HX.out.cl]; exact info25) ?_)
    | (refine gate_guard (by rfl) ?_; refine wpList_load_mid rfl 25 (.tmp 21) rfl (w.heap.size + 1) 2 rfl (e8 x.cl) _ S22.out Try.underlying25 rfl (by rw [encs_length, HX.out.cl]; exact info25) ?_)
    | (refine gate_guard (by rfl) ?_; refine wpList_load_mid rfl 26 (.tmp 26) rfl w.heap.size 18 rfl (e8 x.no) _ S27.out Try.underlying26 rfl (by rw [encs_length, HX.out.no]; exact info26) ?_)
    | (refine gate_guard (by rfl) ?_; refine wpList_load_mid rfl 26 (.tmp 28) rfl (w.heap.size + 1) 18 rfl (e8 x.no) _ S29.out Try.underlying26 rfl (by rw [encs_length, HX.out.no]; exact info26) ?_)
    | (refine gate_guard (by rfl) ?_; refine wpList_load_mid rfl 25 (.tmp 54) rfl w.heap.size 33 rfl (e8 x.wa) _ S55.out Try.underlying25 rfl (by rw [encs_length, HX.out.wa]; exact info25) ?_)
    | (refine gate_guard (by rfl) ?_; refine wpList_load_mid rfl 25 (.tmp 56) rfl (w.heap.size + 1) 33 rfl (e8 x.wa) _ S57.out Try.underlying25 rfl (by rw [encs_length, HX.out.wa]; exact info25) ?_)
    | (refine gate_guard (by rfl) ?_; refine wpList_load_mid rfl 25 (.tmp 68) rfl w.heap.size 50 rfl (e8 x.fa) _ S69.out Try.underlying25 rfl (by rw [encs_length, HX.out.fa]; exact info25) ?_)
    | (refine gate_guard (by rfl) ?_; refine wpList_load_mid rfl 25 (.tmp 70) rfl (w.heap.size + 1) 50 rfl (e8 x.fa) _ S71.out Try.underlying25 rfl (by rw [encs_length, HX.out.fa]; exact info25) ?_))
  clear a0 b0 a1 b1 a30 a31 a32 a49 b30 b31 b32 b49 ncl nwa nfa nno S20 S22 S27 S29 S55 S57 S69 S71
  go_loopg [5] L.length (fun q v5 wr => ∃ i : Nat, v5 = .int .i64 (i : Int) ∧ Aside0 (i + q = L.length) ∧ Aside0 (Below w1.heap.size w1 wr))
  case atStart => exact ⟨0, rfl, ⟨by omega⟩, ⟨Below.refl _ _⟩⟩
  case round =>
    obtain ⟨i, rfl, Hi, BB⟩ := hrel
    have ka := pw_cell_below BB.out a66
    have kb := pw_cell_below BB.out b66
    cases gk with
    | zero =>
      have hlt : ¬ ((i : Int) < (L.length : Int)) := by have := Hi.out; omega
      have hlb := decide_eq_false hlt
      clear a66 b66
      go_wp2
      go_ret
      exact ⟨rfl, below_step B1.out BB.out⟩
    | succ q =>
      have hlt : (i : Int) < (L.length : Int) := by have := Hi.out; omega
      have hlb := decide_eq_true hlt
      have hi0 : (0 : Int) ≤ i ∧ (i : Int) < (L.length : Int) := ⟨by omega, hlt⟩
      obtain ⟨ad1, A3, c3, e1, ca, cb, le1, CC1⟩ := at_T45 (Kd.C_below H1.out BB.out) (i : Int) (by omega) hlt
      obtain ⟨ad2, A4, c4, e2, da, db, le2, CC2⟩ := at_T45 (Kd.C_below H2.out BB.out) (i : Int) (by omega) hlt
      subst e1
      subst e2
      have HLO : Aside0 ((rd_T45 L i).f1.length ≤ 2000) := ⟨by
        refine HLL.out.2 _ ?_
        unfold rd_T45
        have hi' : i < L.length := by omega
        simp [List.getD_eq_getElem?_getD, List.getElem?_eq_getElem hi']⟩
      generalize rd_T45 L (i : Int) = o at *
      rw [Int.toNat_natCast] at ca cb da db
      have HC := Aside0.mk (And.intro (And.intro le1 CC1) (And.intro le2 CC2))
      have hil : (i : Int) ≤ 1100 := by have h1 := Hi.out; have h2 := HLL.out.1; omega
      clear le1 CC1 le2 CC2 a66 b66
      go_upto_region 6 with fail
      refine start_ (n := 29) (S := fun w' => w'.cell? ⟨w.heap.size, 66, none⟩ = some (.slice (some ad1) L.length c1) ∧ w'.cell? ⟨w.heap.size + 1, 66, none⟩ = some (.slice (some ad2) L.length c2) ∧ w'.cell? (ad1.add (i * 2)) = some (.int .i64 o.f0) ∧ w'.cell? ⟨(ad1.add (i * 2)).block, (ad1.add (i * 2)).off + 1, none⟩ = some (.slice A3 o.f1.length c3) ∧ w'.cell? (ad2.add (i * 2)) = some (.int .i64 o.f0) ∧ w'.cell? ⟨(ad2.add (i * 2)).block, (ad2.add (i * 2)).off + 1, none⟩ = some (.slice A4 o.f1.length c4)) (ds := []) #[false, false, false, false, false, false, false, false, false, false, false, false, false, false, false, false, false, false, false, false, false, false, false, false, false, false, false, false, false] (by kernel_rfl) rfl rfl ⟨ka, kb, ca, cb, da, db⟩ (fun hHeld => ?_)
      refine pure_ (i := 0) (N := some 90) (v := ?_) (a' := ?_) #[true, false, false, false, false, false, false, false, false, false, false, false, false, false, false, false, false, false, false, false, false, false, false, false, false, false, false, false, false] rfl rfl (by kernel_rfl) (fun _ _ _ h => h) (Or.inl ⟨by rfl, ?_⟩) ?_ ?_
      rotate_left
      · intro w'
        go_simp
        with_reducible rfl
      rotate_left
      · simp only [Act.put, List.setIfInBounds_toArray, List.set_cons_zero, List.set_cons_succ, i64_w, i32_w]
        rfl
      refine pure_ (i := 2) (N := some 92) (v := ?_) (a' := ?_) #[true, false, true, false, false, false, false, false, false, false, false, false, false, false, false, false, false, false, false, false, false, false, false, false, false, false, false, false, false] rfl rfl (by kernel_rfl) (fun _ _ _ h => h) (Or.inl ⟨by rfl, ?_⟩) ?_ ?_
      rotate_left
      · intro w'
        go_simp
        with_reducible rfl
      rotate_left
      · simp only [Act.put, List.setIfInBounds_toArray, List.set_cons_zero, List.set_cons_succ, i64_w, i32_w]
        rfl
      refine pure_ (i := 6) (N := some 96) (v := ?_) (a' := ?_) #[true, false, true, false, false, false, true, false, false, false, false, false, false, false, false, false, false, false, false, false, false, false, false, false, false, false, false, false, false] rfl rfl (by kernel_rfl) (fun _ _ _ h => h) (Or.inl ⟨by rfl, ?_⟩) ?_ ?_
      rotate_left
      · intro w'
        go_simp
        with_reducible rfl
      rotate_left
      · simp only [Act.put, List.setIfInBounds_toArray, List.set_cons_zero, List.set_cons_succ, i64_w, i32_w]
        rfl
      refine pure_ (i := 8) (N := some 98) (v := ?_) (a' := ?_) #[true, false, true, false, false, false, true, false, true, false, false, false, false, false, false, false, false, false, false, false, false, false, false, false, false, false, false, false, false] rfl rfl (by kernel_rfl) (fun _ _ _ h => h) (Or.inl ⟨by rfl, ?_⟩) ?_ ?_
      rotate_left
      · intro w'
        go_simp
        with_reducible rfl
      rotate_left
      · simp only [Act.put, List.setIfInBounds_toArray, List.set_cons_zero, List.set_cons_succ, i64_w, i32_w]
        rfl
      refine take_ (i := 1) (N := some 91) (v := ?_) (a' := ?_) #[true, true, true, false, false, false, true, false, true, false, false, false, false, false, false, false, false, false, false, false, false, false, false, false, false, false, false, false, false] rfl rfl (by kernel_rfl) (fun _ _ _ h => h) (Or.inl ⟨by rfl, ?_⟩) hHeld ?_ ?_
      rotate_left
      · rintro w' ⟨s0, s1, s2, s3, s4, s5⟩
        go_simp
        with_reducible rfl
      rotate_left
      · simp only [Act.put, List.setIfInBounds_toArray, List.set_cons_zero, List.set_cons_succ, i64_w, i32_w]
        rfl
      refine pure_ (i := 3) (N := some 93) (v := ?_) (a' := ?_) #[true, true, true, true, false, false, true, false, true, false, false, false, false, false, false, false, false, false, false, false, false, false, false, false, false, false, false, false, false] rfl rfl (by kernel_rfl) (fun _ _ _ h => h) (Or.inl ⟨by rfl, ?_⟩) ?_ ?_
      rotate_left
      · intro w'
        go_simp
        with_reducible rfl
      rotate_left
      · simp only [Act.put, List.setIfInBounds_toArray, List.set_cons_zero, List.set_cons_succ, i64_w, i32_w]
        rfl
      refine pure_ (i := 4) (N := some 94) (v := ?_) (a' := ?_) #[true, true, true, true, true, false, true, false, true, false, false, false, false, false, false, false, false, false, false, false, false, false, false, false, false, false, false, false, false] rfl rfl (by kernel_rfl) (fun _ _ _ h => h) (Or.inl ⟨by rfl, ?_⟩) ?_ ?_
      rotate_left
      · intro w'
        go_simp
        with_reducible rfl
      rotate_left
      · simp only [Act.put, List.setIfInBounds_toArray, List.set_cons_zero, List.set_cons_succ, i64_w, i32_w]
        rfl
      refine take_ (i := 5) (N := some 95) (v := ?_) (a' := ?_) #[true, true, true, true, true, true, true, false, true, false, false, false, false, false, false, false, false, false, false, false, false, false, false, false, false, false, false, false, false] rfl rfl (by kernel_rfl) (fun _ _ _ h => h) (Or.inl ⟨by rfl, ?_⟩) hHeld ?_ ?_
      rotate_left
      · rintro w' ⟨s0, s1, s2, s3, s4, s5⟩
        go_simp
        with_reducible rfl
      rotate_left
      · simp only [Act.put, List.setIfInBounds_toArray, List.set_cons_zero, List.set_cons_succ, i64_w, i32_w]
        rfl
      refine take_ (i := 7) (N := some 97) (v := ?_) (a' := ?_) #[true, true, true, true, true, true, true, true, true, false, false, false, false, false, false, false, false, false, false, false, false, false, false, false, false, false, false, false, false] rfl rfl (by kernel_rfl) (fun _ _ _ h => h) (Or.inl ⟨by rfl, ?_⟩) hHeld ?_ ?_
      rotate_left
      · rintro w' ⟨s0, s1, s2, s3, s4, s5⟩
        go_simp
        with_reducible rfl
      rotate_left
      · simp only [Act.put, List.setIfInBounds_toArray, List.set_cons_zero, List.set_cons_succ, i64_w, i32_w]
        rfl
      refine pure_ (i := 9) (N := some 99) (v := ?_) (a' := ?_) #[true, true, true, true, true, true, true, true, true, true, false, false, false, false, false, false, false, false, false, false, false, false, false, false, false, false, false, false, false] rfl rfl (by kernel_rfl) (fun _ _ _ h => h) (Or.inl ⟨by rfl, ?_⟩) ?_ ?_
      rotate_left
      · intro w'
        go_simp
        with_reducible rfl
      rotate_left
      · simp only [Act.put, List.setIfInBounds_toArray, List.set_cons_zero, List.set_cons_succ, i64_w, i32_w]
        rfl
      refine pure_ (i := 10) (N := some 100) (v := ?_) (a' := ?_) #[true, true, true, true, true, true, true, true, true, true, true, false, false, false, false, false, false, false, false, false, false, false, false, false, false, false, false, false, false] rfl rfl (by kernel_rfl) (fun _ _ _ h => h) (Or.inl ⟨by rfl, ?_⟩) ?_ ?_
      rotate_left
      · intro w'
        go_simp
        with_reducible rfl
      rotate_left
      · simp only [Act.put, List.setIfInBounds_toArray, List.set_cons_zero, List.set_cons_succ, i64_w, i32_w]
        rfl
      refine take_ (i := 11) (N := some 101) (v := ?_) (a' := ?_) #[true, true, true, true, true, true, true, true, true, true, true, true, false, false, false, false, false, false, false, false, false, false, false, false, false, false, false, false, false] rfl rfl (by kernel_rfl) (fun _ _ _ h => h) (Or.inl ⟨by rfl, ?_⟩) hHeld ?_ ?_
      rotate_left
      · rintro w' ⟨s0, s1, s2, s3, s4, s5⟩
        go_simp
        with_reducible rfl
      rotate_left
      · simp only [Act.put, List.setIfInBounds_toArray, List.set_cons_zero, List.set_cons_succ, i64_w, i32_w]
        rfl
      refine pure_ (i := 12) (N := some 102) (v := ?_) (a' := ?_) #[true, true, true, true, true, true, true, true, true, true, true, true, true, false, false, false, false, false, false, false, false, false, false, false, false, false, false, false, false] rfl rfl (by kernel_rfl) (fun _ _ _ h => h) (Or.inl ⟨by rfl, ?_⟩) ?_ ?_
      rotate_left
      · intro w'
        go_simp
        with_reducible rfl
      rotate_left
      · simp only [Act.put, List.setIfInBounds_toArray, List.set_cons_zero, List.set_cons_succ, i64_w, i32_w]
        rfl
      refine pure_ (i := 13) (N := some 103) (v := ?_) (a' := ?_) #[true, true, true, true, true, true, true, true, true, true, true, true, true, true, false, false, false, false, false, false, false, false, false, false, false, false, false, false, false] rfl rfl (by kernel_rfl) (fun _ _ _ h => h) (Or.inl ⟨by rfl, ?_⟩) ?_ ?_
      rotate_left
      · intro w'
        go_simp
        with_reducible rfl
      rotate_left
      · simp only [Act.put, List.setIfInBounds_toArray, List.set_cons_zero, List.set_cons_succ, i64_w, i32_w]
        rfl
      refine pure_ (i := 14) (N := some 104) (v := ?_) (a' := ?_) #[true, true, true, true, true, true, true, true, true, true, true, true, true, true, true, false, false, false, false, false, false, false, false, false, false, false, false, false, false] rfl rfl (by kernel_rfl) (fun _ _ _ h => h) (Or.inl ⟨by rfl, ?_⟩) ?_ ?_
      rotate_left
      · intro w'
        go_simp
        with_reducible rfl
      rotate_left
      · simp only [Act.put, List.setIfInBounds_toArray, List.set_cons_zero, List.set_cons_succ, i64_w, i32_w]
        rfl
      refine pure_ (i := 16) (N := some 106) (v := ?_) (a' := ?_) #[true, true, true, true, true, true, true, true, true, true, true, true, true, true, true, false, true, false, false, false, false, false, false, false, false, false, false, false, false] rfl rfl (by kernel_rfl) (fun _ _ _ h => h) (Or.inl ⟨by rfl, ?_⟩) ?_ ?_
      rotate_left
      · intro w'
        go_simp
        with_reducible rfl
      rotate_left
      · simp only [Act.put, List.setIfInBounds_toArray, List.set_cons_zero, List.set_cons_succ, i64_w, i32_w]
        rfl
      refine pure_ (i := 20) (N := some 110) (v := ?_) (a' := ?_) #[true, true, true, true, true, true, true, true, true, true, true, true, true, true, true, false, true, false, false, false, true, false, false, false, false, false, false, false, false] rfl rfl (by kernel_rfl) (fun _ _ _ h => h) (Or.inl ⟨by rfl, ?_⟩) ?_ ?_
      rotate_left
      · intro w'
        go_simp
        with_reducible rfl
      rotate_left
      · simp only [Act.put, List.setIfInBounds_toArray, List.set_cons_zero, List.set_cons_succ, i64_w, i32_w]
        rfl
      refine pure_ (i := 22) (N := some 112) (v := ?_) (a' := ?_) #[true, true, true, true, true, true, true, true, true, true, true, true, true, true, true, false, true, false, false, false, true, false, true, false, false, false, false, false, false] rfl rfl (by kernel_rfl) (fun _ _ _ h => h) (Or.inl ⟨by rfl, ?_⟩) ?_ ?_
      rotate_left
      · intro w'
        go_simp
        with_reducible rfl
      rotate_left
      · simp only [Act.put, List.setIfInBounds_toArray, List.set_cons_zero, List.set_cons_succ, i64_w, i32_w]
        rfl
      refine take_ (i := 15) (N := some 105) (v := ?_) (a' := ?_) #[true, true, true, true, true, true, true, true, true, true, true, true, true, true, true, true, true, false, false, false, true, false, true, false, false, false, false, false, false] rfl rfl (by kernel_rfl) (fun _ _ _ h => h) (Or.inl ⟨by rfl, ?_⟩) hHeld ?_ ?_
      rotate_left
      · rintro w' ⟨s0, s1, s2, s3, s4, s5⟩
        go_simp
        with_reducible rfl
      rotate_left
      · simp only [Act.put, List.setIfInBounds_toArray, List.set_cons_zero, List.set_cons_succ, i64_w, i32_w]
        rfl
      refine pure_ (i := 17) (N := some 107) (v := ?_) (a' := ?_) #[true, true, true, true, true, true, true, true, true, true, true, true, true, true, true, true, true, true, false, false, true, false, true, false, false, false, false, false, false] rfl rfl (by kernel_rfl) (fun _ _ _ h => h) (Or.inl ⟨by rfl, ?_⟩) ?_ ?_
      rotate_left
      · intro w'
        go_simp
        with_reducible rfl
      rotate_left
      · simp only [Act.put, List.setIfInBounds_toArray, List.set_cons_zero, List.set_cons_succ, i64_w, i32_w]
        rfl
      refine pure_ (i := 18) (N := some 108) (v := ?_) (a' := ?_) #[true, true, true, true, true, true, true, true, true, true, true, true, true, true, true, true, true, true, true, false, true, false, true, false, false, false, false, false, false] rfl rfl (by kernel_rfl) (fun _ _ _ h => h) (Or.inl ⟨by rfl, ?_⟩) ?_ ?_
      rotate_left
      · intro w'
        go_simp
        with_reducible rfl
      rotate_left
      · simp only [Act.put, List.setIfInBounds_toArray, List.set_cons_zero, List.set_cons_succ, i64_w, i32_w]
        rfl
      refine take_ (i := 19) (N := some 109) (v := ?_) (a' := ?_) #[true, true, true, true, true, true, true, true, true, true, true, true, true, true, true, true, true, true, true, true, true, false, true, false, false, false, false, false, false] rfl rfl (by kernel_rfl) (fun _ _ _ h => h) (Or.inl ⟨by rfl, ?_⟩) hHeld ?_ ?_
      rotate_left
      · rintro w' ⟨s0, s1, s2, s3, s4, s5⟩
        go_simp
        with_reducible rfl
      rotate_left
      · simp only [Act.put, List.setIfInBounds_toArray, List.set_cons_zero, List.set_cons_succ, i64_w, i32_w]
        rfl
      refine take_ (i := 21) (N := some 111) (v := ?_) (a' := ?_) #[true, true, true, true, true, true, true, true, true, true, true, true, true, true, true, true, true, true, true, true, true, true, true, false, false, false, false, false, false] rfl rfl (by kernel_rfl) (fun _ _ _ h => h) (Or.inl ⟨by rfl, ?_⟩) hHeld ?_ ?_
      rotate_left
      · rintro w' ⟨s0, s1, s2, s3, s4, s5⟩
        go_simp
        with_reducible rfl
      rotate_left
      · simp only [Act.put, List.setIfInBounds_toArray, List.set_cons_zero, List.set_cons_succ, i64_w, i32_w]
        rfl
      refine pure_ (i := 23) (N := some 113) (v := ?_) (a' := ?_) #[true, true, true, true, true, true, true, true, true, true, true, true, true, true, true, true, true, true, true, true, true, true, true, true, false, false, false, false, false] rfl rfl (by kernel_rfl) (fun _ _ _ h => h) (Or.inl ⟨by rfl, ?_⟩) ?_ ?_
      rotate_left
      · intro w'
        go_simp
        with_reducible rfl
      rotate_left
      · simp only [Act.put, List.setIfInBounds_toArray, List.set_cons_zero, List.set_cons_succ, i64_w, i32_w]
        rfl
      refine pure_ (i := 24) (N := some 114) (v := ?_) (a' := ?_) #[true, true, true, true, true, true, true, true, true, true, true, true, true, true, true, true, true, true, true, true, true, true, true, true, true, false, false, false, false] rfl rfl (by kernel_rfl) (fun _ _ _ h => h) (Or.inl ⟨by rfl, ?_⟩) ?_ ?_
      rotate_left
      · intro w'
        go_simp
        with_reducible rfl
      rotate_left
      · simp only [Act.put, List.setIfInBounds_toArray, List.set_cons_zero, List.set_cons_succ, i64_w, i32_w]
        rfl
      refine take_ (i := 25) (N := some 115) (v := ?_) (a' := ?_) #[true, true, true, true, true, true, true, true, true, true, true, true, true, true, true, true, true, true, true, true, true, true, true, true, true, true, false, false, false] rfl rfl (by kernel_rfl) (fun _ _ _ h => h) (Or.inl ⟨by rfl, ?_⟩) hHeld ?_ ?_
      rotate_left
      · rintro w' ⟨s0, s1, s2, s3, s4, s5⟩
        go_simp
        with_reducible rfl
      rotate_left
      · simp only [Act.put, List.setIfInBounds_toArray, List.set_cons_zero, List.set_cons_succ, i64_w, i32_w]
        rfl
      refine one_ (i := 26) (N := some 116) #[true, true, true, true, true, true, true, true, true, true, true, true, true, true, true, true, true, true, true, true, true, true, true, true, true, true, true, false, false] rfl rfl (by kernel_rfl) (by decide) (fun K hK => ?_)
      refine goes_ Try.func16 (by kernel_rfl) rfl #[.slice A3 o.f1.length c3, .slice A4 o.f1.length c4] (by rfl) rfl rfl (by simp only [List.map_toArray, List.map_cons, List.map_nil]; rfl) ?_
      with_reducible refine (same_calls wr.drew A3 A4 c3 c4 o.f1.length o.f1 (by have := HLO.out; omega) rfl (Kd.C_below HC.out.1.2 (Below.refl _ _).drew) HC.out.1.1 (Kd.C_below HC.out.2.2 (Below.refl _ _).drew) HC.out.2.1).mono ?_
      rintro e w9 ⟨rfl, hb9⟩
      refine ⟨_, rfl, ?_⟩
      have B9 : Aside0 (Below wr.heap.size wr w9) := ⟨below_step (Below.refl _ _).drew hb9⟩
      clear hb9
      refine hK.out _ _ ⟨(pw_cell_below B9.out ka), (pw_cell_below B9.out kb), (pw_cell_below B9.out ca), (pw_cell_below B9.out cb), (pw_cell_below B9.out da), (pw_cell_below B9.out db)⟩ (fun hHeld => ?_)
      clear hK K
      refine norm_ (a' := ?_) ?_ ?_
      rotate_left
      · show Act.put _ (some 116) _ = _
        simp only [Act.put, List.setIfInBounds_toArray, List.set_cons_zero, List.set_cons_succ, i64_w, i32_w]
        rfl
      refine pure_ (i := 27) (N := some 117) (v := ?_) (a' := ?_) #[true, true, true, true, true, true, true, true, true, true, true, true, true, true, true, true, true, true, true, true, true, true, true, true, true, true, true, true, false] rfl rfl (by kernel_rfl) (fun _ _ _ h => h) (Or.inl ⟨by rfl, ?_⟩) ?_ ?_
      rotate_left
      · intro w'
        go_simp
        with_reducible rfl
      rotate_left
      · simp only [Act.put, List.setIfInBounds_toArray, List.set_cons_zero, List.set_cons_succ, i64_w, i32_w]
        rfl
      refine pure_ (i := 28) (N := some 118) (v := ?_) (a' := ?_) #[true, true, true, true, true, true, true, true, true, true, true, true, true, true, true, true, true, true, true, true, true, true, true, true, true, true, true, true, true] rfl rfl (by kernel_rfl) (fun _ _ _ h => h) (Or.inl ⟨by rfl, ?_⟩) ?_ ?_
      rotate_left
      · intro w'
        go_simp
        with_reducible rfl
      rotate_left
      · simp only [Act.put, List.setIfInBounds_toArray, List.set_cons_zero, List.set_cons_succ, i64_w, i32_w]
        rfl
      refine done_ (by kernel_rfl) ?_
      go_wp2
      go_roundg q
      case measure => omega
      case rel => exact ⟨i + 1, by go_num, ⟨by have := Hi.out; omega⟩, ⟨below_step BB.out B9.out⟩⟩
end Go.Proofs.Ytpjkbokojlpjoaa.Ak
