/- trace.Spans: its closure, which shuts a block's open span. -/
import Derived.Test.YtinjbfgjfmfibaaTr0
namespace Go.Proofs.Ytinjbfgjfmfibaa.Tr
open Go.RowKit Go.Proofs.YtinjbfgjfmfibaaW.PrintWords Go.Proofs.YtinjbfgjfmfibaaW.PrintLast Go.Proofs.YtinjbfgjfmfibaaW.PrintMore Go.Proofs.Ytinjbfgjfmfibaa.Bs Go.Proofs.Ytinjbfgjfmfibaa.Mp
open Go.Proofs.Ytinjbfgjfmfibaa.PTraceSpans
attribute [local go_sem] max2_int min2_int max_two min_two max_three min_three max_four min_four
set_option linter.unusedVariables false
set_option linter.unusedSimpArgs false

theorem cell_oth {w : World} {a b : Addr} (h : a ≠ b) (v : Value) : (w.setCell a v).cell? b = w.cell? b := by simp [World.cell?_setCell_other, h]
def shutAt (xs : List S61) (i : Int) (t : Int) : List S61 := xs.set i.toNat ⟨(rd_T61 xs i).f0, (rd_T61 xs i).f1, (rd_T61 xs i).f2, (rd_T61 xs i).f3, mx t (rd_T61 xs i).f3, false⟩
theorem shut_row {w : World} {base g n cap : Nat} {ok : Nat → Prop} {xs : List S61} (h : Kd.R k61 61 w base ok (.slice (some ⟨g, 0, none⟩) n cap) xs) (i : Int) (h0 : 0 ≤ i) (h1 : i < n) (t : Int) {w2 : World}
    (hw : w2 = (w.setCell ⟨g, i.toNat * 6 + 4, none⟩ (.int .i64 (mx t (rd_T61 xs i).f3))).setCell ⟨g, i.toNat * 6 + 5, none⟩ (.bool false)) :
    Kd.R k61 61 w2 base ok (.slice (some ⟨g, 0, none⟩) n cap) (shutAt xs i t) ∧ Kept w w2 (fun k => k = g) ∧ ∀ B, B ≤ g → Below B w w2 := by
  obtain ⟨c, hcl, hM, hcc, _⟩ := Kd.R_elem h z61 i h0 h1
  obtain rfl := k61_openM hM
  have hn := (Kd.R_reads' h).1
  have H1 := Kd.R_seg h i h0 h1 (seg := [.int .i64 (mx t (rd_T61 xs i).f3)]) (j := 4) hcl hcc (show 5 ≤ 6 from by decide) (x' := (⟨(rd_T61 xs i).f0, (rd_T61 xs i).f1, (rd_T61 xs i).f2, (rd_T61 xs i).f3, mx t (rd_T61 xs i).f3, (rd_T61 xs i).f5⟩ : S61)) (k61_mkM _ _ _ _) (fun _ hk => hk)
  obtain ⟨c2, hcl2, hM2, hcc2, _⟩ := Kd.R_elem H1.1 z61 i h0 h1
  obtain rfl := k61_openM hM2
  have hget : (xs.set i.toNat (⟨(rd_T61 xs i).f0, (rd_T61 xs i).f1, (rd_T61 xs i).f2, (rd_T61 xs i).f3, mx t (rd_T61 xs i).f3, (rd_T61 xs i).f5⟩ : S61)).getD i.toNat z61 = ⟨(rd_T61 xs i).f0, (rd_T61 xs i).f1, (rd_T61 xs i).f2, (rd_T61 xs i).f3, mx t (rd_T61 xs i).f3, (rd_T61 xs i).f5⟩ := by
    rw [List.getD_eq_getElem?_getD, List.getElem?_set_self (by omega)]; rfl
  have H2 := Kd.R_seg H1.1 i h0 h1 (seg := [.bool false]) (j := 5) hcl2 hcc2 (show 6 ≤ 6 from by decide) (x' := (⟨(rd_T61 xs i).f0, (rd_T61 xs i).f1, (rd_T61 xs i).f2, (rd_T61 xs i).f3, mx t (rd_T61 xs i).f3, false⟩ : S61)) (by rw [hget]; exact k61_mkM _ _ _ _) (fun _ hk => hk)
  refine ⟨?_, ?_, fun B hB => ?_⟩
  · rw [hw]
    have h3 := H2.1
    rw [List.set_set] at h3
    exact h3
  · rw [hw]
    have h1 : (fun k => k = g) (⟨g, i.toNat * 6 + 4, none⟩ : Addr).block ∨ w.heap.size ≤ (⟨g, i.toNat * 6 + 4, none⟩ : Addr).block := .inl rfl
    have h2 : (fun k => k = g) (⟨g, i.toNat * 6 + 5, none⟩ : Addr).block ∨ w.heap.size ≤ (⟨g, i.toNat * 6 + 5, none⟩ : Addr).block := .inl rfl
    exact Kept.setCell (S := fun k => k = g) (Kept.setCell (S := fun k => k = g) (Kept.refl w _) h1 _) h2 _
  · rw [hw]
    have h1 : B ≤ (⟨g, i.toNat * 6 + 4, none⟩ : Addr).block := hB
    have h2 : B ≤ (⟨g, i.toNat * 6 + 5, none⟩ : Addr).block := hB
    exact ((Below.refl B w).setCell h1 _).setCell h2 _

/-- The closure's memory: the variables, the map, the row. -/
structure Mem (w : World) (g1 g2 g3 b : Nat) (key : Int × Int) (L : List ((Int × Int) × Value)) (base : Nat) (v : Value) (xs : List S61) : Prop where
  v1 : w.heap[g1]? = some (.cells #[.map (some b)] 62 (0, 0))
  v2 : w.heap[g2]? = some (.cells #[.int .u32 key.1, .int .i64 key.2] 64 (0, 0))
  v3 : w.heap[g3]? = some (.cells #[v] 26 (0, 0))
  map : MapIs KK w b L
  row : Kd.R k61 61 w base (fun _ => True) v xs
theorem load2 {w : World} {g : Nat} {k : Int × Int} (h : w.heap[g]? = some (.cells #[.int .u32 k.1, .int .i64 k.2] 64 (0, 0))) : w.cell? ⟨g, 0, none⟩ = some (.int .u32 k.1) ∧ w.cell? ⟨g, 1, none⟩ = some (.int .i64 k.2) := ⟨blk_cell h 0, blk_cell h 1⟩

set_option maxHeartbeats 2000000 in
set_option maxRecDepth 100000 in
theorem shut_no (w : World) (t : Int) (g1 g2 g3 b : Nat) (key : Int × Int) (L : List ((Int × Int) × Value)) (base : Nat) (v : Value) (xs : List S61) (h : Mem w g1 g2 g3 b key L base v xs) (hk : okK key) (hx : (aget L key).getD (.int .i64 0) = .int .i64 0) :
    Calls Try.prog 37 #[.int .i64 t, .pointer (some ⟨g1, 0, none⟩), .pointer (some ⟨g2, 0, none⟩), .pointer (some ⟨g3, 0, none⟩)] w fun e w' => e = .returned (.tuple #[]) ∧ w = w' := by
  have H := Aside0.mk h
  have HK := Aside0.mk hk
  have HX := Aside0.mk hx
  have c1 : w.cell? ⟨g1, 0, none⟩ = some (.map (some b)) := blk_cell h.v1 0
  have c2 := (load2 h.v2).1
  have c3 := (load2 h.v2).2
  clear h hk hx
  go_enter Try.func37, Try.ntmps37
  go_wp2_with (refine wp_look KK rfl H.out.map (.tmp 6) (.tmp 7) rfl Try.underlying62 (z := .int .i64 0) rfl key HK.out rfl rfl ?_; rw [HX.out])
  first | go_end0 | ((try simp only [Exit.inBlock, Exit.then]); refine bodyPost_ret (results_none rfl _ _ _) rfl ?_)
  exact ⟨rfl, rfl⟩

/-- What the call leaves. -/
structure Left (w w' : World) (g1 g2 g3 b : Nat) (key : Int × Int) (L : List ((Int × Int) × Value)) (base : Nat) (v : Value) (xs : List S61) : Prop where
  mem : Mem w' g1 g2 g3 b key L base v xs
  keep : Kept w w' (fun k => k = b ∨ some k = v.ownBlock)
  below : ∀ B, B ≤ b → B ≤ base → Below B w w'

set_option maxHeartbeats 4000000 in
set_option maxRecDepth 100000 in
theorem shut_yes (w : World) (t : Int) (g1 g2 g3 b : Nat) (key : Int × Int) (L : List ((Int × Int) × Value)) (base : Nat) (v : Value) (xs : List S61) (h : Mem w g1 g2 g3 b key L base v xs) (hk : okK key) (x i : Int) (hx : (aget L key).getD (.int .i64 0) = .int .i64 x) (hi : wrap64 (x - 1) = i) (h0 : 0 ≤ i) (h1 : i < xs.length) :
    Calls Try.prog 37 #[.int .i64 t, .pointer (some ⟨g1, 0, none⟩), .pointer (some ⟨g2, 0, none⟩), .pointer (some ⟨g3, 0, none⟩)] w fun e w' => e = .returned (.tuple #[]) ∧ Left w w' g1 g2 g3 b key (aset L key (.int .i64 0)) base v (shutAt xs i t) := by
  obtain ⟨go, co, rfl, gb, gl, cl, HG⟩ := Kd.R_form h.row (by omega)
  have HF : Aside0 (∀ w2, w2 = (w.drew.setCell ⟨go, i.toNat * 6 + 4, none⟩ (.int .i64 (mx t (rd_T61 xs i).f3))).setCell ⟨go, i.toNat * 6 + 5, none⟩ (.bool false) → Kd.R k61 61 w2 base (fun _ => True) (.slice (some ⟨go, 0, none⟩) xs.length co) (shutAt xs i t) ∧ Kept w.drew w2 (fun k => k = go) ∧ ∀ B, B ≤ go → Below B w.drew w2) := ⟨fun w2 hw => shut_row (w := w.drew) h.row i h0 h1 t hw⟩
  have hne3 : g3 ≠ go := fun he => by subst he; exact absurd rfl (Kd.R_ne h.row h.v3 (by decide))
  have hne2 : g2 ≠ go := fun he => by subst he; exact absurd rfl (Kd.R_ne h.row h.v2 (by decide))
  have hne1 : g1 ≠ go := fun he => by subst he; exact absurd rfl (Kd.R_ne h.row h.v1 (by decide))
  obtain ⟨ce, hcl, hM, hcc, hfr⟩ := Kd.R_elem h.row z61 i h0 h1
  obtain rfl := k61_openM hM
  have he3 : w.cell? ⟨go, i.toNat * 6 + 3, none⟩ = some (.int .i64 (rd_T61 xs i).f3) := hcc 3 _ rfl
  have he4 : w.cell? ⟨go, i.toNat * 6 + 4, none⟩ = some (.int .i64 (rd_T61 xs i).f4) := hcc 4 _ rfl
  have he5 : w.cell? ⟨go, i.toNat * 6 + 5, none⟩ = some (.bool (rd_T61 xs i).f5) := hcc 5 _ rfl
  have hf4 : w.frozen? ⟨go, i.toNat * 6 + 4, none⟩ = false := hfr 4
  have hf5 : w.frozen? ⟨go, i.toNat * 6 + 5, none⟩ = false := hfr 5
  have H := Aside0.mk h
  have HK := Aside0.mk hk
  have HX := Aside0.mk hx
  have HI := Aside0.mk hi
  have hc1 : w.cell? ⟨g1, 0, none⟩ = some (.map (some b)) := blk_cell h.v1 0
  have hc2 := (load2 h.v2).1
  have hc4 := (load2 h.v2).2
  have hc3 : w.cell? ⟨g3, 0, none⟩ = some (.slice (some ⟨go, 0, none⟩) xs.length co) := blk_cell h.v3 0
  have HNA : Aside0 ((⟨go, i.toNat * 6 + 4, none⟩ : Addr) ≠ ⟨g3, 0, none⟩ ∧ (⟨go, i.toNat * 6 + 4, none⟩ : Addr) ≠ ⟨go, i.toNat * 6 + 3, none⟩) := ⟨fun he => hne3 (congrArg Addr.block he).symm, fun he => by have := congrArg Addr.off he; simp at this⟩
  have HN := Aside0.mk (And.intro hne1 (And.intro hne2 hne3))
  have HGG := Aside0.mk (And.intro gb HG)
  have p0 : decide (0 ≤ i) = true := decide_eq_true h0
  have p1 : decide (i < (xs.length : Int)) = true := decide_eq_true h1
  clear h hk hx hi hM hcc hcl hfr gb HG hne1 hne2 hne3
  go_enter Try.func37, Try.ntmps37
  go_upto_region 2 with (refine wp_look KK rfl H.out.map (.tmp 6) (.tmp 7) rfl Try.underlying62 (z := .int .i64 0) rfl key HK.out rfl rfl ?_; rw [HX.out])
  · rw [HI.out]
    refine start_ (n := 17) (S := fun w' => w'.cell? ⟨g3, 0, none⟩ = some (.slice (some ⟨go, 0, none⟩) xs.length co) ∧ w'.cell? ⟨go, i.toNat * 6 + 3, none⟩ = some (.int .i64 (rd_T61 xs i).f3)) (ds := [16]) #[false, false, false, false, false, false, false, false, false, false, false, false, false, false, false, false, false] (by kernel_rfl) rfl rfl ⟨hc3, he3⟩ (fun hHeld => ?_)
    refine pure_ (i := 1) (N := some 13) (v := ?_) (a' := ?_) #[false, true, false, false, false, false, false, false, false, false, false, false, false, false, false, false, false] rfl rfl (by kernel_rfl) (fun _ _ _ h => h) (Or.inl ⟨by rfl, ?_⟩) ?_ ?_
    rotate_left
    · intro w'
      go_simp
      with_reducible rfl
    rotate_left
    · simp only [Act.put, List.setIfInBounds_toArray, List.set_cons_zero, List.set_cons_succ, i64_w, i32_w]
      rfl
    refine pure_ (i := 3) (N := some 15) (v := ?_) (a' := ?_) #[false, true, false, true, false, false, false, false, false, false, false, false, false, false, false, false, false] rfl rfl (by kernel_rfl) (fun _ _ _ h => h) (Or.inl ⟨by rfl, ?_⟩) ?_ ?_
    rotate_left
    · intro w'
      go_simp
      with_reducible rfl
    rotate_left
    · simp only [Act.put, List.setIfInBounds_toArray, List.set_cons_zero, List.set_cons_succ, i64_w, i32_w]
      rfl
    refine pure_ (i := 4) (N := some 16) (v := ?_) (a' := ?_) #[false, true, false, true, true, false, false, false, false, false, false, false, false, false, false, false, false] rfl rfl (by kernel_rfl) (fun _ _ _ h => h) (Or.inl ⟨by rfl, ?_⟩) ?_ ?_
    rotate_left
    · intro w'
      go_simp
      with_reducible rfl
    rotate_left
    · simp only [Act.put, List.setIfInBounds_toArray, List.set_cons_zero, List.set_cons_succ, i64_w, i32_w]
      rfl
    refine pure_ (i := 6) (N := some 18) (v := ?_) (a' := ?_) #[false, true, false, true, true, false, true, false, false, false, false, false, false, false, false, false, false] rfl rfl (by kernel_rfl) (fun _ _ _ h => h) (Or.inl ⟨by rfl, ?_⟩) ?_ ?_
    rotate_left
    · intro w'
      go_simp
      with_reducible rfl
    rotate_left
    · simp only [Act.put, List.setIfInBounds_toArray, List.set_cons_zero, List.set_cons_succ, i64_w, i32_w]
      rfl
    refine take_ (i := 0) (N := some 12) (v := ?_) (a' := ?_) #[true, true, false, true, true, false, true, false, false, false, false, false, false, false, false, false, false] rfl rfl (by kernel_rfl) (fun _ _ _ h => h) (Or.inl ⟨by rfl, ?_⟩) hHeld ?_ ?_
    rotate_left
    · rintro w' ⟨s0, s1⟩
      go_simp
      with_reducible rfl
    rotate_left
    · simp only [Act.put, List.setIfInBounds_toArray, List.set_cons_zero, List.set_cons_succ, i64_w, i32_w]
      rfl
    refine take_ (i := 2) (N := some 14) (v := ?_) (a' := ?_) #[true, true, true, true, true, false, true, false, false, false, false, false, false, false, false, false, false] rfl rfl (by kernel_rfl) (fun _ _ _ h => h) (Or.inl ⟨by rfl, ?_⟩) hHeld ?_ ?_
    rotate_left
    · rintro w' ⟨s0, s1⟩
      go_simp
      with_reducible rfl
    rotate_left
    · simp only [Act.put, List.setIfInBounds_toArray, List.set_cons_zero, List.set_cons_succ, i64_w, i32_w]
      rfl
    refine take_ (i := 5) (N := some 17) (v := ?_) (a' := ?_) #[true, true, true, true, true, true, true, false, false, false, false, false, false, false, false, false, false] rfl rfl (by kernel_rfl) (fun _ _ _ h => h) (Or.inl ⟨by rfl, ?_⟩) hHeld ?_ ?_
    rotate_left
    · rintro w' ⟨s0, s1⟩
      go_simp
      with_reducible rfl
    rotate_left
    · simp only [Act.put, List.setIfInBounds_toArray, List.set_cons_zero, List.set_cons_succ, i64_w, i32_w]
      rfl
    refine pure_ (i := 7) (N := some 19) (v := ?_) (a' := ?_) #[true, true, true, true, true, true, true, true, false, false, false, false, false, false, false, false, false] rfl rfl (by kernel_rfl) (fun _ _ _ h => h) (Or.inl ⟨by rfl, ?_⟩) ?_ ?_
    rotate_left
    · intro w'
      go_simp
      with_reducible rfl
    rotate_left
    · simp only [Act.put, List.setIfInBounds_toArray, List.set_cons_zero, List.set_cons_succ, i64_w, i32_w]
      rfl
    refine pure_ (i := 8) (N := some 20) (v := ?_) (a' := ?_) #[true, true, true, true, true, true, true, true, true, false, false, false, false, false, false, false, false] rfl rfl (by kernel_rfl) (fun _ _ _ h => h) (Or.inl ⟨by rfl, ?_⟩) ?_ ?_
    rotate_left
    · intro w'
      go_simp
      with_reducible rfl
    rotate_left
    · simp only [Act.put, List.setIfInBounds_toArray, List.set_cons_zero, List.set_cons_succ, i64_w, i32_w]
      rfl
    refine take_ (i := 9) (N := some 21) (v := ?_) (a' := ?_) #[true, true, true, true, true, true, true, true, true, true, false, false, false, false, false, false, false] rfl rfl (by kernel_rfl) (fun _ _ _ h => h) (Or.inl ⟨by rfl, ?_⟩) hHeld ?_ ?_
    rotate_left
    · rintro w' ⟨s0, s1⟩
      go_simp
      with_reducible rfl
    rotate_left
    · simp only [Act.put, List.setIfInBounds_toArray, List.set_cons_zero, List.set_cons_succ, i64_w, i32_w]
      rfl
    refine pure_ (i := 10) (N := some 22) (v := ?_) (a' := ?_) #[true, true, true, true, true, true, true, true, true, true, true, false, false, false, false, false, false] rfl rfl (by kernel_rfl) (fun _ _ _ h => h) (Or.inl ⟨by rfl, ?_⟩) ?_ ?_
    rotate_left
    · intro w'
      go_simp
      with_reducible rfl
    rotate_left
    · simp only [Act.put, List.setIfInBounds_toArray, List.set_cons_zero, List.set_cons_succ, i64_w, i32_w]
      rfl
    refine pure_ (i := 11) (N := some 23) (v := ?_) (a' := ?_) #[true, true, true, true, true, true, true, true, true, true, true, true, false, false, false, false, false] rfl rfl (by kernel_rfl) (fun _ _ _ h => h) (Or.inl ⟨by rfl, ?_⟩) ?_ ?_
    rotate_left
    · intro w'
      go_simp
      with_reducible rfl
    rotate_left
    · simp only [Act.put, List.setIfInBounds_toArray, List.set_cons_zero, List.set_cons_succ, i64_w, i32_w]
      rfl
    refine pure_ (i := 12) (N := some 24) (v := ?_) (a' := ?_) #[true, true, true, true, true, true, true, true, true, true, true, true, true, false, false, false, false] rfl rfl (by kernel_rfl) (fun _ _ _ h => h) (Or.inl ⟨by rfl, ?_⟩) ?_ ?_
    rotate_left
    · intro w'
      go_simp
      with_reducible rfl
    rotate_left
    · simp only [Act.put, List.setIfInBounds_toArray, List.set_cons_zero, List.set_cons_succ, i64_w, i32_w]
      rfl
    refine one_ (i := 13) (N := none) #[true, true, true, true, true, true, true, true, true, true, true, true, true, true, false, false, false] rfl rfl (by kernel_rfl) (by decide) (fun K hK => ?_)
    refine skip_ (w1 := w.drew.setCell ⟨go, i.toNat * 6 + 4, none⟩ (.int .i64 (mx t (rd_T61 xs i).f3))) (by rfl) rfl ?_ ?_
    · go_simp
      rfl
    refine hK.out _ _ ⟨((cell_oth HNA.out.1 _).trans hc3), ((cell_oth HNA.out.2 _).trans he3)⟩ (fun hHeld => ?_)
    clear hK K
    refine pure_ (i := 14) (N := some 25) (v := ?_) (a' := ?_) #[true, true, true, true, true, true, true, true, true, true, true, true, true, true, true, false, false] rfl rfl (by kernel_rfl) (fun _ _ _ h => h) (Or.inl ⟨by rfl, ?_⟩) ?_ ?_
    rotate_left
    · intro w'
      go_simp
      with_reducible rfl
    rotate_left
    · simp only [Act.put, List.setIfInBounds_toArray, List.set_cons_zero, List.set_cons_succ, i64_w, i32_w]
      rfl
    refine pure_ (i := 15) (N := some 26) (v := ?_) (a' := ?_) #[true, true, true, true, true, true, true, true, true, true, true, true, true, true, true, true, false] rfl rfl (by kernel_rfl) (fun _ _ _ h => h) (Or.inl ⟨by rfl, ?_⟩) ?_ ?_
    rotate_left
    · intro w'
      go_simp
      with_reducible rfl
    rotate_left
    · simp only [Act.put, List.setIfInBounds_toArray, List.set_cons_zero, List.set_cons_succ, i64_w, i32_w]
      rfl
    refine last_ (i := 16) (N := none) #[true, true, true, true, true, true, true, true, true, true, true, true, true, true, true, true, true] rfl rfl (by kernel_rfl) (by decide) (fun K hK => ?_)
    refine skip_ (w1 := (w.drew.setCell ⟨go, i.toNat * 6 + 4, none⟩ (.int .i64 (mx t (rd_T61 xs i).f3))).setCell ⟨go, i.toNat * 6 + 5, none⟩ (.bool false)) (by rfl) rfl ?_ ?_
    · first | (go_simp; done) | (go_simp; rfl)
    refine hK.out _ _ ?_
    clear hK K
    refine done_ (by kernel_rfl) ?_
    clear hc1 hc2 hc3 hc4 he3 he4 he5 hf4 hf5 HNA hHeld
    generalize hw2 : (w.drew.setCell ⟨go, i.toNat * 6 + 4, none⟩ (.int .i64 (mx t (rd_T61 xs i).f3))).setCell ⟨go, i.toNat * 6 + 5, none⟩ (.bool false) = w2
    have H2 := Aside0.mk (HF.out w2 hw2.symm)
    clear HF hw2
    have d1 : w2.heap[g1]? = some (.cells #[.map (some b)] 62 (0, 0)) := blk_kept (W := w.drew) H.out.v1 H2.out.2.1 HN.out.1
    have d2 : w2.heap[g2]? = some (.cells #[.int .u32 key.1, .int .i64 key.2] 64 (0, 0)) := blk_kept (W := w.drew) H.out.v2 H2.out.2.1 HN.out.2.1
    have d3 : w2.heap[g3]? = some (.cells #[.slice (some ⟨go, 0, none⟩) xs.length co] 26 (0, 0)) := blk_kept (W := w.drew) H.out.v3 H2.out.2.1 HN.out.2.2
    have hbg : b ≠ go := fun he => by
      obtain ⟨es, cl', hb, _⟩ := H.out.map
      rw [he, HGG.out.2] at hb; cases hb
    have HM2 : Aside0 (MapIs KK w2 b L) := ⟨(MapIs.drew H.out.map).kept H2.out.2.1 hbg⟩
    have e1 := blk_cell d1 0
    have e2 := (load2 d2).1
    have e4 := (load2 d2).2
    have D := Aside0.mk (And.intro d1 (And.intro d2 d3))
    have HBG := Aside0.mk hbg
    clear d1 d2 d3 hbg
    go_wp2_with (refine wp_store KK rfl HM2.out (.tmp 27) (.tmp 28) (.const (.int .i64 0)) rfl Try.underlying62 key HK.out (.int .i64 0) rfl rfl rfl ?_; intro w3 hm3 hg3)
    all_goals
      first | go_end0 | ((try simp only [Exit.inBlock, Exit.then]); refine bodyPost_ret (results_none rfl _ _ _) rfl ?_)
      have hb1 : ∀ (g : Nat) cs ty fr, w2.heap[g]? = some (.cells cs ty fr) → some g ≠ some b := fun g cs ty fr h he => by
        obtain ⟨es, cl', hb, _⟩ := HM2.out
        rw [Option.some.inj he, hb] at h; cases h
      refine ⟨rfl, ⟨⟨blk_grown D.out.1 hg3 (hb1 _ _ _ _ D.out.1), blk_grown D.out.2.1 hg3 (hb1 _ _ _ _ D.out.2.1), blk_grown D.out.2.2 hg3 (hb1 _ _ _ _ D.out.2.2), hm3, ?_⟩, ?_, ?_⟩⟩
      · refine Kd.R_grown1 H2.out.1 rfl hg3 ?_
        show some b ≠ some go
        exact fun he => HBG.out (Option.some.inj he)
      · refine Kept.of_grown (S := fun k => k = b ∨ some k = some go) hg3 ?_ (fun k hk => .inl (.inl (Option.some.inj hk).symm))
        exact (H2.out.2.1 : Kept w w2 _).mono (fun k hk => .inr (by rw [hk]))
      · intro B hB hB2
        have hx := HGG.out.1
        have h4 := H2.out.2.2 B (by omega)
        have h5 : Below B w w2 := ((Below.refl B w).drew).trans h4
        exact h5.grown hg3 (by have := HM2.out.lt; omega) (fun k hk => by rw [← Option.some.inj hk]; exact hB)
  · rename_i hlt
    rw [HI.out] at hlt
    omega
end Go.Proofs.Ytinjbfgjfmfibaa.Tr
