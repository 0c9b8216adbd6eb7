/- The methods of entry's writer: what each puts behind the bytes that are there. -/
import Derived.Test.YtinjbfgjfmfibaaPEntryEncodesx0
namespace Go.Proofs.Ytinjbfgjfmfibaa.Enc
open Go.RowKit Go.Proofs.YtinjbfgjfmfibaaW.PrintWords Go.Proofs.YtinjbfgjfmfibaaW.PrintLast Go.Proofs.YtinjbfgjfmfibaaW.PrintMore
set_option linter.unusedVariables false
set_option linter.unusedSimpArgs false

theorem info5 : (Try.prog.info? 5).map (fun i => (i.zero, i.size, i.bytes)) = some (some (.int .u8 0), 1, 1) := by kernel_rfl

/-- A writer at block g: its entry, and its bytes in a row of the call's own. -/
def IsWr (w : World) (base g : Nat) (ok : Nat → Prop) (k t s a b : Int) (bs : List Int) : Prop :=
  ∃ v, w.heap[g]? = some (.cells #[.int .i64 k, .int .i64 t, .int .u32 s, .int .u32 a, .int .i64 b, v] 72 (0, 0)) ∧ Kd.R (Kd.int .u8) 5 w base ok v bs

/-- The n lowest bytes of x, the highest first. -/
def lays (x : Int) : Nat → List Int
  | 0 => []
  | n + 1 => (x / 2 ^ (8 * n)) % 256 :: lays x n
theorem lays_length (x : Int) (n : Nat) : (lays x n).length = n := by
  induction n with
  | zero => rfl
  | succ n ih => simp [lays, ih]
theorem cell_alloc_old {w : World} {a : Addr} {v : Value} (h : w.cell? a = some v) (o : Obj) : (w.alloc o).cell? a = some v :=
  pw_cell_below ((Below.refl _ _).alloc (Nat.le_refl _) _) h

set_option maxHeartbeats 1000000 in
set_option maxRecDepth 100000 in
theorem lay_calls (g n : Nat) (k t s a b x : Int) (bs : List Int) (P0 : Nat → Prop) (w0 w : World) (hB : Below w0.heap.size w0 w) (hn : n ≤ 8) (hg0 : w0.heap.size ≤ g) (hl : bs.length ≤ 1000)
    (h : IsWr w w0.heap.size g P0 k t s a b bs) :
    Calls Try.prog 69 #[.pointer (some ⟨g, 0, none⟩), .int .i64 n, .int .u64 x] w fun e w' => e = .returned (.tuple #[]) ∧ IsWr w' w0.heap.size g (fun k_ => P0 k_ ∨ w.heap.size ≤ k_) k t s a b (bs ++ lays x n) ∧ Below w0.heap.size w0 w' ∧ Kept w w' (fun k_ => k_ = g ∨ P0 k_) := by
  have hgw : g < w.heap.size := by obtain ⟨v, hv, _⟩ := h; exact blk_lt hv
  have HS : Aside0 (IsWr w w0.heap.size g (fun k_ => P0 k_ ∨ w.heap.size ≤ k_) k t s a b bs) := ⟨by obtain ⟨v, hv, hr⟩ := h; exact ⟨v, hv, Kd.R_mono hr (fun _ hk => .inl hk)⟩⟩
  clear h
  have HB := Aside0.mk hB
  clear hB
  have HK := Aside0.mk (Kept.refl w (fun k_ => k_ = g ∨ P0 k_))
  go_enter Try.func69, Try.ntmps69
  go_wp2
  go_loopg [6] n (fun q v6 w' => ∃ (i : Int) (bs1 : List Int), v6 = .int .i64 i ∧ Aside0 (i = 8 * (q : Int) - 8) ∧ Aside0 (q ≤ n) ∧ Aside0 (bs1 ++ lays x q = bs ++ lays x n) ∧ Aside0 (IsWr w' w0.heap.size g (fun k_ => P0 k_ ∨ w.heap.size ≤ k_) k t s a b bs1) ∧ Aside0 (Below w0.heap.size w0 w') ∧ Aside0 (Kept w w' (fun k_ => k_ = g ∨ P0 k_)))
  case atStart => exact ⟨_, bs, rfl, ⟨by omega⟩, ⟨Nat.le_refl _⟩, ⟨rfl⟩, HS, HB, HK⟩
  case round =>
    clear HS HB HK
    obtain ⟨i, bs1, rfl, Hi, Hq, Hbs, HS, HB, HK⟩ := hrel
    cases gk with
    | zero =>
      have hi : ¬ (0 ≤ i) := by have := Hi.out; omega
      have hib : decide (0 ≤ i) = false := decide_eq_false hi
      clear hi
      go_wp2
      go_end0
      refine ⟨rfl, ?_, HB.out, HK.out⟩
      have hb := Hbs.out
      simp only [lays, List.append_nil] at hb
      rw [← hb]; exact HS.out
    | succ q =>
      have hi0 : 0 ≤ i := by have := Hi.out; omega
      have hi1 : i ≤ 56 := by have := Hi.out; have := Hq.out; omega
      have hib : decide (0 ≤ i) = true := decide_eq_true hi0
      obtain ⟨v, hblk, hrow⟩ := HS.out
      have hcd : wr.drew.cell? ⟨g, 5, none⟩ = some v := blk_cell hblk 5
      have HBK := Aside0.mk hblk
      have HR := Aside0.mk hrow
      clear hblk hrow HS
      have HLN : Aside0 ((bs1.length + 1) * 1 ≤ 140737488355328) := ⟨by
        have h1 := congrArg List.length Hbs.out
        simp only [List.length_append, lays_length] at h1
        have := Hq.out; omega⟩
      obtain ⟨y, hy⟩ : ∃ y : Int, x / 2 ^ min i.toNat 64 = y := ⟨_, rfl⟩
      have hy2 : x / 2 ^ i.toNat = y := by rw [← hy, Nat.min_eq_left (by omega)]
      have HY : Aside0 (y = x / 2 ^ (8 * q)) := ⟨by rw [← hy2]; congr 2; have := Hi.out; omega⟩
      clear hl
      have HKd : Aside0 (Kept w wr.drew (fun k_ => k_ = g ∨ P0 k_)) := ⟨HK.out⟩
      have HBd : Aside0 (Below w0.heap.size w0 wr.drew) := ⟨HB.out.drew⟩
      have HRd : Aside0 (Kd.R (Kd.int .u8) 5 wr.drew w0.heap.size (fun k_ => P0 k_ ∨ w.heap.size ≤ k_) v bs1) := ⟨Kd.R_drew HR.out⟩
      have HBKd : Aside0 (wr.drew.heap[g]? = some (.cells #[.int .i64 k, .int .i64 t, .int .u32 s, .int .u32 a, .int .i64 b, v] 72 (0, 0))) := ⟨HBK.out⟩
      clear HK HB HR HBK
      go_wp2
      refine start_ (n := 14) (S := fun w' => w'.cell? ⟨g, 5, none⟩ = some v) (ds := [13]) #[false, false, false, false, false, false, false, false, false, false, false, false, false, false] (by kernel_rfl) rfl rfl (hcd) (fun hHeld => ?_)
      clear hHeld
      generalize wr.drew = wd at *
      have hHeld := hcd
      refine pure_ (i := 0) (N := some 14) (v := ?_) (a' := ?_) #[true, false, false, false, false, false, false, false, false, false, false, false, false, false] rfl rfl (by kernel_rfl) (fun _ _ _ h => h) (Or.inl ⟨by rfl, ?_⟩) ?_ ?_
      rotate_left
      · intro w'
        go_simp
        with_reducible rfl
      rotate_left
      · simp only [Act.put, List.setIfInBounds_toArray, List.set_cons_zero, List.set_cons_succ, i64_w, i32_w]
        rfl
      refine pure_ (i := 1) (N := some 15) (v := ?_) (a' := ?_) #[true, true, false, false, false, false, false, false, false, false, false, false, false, false] rfl rfl (by kernel_rfl) (fun _ _ _ h => h) (Or.inl ⟨by rfl, ?_⟩) ?_ ?_
      rotate_left
      · intro w'
        go_simp
        with_reducible rfl
      rotate_left
      · simp only [Act.put, List.setIfInBounds_toArray, List.set_cons_zero, List.set_cons_succ, i64_w, i32_w]
        rfl
      refine pure_ (i := 2) (N := some 16) (v := ?_) (a' := ?_) #[true, true, true, false, false, false, false, false, false, false, false, false, false, false] rfl rfl (by kernel_rfl) (fun _ _ _ h => h) (Or.inl ⟨by rfl, ?_⟩) ?_ ?_
      rotate_left
      · intro w'
        go_simp
        with_reducible rfl
      rotate_left
      · simp only [Act.put, List.setIfInBounds_toArray, List.set_cons_zero, List.set_cons_succ, i64_w, i32_w]
        rfl
      refine pure_ (i := 3) (N := some 17) (v := ?_) (a' := ?_) #[true, true, true, true, false, false, false, false, false, false, false, false, false, false] rfl rfl (by kernel_rfl) (fun _ _ _ h => h) (Or.inl ⟨by rfl, ?_⟩) ?_ ?_
      rotate_left
      · intro w'
        go_simp
        with_reducible rfl
      rotate_left
      · simp only [Act.put, List.setIfInBounds_toArray, List.set_cons_zero, List.set_cons_succ, i64_w, i32_w]
        rfl
      refine pure_ (i := 5) (N := some 19) (v := ?_) (a' := ?_) #[true, true, true, true, false, true, false, false, false, false, false, false, false, false] rfl rfl (by kernel_rfl) (fun _ _ _ h => h) (Or.inl ⟨by rfl, ?_⟩) ?_ ?_
      rotate_left
      · intro w'
        go_simp
        with_reducible rfl
      rotate_left
      · simp only [Act.put, List.setIfInBounds_toArray, List.set_cons_zero, List.set_cons_succ, i64_w, i32_w]
        rfl
      refine pure_ (i := 6) (N := some 20) (v := ?_) (a' := ?_) #[true, true, true, true, false, true, true, false, false, false, false, false, false, false] rfl rfl (by kernel_rfl) (fun _ _ _ h => h) (Or.inl ⟨by rfl, ?_⟩) ?_ ?_
      rotate_left
      · intro w'
        go_simp
        with_reducible rfl
      rotate_left
      · simp only [Act.put, List.setIfInBounds_toArray, List.set_cons_zero, List.set_cons_succ, i64_w, i32_w]
        rfl
      refine pure_ (i := 7) (N := some 21) (v := ?_) (a' := ?_) #[true, true, true, true, false, true, true, true, false, false, false, false, false, false] rfl rfl (by kernel_rfl) (fun _ _ _ h => h) (Or.inl ⟨by rfl, ?_⟩) ?_ ?_
      rotate_left
      · intro w'
        go_simp
        with_reducible rfl
      rotate_left
      · simp only [Act.put, List.setIfInBounds_toArray, List.set_cons_zero, List.set_cons_succ, i64_w, i32_w]
        rfl
      refine pure_ (i := 8) (N := some 22) (v := ?_) (a' := ?_) #[true, true, true, true, false, true, true, true, true, false, false, false, false, false] rfl rfl (by kernel_rfl) (fun _ _ _ h => h) (Or.inl ⟨by rfl, ?_⟩) ?_ ?_
      rotate_left
      · intro w'
        go_simp
        with_reducible rfl
      rotate_left
      · simp only [Act.put, List.setIfInBounds_toArray, List.set_cons_zero, List.set_cons_succ, i64_w, i32_w]
        rfl
      refine take_ (i := 4) (N := some 18) (v := ?_) (a' := ?_) #[true, true, true, true, true, true, true, true, true, false, false, false, false, false] rfl rfl (by kernel_rfl) (fun _ _ _ h => h) (Or.inl ⟨by rfl, ?_⟩) hHeld ?_ ?_
      rotate_left
      · intro w' s0
        go_simp
        with_reducible rfl
      rotate_left
      · simp only [Act.put, List.setIfInBounds_toArray, List.set_cons_zero, List.set_cons_succ, i64_w, i32_w]
        rfl
      refine one_ (i := 9) (N := some 23) #[true, true, true, true, true, true, true, true, true, true, false, false, false, false] rfl rfl (by kernel_rfl) (by decide) (fun K hK => ?_)
      refine value_ (w1 := ?_) (v := ?_) (by rfl) rfl ?_ ?_
      rotate_left 2
      · go_simp
        constructor
        · rfl
        · rfl
      refine hK.out _ _ (cell_alloc_old hcd _) (fun hHeld => ?_)
      clear hK K
      refine norm_ (a' := ?_) ?_ ?_
      rotate_left
      · show Act.put _ (some 23) _ = _
        simp only [Act.put, List.setIfInBounds_toArray, List.set_cons_zero, List.set_cons_succ, i64_w, i32_w]
        rfl
      refine one_ (i := 10) (N := some 24) #[true, true, true, true, true, true, true, true, true, true, true, false, false, false] rfl rfl (by kernel_rfl) (by decide) (fun K hK => ?_)
      refine Kd.R_append_step (Kd.int .u8) (w0 := w0) w0.heap.size (by rfl) (.tmp 18) (.tmp 23) 28 5 (.int .u8 0) 1 rfl Try.underlying28 info5 rfl (by decide) (by omega) v bs1 (IntKind.u8.wrap y) [.int .u8 (IntKind.u8.wrap y)] (fun k_ => P0 k_ ∨ w.heap.size ≤ k_) (fun _ => False) rfl rfl rfl (fun _ hk => hk.elim) (fun k_ hk => .inr (Nat.le_trans HKd.out.1 hk)) HRd.out HBd.out HBd.out.size HLN.out ?_
      intro v1 w1 hr1 hb1 hg1 hat1
      have hblk1 : w1.heap[g]? = some (.cells #[.int .i64 k, .int .i64 t, .int .u32 s, .int .u32 a, .int .i64 b, v] 72 (0, 0)) := blk_grown HBKd.out hg1 (Kd.R_ne HRd.out HBKd.out (by decide))
      obtain ⟨A1, c1, rfl⟩ := Kd.R_slice hr1
      have hf1 : w1.frozen? ⟨g, 5, none⟩ = false := blk_frozen hblk1 5
      have HR1 := Aside0.mk hr1
      have HB1 := Aside0.mk hb1
      have HG1 := Aside0.mk hg1
      have HBK1 := Aside0.mk hblk1
      have hcell1 : w1.cell? ⟨g, 5, none⟩ = some v := blk_cell hblk1 5
      clear hr1 hb1 hg1 hat1 hblk1
      refine hK.out _ _ (hcell1) (fun hHeld => ?_)
      clear hK K
      refine norm_ (a' := ?_) ?_ ?_
      rotate_left
      · show Act.put _ (some 24) _ = _
        simp only [Act.put, List.setIfInBounds_toArray, List.set_cons_zero, List.set_cons_succ, i64_w, i32_w]
        rfl
      refine pure_ (i := 11) (N := some 25) (v := ?_) (a' := ?_) #[true, true, true, true, true, true, true, true, true, true, true, true, false, false] rfl rfl (by kernel_rfl) (fun _ _ _ h => h) (Or.inl ⟨by rfl, ?_⟩) ?_ ?_
      rotate_left
      · intro w'
        go_simp
        with_reducible rfl
      rotate_left
      · simp only [Act.put, List.setIfInBounds_toArray, List.set_cons_zero, List.set_cons_succ, i64_w, i32_w]
        rfl
      refine pure_ (i := 12) (N := some 26) (v := ?_) (a' := ?_) #[true, true, true, true, true, true, true, true, true, true, true, true, true, false] rfl rfl (by kernel_rfl) (fun _ _ _ h => h) (Or.inl ⟨by rfl, ?_⟩) ?_ ?_
      rotate_left
      · intro w'
        go_simp
        with_reducible rfl
      rotate_left
      · simp only [Act.put, List.setIfInBounds_toArray, List.set_cons_zero, List.set_cons_succ, i64_w, i32_w]
        rfl
      refine last_ (i := 13) (N := none) #[true, true, true, true, true, true, true, true, true, true, true, true, true, true] rfl rfl (by kernel_rfl) (by decide) (fun K hK => ?_)
      refine skip_ (w1 := ?_) (by rfl) rfl ?_ ?_
      rotate_left
      · go_simp
        rfl
      refine hK.out _ _ ?_
      clear hK K
      refine done_ (by kernel_rfl) ?_
      go_wp2
      have hlen : (bs1 ++ [IntKind.u8.wrap y]).length = bs1.length + 1 := by simp
      have hres : IsWr (w1.setCell ⟨g, 5, none⟩ (.slice A1 (bs1.length + 1) c1)) w0.heap.size g (fun k_ => P0 k_ ∨ w.heap.size ≤ k_) k t s a b (bs1 ++ [IntKind.u8.wrap y]) := by
        refine ⟨.slice A1 (bs1.length + 1) c1, blk_set HBK1.out 5 _, ?_⟩
        have h1 := Kd.R_set HR1.out HBK1.out (by intro q hq; simp at hq; rcases hq with rfl | hq; decide; exact absurd hq (by simp [Kd.int, Kd.scalar])) 5 (.slice A1 (bs1.length + 1) c1)
        rw [hlen] at h1; exact h1
      have hkept : Kept w (w1.setCell ⟨g, 5, none⟩ (.slice A1 (bs1.length + 1) c1)) (fun k_ => k_ = g ∨ P0 k_) := by
        refine Kept.setCell (Kept.of_grown HG1.out HKd.out (fun k_ hk => ?_)) (.inl (.inl rfl)) _
        rcases HRd.out.1 k_ hk with hk | hk
        · exact .inl (.inr hk)
        · exact .inr hk
      have hbel : Below w0.heap.size w0 (w1.setCell ⟨g, 5, none⟩ (.slice A1 (bs1.length + 1) c1)) := HB1.out.setCell hg0 _
      have hbs : (bs1 ++ [IntKind.u8.wrap y]) ++ lays x q = bs ++ lays x n := by
        rw [← Hbs.out, lays, HY.out, List.append_assoc]; rfl
      have F1 := Aside0.mk hres
      have F2 := Aside0.mk hkept
      have F3 := Aside0.mk hbel
      have F4 := Aside0.mk hbs
      clear hres hkept hbel hbs hlen
      go_roundg q
      case measure => omega
      case rel => exact ⟨i - 8, _, rfl, ⟨by have := Hi.out; omega⟩, ⟨by have := Hq.out; omega⟩, F4, F1, F3, F2⟩

set_option maxHeartbeats 1000000 in
set_option maxRecDepth 100000 in
theorem kind_calls (g : Nat) (k t s a b : Int) (bs : List Int) (P0 : Nat → Prop) (w0 w : World) (hB : Below w0.heap.size w0 w) (hg0 : w0.heap.size ≤ g) (hl : bs.length ≤ 1000) (h : IsWr w w0.heap.size g P0 k t s a b bs) :
    Calls Try.prog 55 #[.pointer (some ⟨g, 0, none⟩)] w fun e w' => e = .returned (.tuple #[]) ∧ IsWr w' w0.heap.size g (fun k_ => P0 k_ ∨ w.heap.size ≤ k_) k t s a b (bs ++ lays (IntKind.u64.wrap k) 1) ∧ Below w0.heap.size w0 w' ∧ Kept w w' (fun k_ => k_ = g ∨ P0 k_) := by
  have hc : w.cell? ⟨g, 0, none⟩ = some (.int .i64 k) := by obtain ⟨v, hv, _⟩ := h; exact blk_cell hv 0
  have HS := Aside0.mk h
  have HB := Aside0.mk hB
  clear h hB
  go_enter Try.func55, Try.ntmps55
  go_wp2_with (go_at_call 69; refine (lay_calls g 1 k t s a b _ bs P0 w0 _ HB.out (by omega) hg0 hl HS.out).mono ?_; rintro e w' ⟨rfl, h1, h2, h3⟩; have F1 := Aside0.mk h1; have F2 := Aside0.mk h2; have F3 := Aside0.mk h3; clear h1 h2 h3)
  go_end0
  exact ⟨rfl, F1.out, F2.out, F3.out⟩

set_option maxHeartbeats 1000000 in
set_option maxRecDepth 100000 in
theorem time_calls (g : Nat) (k t s a b : Int) (bs : List Int) (P0 : Nat → Prop) (w0 w : World) (hB : Below w0.heap.size w0 w) (hg0 : w0.heap.size ≤ g) (hl : bs.length ≤ 1000) (h : IsWr w w0.heap.size g P0 k t s a b bs) :
    Calls Try.prog 56 #[.pointer (some ⟨g, 0, none⟩)] w fun e w' => e = .returned (.tuple #[]) ∧ IsWr w' w0.heap.size g (fun k_ => P0 k_ ∨ w.heap.size ≤ k_) k t s a b (bs ++ lays (IntKind.u64.wrap t) 8) ∧ Below w0.heap.size w0 w' ∧ Kept w w' (fun k_ => k_ = g ∨ P0 k_) := by
  have hc : w.cell? ⟨g, 1, none⟩ = some (.int .i64 t) := by obtain ⟨v, hv, _⟩ := h; exact blk_cell hv 1
  have HS := Aside0.mk h
  have HB := Aside0.mk hB
  clear h hB
  go_enter Try.func56, Try.ntmps56
  go_wp2_with (go_at_call 69; refine (lay_calls g 8 k t s a b _ bs P0 w0 _ HB.out (by omega) hg0 hl HS.out).mono ?_; rintro e w' ⟨rfl, h1, h2, h3⟩; have F1 := Aside0.mk h1; have F2 := Aside0.mk h2; have F3 := Aside0.mk h3; clear h1 h2 h3)
  go_end0
  exact ⟨rfl, F1.out, F2.out, F3.out⟩

set_option maxHeartbeats 1000000 in
set_option maxRecDepth 100000 in
theorem sub_calls (g : Nat) (k t s a b : Int) (bs : List Int) (P0 : Nat → Prop) (w0 w : World) (hB : Below w0.heap.size w0 w) (hg0 : w0.heap.size ≤ g) (hl : bs.length ≤ 1000) (h : IsWr w w0.heap.size g P0 k t s a b bs) :
    Calls Try.prog 57 #[.pointer (some ⟨g, 0, none⟩)] w fun e w' => e = .returned (.tuple #[]) ∧ IsWr w' w0.heap.size g (fun k_ => P0 k_ ∨ w.heap.size ≤ k_) k t s a b (bs ++ lays (IntKind.u64.wrap s) 4) ∧ Below w0.heap.size w0 w' ∧ Kept w w' (fun k_ => k_ = g ∨ P0 k_) := by
  have hc : w.cell? ⟨g, 2, none⟩ = some (.int .u32 s) := by obtain ⟨v, hv, _⟩ := h; exact blk_cell hv 2
  have HS := Aside0.mk h
  have HB := Aside0.mk hB
  clear h hB
  go_enter Try.func57, Try.ntmps57
  go_wp2_with (go_at_call 69; refine (lay_calls g 4 k t s a b _ bs P0 w0 _ HB.out (by omega) hg0 hl HS.out).mono ?_; rintro e w' ⟨rfl, h1, h2, h3⟩; have F1 := Aside0.mk h1; have F2 := Aside0.mk h2; have F3 := Aside0.mk h3; clear h1 h2 h3)
  go_end0
  exact ⟨rfl, F1.out, F2.out, F3.out⟩

set_option maxHeartbeats 1000000 in
set_option maxRecDepth 100000 in
theorem addr_calls (g : Nat) (k t s a b : Int) (bs : List Int) (P0 : Nat → Prop) (w0 w : World) (hB : Below w0.heap.size w0 w) (hg0 : w0.heap.size ≤ g) (hl : bs.length ≤ 1000) (h : IsWr w w0.heap.size g P0 k t s a b bs) :
    Calls Try.prog 58 #[.pointer (some ⟨g, 0, none⟩)] w fun e w' => e = .returned (.tuple #[]) ∧ IsWr w' w0.heap.size g (fun k_ => P0 k_ ∨ w.heap.size ≤ k_) k t s a b (bs ++ lays (IntKind.u64.wrap a) 4) ∧ Below w0.heap.size w0 w' ∧ Kept w w' (fun k_ => k_ = g ∨ P0 k_) := by
  have hc : w.cell? ⟨g, 3, none⟩ = some (.int .u32 a) := by obtain ⟨v, hv, _⟩ := h; exact blk_cell hv 3
  have HS := Aside0.mk h
  have HB := Aside0.mk hB
  clear h hB
  go_enter Try.func58, Try.ntmps58
  go_wp2_with (go_at_call 69; refine (lay_calls g 4 k t s a b _ bs P0 w0 _ HB.out (by omega) hg0 hl HS.out).mono ?_; rintro e w' ⟨rfl, h1, h2, h3⟩; have F1 := Aside0.mk h1; have F2 := Aside0.mk h2; have F3 := Aside0.mk h3; clear h1 h2 h3)
  go_end0
  exact ⟨rfl, F1.out, F2.out, F3.out⟩

set_option maxHeartbeats 1000000 in
set_option maxRecDepth 100000 in
theorem block_calls (g : Nat) (k t s a b : Int) (bs : List Int) (P0 : Nat → Prop) (w0 w : World) (hB : Below w0.heap.size w0 w) (hg0 : w0.heap.size ≤ g) (hl : bs.length ≤ 1000) (h : IsWr w w0.heap.size g P0 k t s a b bs) :
    Calls Try.prog 59 #[.pointer (some ⟨g, 0, none⟩)] w fun e w' => e = .returned (.tuple #[]) ∧ IsWr w' w0.heap.size g (fun k_ => P0 k_ ∨ w.heap.size ≤ k_) k t s a b (bs ++ lays (IntKind.u64.wrap b) 2) ∧ Below w0.heap.size w0 w' ∧ Kept w w' (fun k_ => k_ = g ∨ P0 k_) := by
  have hc : w.cell? ⟨g, 4, none⟩ = some (.int .i64 b) := by obtain ⟨v, hv, _⟩ := h; exact blk_cell hv 4
  have HS := Aside0.mk h
  have HB := Aside0.mk hB
  clear h hB
  go_enter Try.func59, Try.ntmps59
  go_wp2_with (go_at_call 69; refine (lay_calls g 2 k t s a b _ bs P0 w0 _ HB.out (by omega) hg0 hl HS.out).mono ?_; rintro e w' ⟨rfl, h1, h2, h3⟩; have F1 := Aside0.mk h1; have F2 := Aside0.mk h2; have F3 := Aside0.mk h3; clear h1 h2 h3)
  go_end0
  exact ⟨rfl, F1.out, F2.out, F3.out⟩

/-- The methods by their numbers, as function values bound to the writer at g. -/
def fnv (g : Nat) (f : Nat) : Value := .func (.func f) #[.pointer (some ⟨g, 0, none⟩)] #[]
def kfn (g : Nat) : Kd Nat := Kd.scalar (fnv g) (fun _ => rfl)
theorem info1 : (Try.prog.info? 1).map (fun i => (i.zero, i.size, i.bytes)) = some (some .nilFunc, 1, 8) := by kernel_rfl
theorem fn_lit (g : Nat) (W : World) (base : Nat) (hb : base ≤ W.heap.size) (fs : List Nat) (hl : fs.length ≤ 10) : Kd.R (kfn g) 1 (W.alloc (.cells (encs (fnv g) fs).toArray 1)) base (fun _ => True) (.slice (some ⟨W.heap.size, 0, none⟩) fs.length fs.length) fs :=
  Kd.R_of_own (own_lit_of (enc := fnv g) W base 1 fs hb (by omega)) (fun _ _ => trivial)
def partsOf (k : Int) : List Nat := if k = 2 then [55, 56, 57, 58, 59] else if k = 3 then [55, 56, 58, 59] else [55, 56]
set_option maxHeartbeats 1000000 in
set_option maxRecDepth 100000 in
theorem parts_calls (g : Nat) (k : Int) (w : World) (hc : w.cell? ⟨g, 0, none⟩ = some (.int .i64 k)) :
    Calls Try.prog 41 #[.pointer (some ⟨g, 0, none⟩)] w fun e w' => ∃ v, e = .returned v ∧ Kd.R (kfn g) 1 w' w.heap.size (fun _ => True) v (partsOf k) ∧ Below w.heap.size w w' := by
  have hmf : ∀ (fn : Fn) (first cap : Array Value) (w : World), (Instr.makeFunc fn first cap).run Try.prog w = .ok (.func fn first cap) w := fun _ _ _ _ => rfl
  have L1 := Aside0.mk (fn_lit g w w.heap.size (Nat.le_refl _) [55, 56] (by decide))
  have B1 : Aside0 (Below w.heap.size w (w.alloc (.cells (encs (fnv g) [55, 56]).toArray 1))) := ⟨(Below.refl _ _).alloc (Nat.le_refl _) _⟩
  have hca := fun o => cell_alloc_old hc o
  by_cases k2 : k = 2
  · have L2 := Aside0.mk (fn_lit g (w.alloc (.cells (encs (fnv g) [55, 56]).toArray 1)) w.heap.size (by simp) [57, 58, 59] (by decide))
    subst k2
    go_enter Try.func41, Try.ntmps41
    go_wp2_with (at_builtin; (refine Kd.R_append_row (h1 := fun _ => rfl) (w0 := w) (fnv g) 0 w.heap.size rfl (.tmp 16) (.tmp 23) 73 1 .nilFunc 8 rfl Try.underlying73 info1 rfl (Nat.succ_pos _) (.slice (some ⟨w.heap.size, 0, none⟩) 2 2) [55, 56] [57, 58, 59] (some ⟨w.heap.size + 1, 0, none⟩) 3 3 (fun _ => True) rfl rfl (fun _ _ => trivial) ?aO ?aR ?aB ?aS ?aL ?_; (case aL => decide); (case aO => exact Kd.R_alloc L1.out _); (case aR => have h0 := L2.out; rw [World.size_alloc] at h0; obtain ⟨A, c, e, _, h1⟩ := Kd.R_reads h0; injection e with e1 e2 e3; subst e1; exact h1); (case aB => exact B1.out.alloc (by simp) _); (case aS => simp; omega); intro v1 w1 hr hb hg hat; have F1 := Aside0.mk hr; have F2 := Aside0.mk hb; clear hr hb hg hat))
    go_ret
    exact ⟨_, rfl, F1.out, F2.out⟩
  · have k2b : (k == 2) = false := beq_eq_false_iff_ne.mpr k2
    by_cases k3 : k = 3
    · have L2 := Aside0.mk (fn_lit g (w.alloc (.cells (encs (fnv g) [55, 56]).toArray 1)) w.heap.size (by simp) [58, 59] (by decide))
      subst k3
      go_enter Try.func41, Try.ntmps41
      go_wp2_with (at_builtin; refine Kd.R_append_row (h1 := fun _ => rfl) (w0 := w) (fnv g) 0 w.heap.size rfl (.tmp 27) (.tmp 32) 73 1 .nilFunc 8 rfl Try.underlying73 info1 rfl (Nat.succ_pos _) (.slice (some ⟨w.heap.size, 0, none⟩) 2 2) [55, 56] [58, 59] (some ⟨w.heap.size + 1, 0, none⟩) 2 2 (fun _ => True) rfl rfl (fun _ _ => trivial) ?aO ?aR ?aB ?aS ?aL ?_; (case aL => decide); (case aO => exact Kd.R_alloc L1.out _); (case aR => have h0 := L2.out; rw [World.size_alloc] at h0; obtain ⟨A, c, e, _, h1⟩ := Kd.R_reads h0; injection e with e1 e2 e3; subst e1; exact h1); (case aB => exact B1.out.alloc (by simp) _); (case aS => simp; omega); intro v1 w1 hr hb hg hat; have F1 := Aside0.mk hr; have F2 := Aside0.mk hb; clear hr hb hg hat)
      go_ret
      exact ⟨_, rfl, F1.out, F2.out⟩
    · have k3b : (k == 3) = false := beq_eq_false_iff_ne.mpr k3
      have hp : Aside0 (partsOf k = [55, 56]) := ⟨by simp [partsOf, k2, k3]⟩
      clear k2 k3
      go_enter Try.func41, Try.ntmps41
      go_wp2
      go_ret
      exact ⟨_, rfl, by rw [hp.out]; exact L1.out, B1.out⟩

end Go.Proofs.Ytinjbfgjfmfibaa.Enc
