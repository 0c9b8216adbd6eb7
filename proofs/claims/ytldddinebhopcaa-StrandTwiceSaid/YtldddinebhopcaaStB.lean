/- strand: Append. chapter 8: both, awake. strand over its disk: what stays true; the deeds on both. strand over its disk: the deeds' contracts. chapter 8: awake. chapter 8: what the printed helpers answer. -/
import Derived.Test.YtldddinebhopcaaStA
import Derived.Test.YtldddinebhopcaaDkC
import Derived.Test.YtldddinebhopcaaDkD
import Derived.Lib.SlBytesConst
import Derived.Test.YtldddinebhopcaaPStrandPlaysx3
import Derived.Test.YtldddinebhopcaaPStrandPlaysx1
namespace Go.Proofs.Ytldddinebhopcaa.St
open Go.RowKit Go.Shelf Go.Proofs.YtldddinebhopcaaW.PrintWords Go.Proofs.YtldddinebhopcaaW.PrintLast Go.Proofs.YtldddinebhopcaaW.PrintMore Go.Proofs.Ytldddinebhopcaa.Bs Go.Proofs.Ytldddinebhopcaa.Fr Go.Proofs.Ytldddinebhopcaa.Oct Go.Proofs.Ytldddinebhopcaa.Sec Go.Proofs.Ytldddinebhopcaa.Rg
set_option linter.unusedVariables false
set_option linter.unusedSimpArgs false
def padL (l : List Int) : List Int := l ++ List.replicate (64 - l.length) 0
theorem padL_len {l : List Int} (h : l.length ≤ 64) : (padL l).length = 64 := by unfold padL; rw [List.length_append, List.length_replicate]; omega
/-- Where the next record's frame of k bytes goes. -/
def stepM (m : SM) (N : Int) (k : Nat) : SM := if m.at_ < N ∧ 64 < m.ahead.length + k then nextM m else m
def stM (m : SM) (d : DM) (b : List Int) : SM := stepM m d.now.length (b.length + 7)
def apFull (m : SM) (d : DM) (b : List Int) : Prop := (d.now.length : Int) ≤ (stM m d b).at_
instance (m : SM) (d : DM) (b : List Int) : Decidable (apFull m d b) := by unfold apFull; infer_instance
def wholeM (s : SM) (b : List Int) : List Int := padL (s.ahead ++ frameL b)
def putM (s : SM) (b : List Int) : SM := ⟨s.at_, s.ahead ++ frameL b, s.recs ++ [(b, s.at_)]⟩
def apE (m : SM) (d : DM) (b : List Int) : Int := if apFull m d b then 6 else tell (outc d)
def apD (m : SM) (d : DM) (b : List Int) : DM := if apFull m d b then d else wrM d (stM m d b).at_ (wholeM (stM m d b) b)
def apS (m : SM) (d : DM) (b : List Int) : SM := if apFull m d b then stM m d b else if tell (outc d) ≠ 0 then nextM (stM m d b) else putM (stM m d b) b
/-- What a strand over a disk of N sectors is. -/
structure SI (m : SM) (N : Nat) : Prop where
  a0 : 0 ≤ m.at_
  a1 : m.at_ ≤ N
  l : m.ahead.length ≤ 64
  e : m.ahead ≠ [] → m.at_ < N
  byt : Byt m.ahead
theorem SI.next {m : SM} {N : Nat} (h : SI m N) (hn : m.at_ < N) : SI (nextM m) N := ⟨by have := h.a0; show 0 ≤ m.at_ + 1; omega, by show m.at_ + 1 ≤ N; omega, by show 0 ≤ 64; omega, fun hh => absurd rfl hh, fun _ hx => by cases hx⟩
/-- A sector of bytes of one's own is written. -/
theorem Write64 (w : World) (base g : Nat) (v0 v1 v2 v3 : Value) (m : DM) (h : DV w base g v0 v1 v2 v3 m) (ho : 0 ≤ m.ops ∧ m.ops ≤ 1000000000) (hs : m.since.length ≤ 1000000) (i : Int) (hi : 0 ≤ i ∧ i < (m.now.length : Int))
    (gb : Nat) (b : List Int) (hb : b.length = 64) (hx : w.heap[gb]? = some (.cells (encs (Value.int .u8) b).toArray 5 (0, 0))) (hg : base ≤ w.heap.size) :
    Calls Try.prog 45 #[.pointer (some ⟨g, 0, none⟩), .int .i64 i, .slice (some ⟨gb, 0, none⟩) 64 64] w fun e w' => e = .returned (.int .i64 (tell (outc m))) ∧ ∃ v2' v3', DV w' base g v0 v1 v2' v3' (wrM m i b) ∧ Fr w w' (foot g v0 v1 v2 v3) ∧ ∀ k, foot g v0 v1 v2' v3' k → foot g v0 v1 v2 v3 k ∨ w.heap.size ≤ k := by
  have hne : gb ≠ g := fun he => by
    have h1 := h.blk
    rw [← he, hx] at h1
    injection h1 with h1
    injection h1 with _ h1 _
    exact absurd h1 (by decide)
  have hW := Write_all w base g v0 v1 v2 v3 m h ho hs i (some ⟨gb, 0, none⟩) 64 b (fun _ => ⟨gb, rfl, range_blk hx, hne⟩) hg
  have hf : fits m i b := ⟨hi.1, hi.2, hb⟩
  unfold wrE at hW
  rw [if_pos hf, hb] at hW
  exact hW
set_option maxHeartbeats 1000000 in
set_option maxRecDepth 100000 in
theorem Append_bad (w : World) (base gs gd : Nat) (ok : Nat → Prop) (u2 u3 : Value) (m : SM) (h : SV w base ok gs gd u2 u3 m) (A : Option Addr) (n c : Nat) (hn : n = 0 ∨ 56 < n) :
    Calls Try.prog 14 #[.pointer (some ⟨gs, 0, none⟩), .slice A n c] w fun e w' => e = .returned (.int .i64 (if n = 0 then 1 else 3)) ∧ w = w' := by
  have k0 : w.cell? ⟨gs, 0, none⟩ = some (.pointer (some ⟨gd, 0, none⟩)) := blk_cell h.blk 0
  clear h
  rcases hn with rfl | hn
  · go_enter Try.func14, Try.ntmps14
    go_wp2_with (go_at_call 11; refine (Frame_nil A c w).mono ?_; rintro e w1 ⟨rfl, rfl⟩)
    go_ret
    exact ⟨rfl, rfl⟩
  · have HE : Aside0 ((if n = 0 then (1 : Int) else 3) = 3) := ⟨if_neg (by omega)⟩
    go_enter Try.func14, Try.ntmps14
    go_wp2_with (go_at_call 11; refine (Frame_long A n c w hn).mono ?_; rintro e w1 ⟨rfl, rfl⟩)
    go_ret
    exact ⟨by first | rfl | (rw [HE.out]; rfl), rfl⟩
/-- What Append leaves. -/
structure ApR (w w' : World) (base gs gd : Nat) (ok : Nat → Prop) (u3 v0 v1 v2 v3 : Value) (m' : SM) (d' : DM) (u2' u3' v2' v3' : Value) : Prop where
  d : DV w' base gd v0 v1 v2' v3' d'
  s : SV w' base (fun k => (ok k ∨ w.heap.size ≤ k) ∧ ¬ foot gd v0 v1 v2' v3' k) gs gd u2' u3' m'
  g : ¬ foot gd v0 v1 v2' v3' gs
  f : Fr w w' (fun k => foot gd v0 v1 v2 v3 k ∨ k = gs ∨ own u3 k)
  fd : ∀ k, foot gd v0 v1 v2' v3' k → foot gd v0 v1 v2 v3 k ∨ w.heap.size ≤ k
  fs : ∀ k, own u3' k → own u3 k ∨ w.heap.size ≤ k
def zero64 : List Int := List.replicate 64 0
theorem zero64_len : zero64.length = 64 := by unfold zero64; exact List.length_replicate
theorem hmk64 (W : World) : (Instr.makeSlice 23 (.int .i64 64) (.int .i64 64)).run Try.prog W = .ok (.slice (some ⟨W.heap.size, 0, none⟩) 64 64) (W.alloc (.cells (encs (Value.int .u8) zero64).toArray 5)) := by
  exact run_mk 64 (by decide) W
theorem fill_pad {W : World} {g : Nat} {l : List Int} (hl : l.length ≤ 64) (hb : W.heap[g]? = some (.cells (encs (Value.int .u8) zero64).toArray 5 (0, 0))) :
    (W.setCells g 0 (encs (Value.int .u8) l)).heap[g]? = some (.cells (encs (Value.int .u8) (padL l)).toArray 5 (0, 0)) := by
  obtain ⟨cur, h1, h2, h3⟩ := setCells_row (encs (Value.int .u8) l) 0 W _ hb (by rw [encs_length, List.size_toArray, encs_length, zero64_len]; omega)
  rw [h1]
  have : cur = (encs (Value.int .u8) (padL l)).toArray := by
    apply Array.ext'
    rw [h3, List.take_zero, List.nil_append, Nat.zero_add, encs_length]
    unfold padL
    rw [encs_append]
    congr 1
    show (encs (Value.int .u8) zero64).drop l.length = _
    unfold encs zero64
    rw [List.map_replicate, List.drop_replicate, List.map_replicate]
  rw [this]
theorem add0 (g j : Nat) : (⟨g, 0, none⟩ : Addr).add j = ⟨g, 0 + j, none⟩ := by
  unfold Addr.add
  split <;> simp_all
theorem infoS : (Try.prog.info? 5).map (·.size) = some 1 := by kernel_rfl
/-- What was readable stays so, where its cells were not written. -/
theorem Cb_kept {w w' : World} {F : Nat → Prop} {A : Option Addr} {l : List Int} (hC : Kd.C (Kd.int .u8) w A l.length l) (hA : ∀ a, A = some a → 0 < l.length → ¬ F a.block) (k : Fr w w' F) : Kd.C (Kd.int .u8) w' A l.length l := by
  refine Kd.C_of_reads (d := (0 : Int)) (h1 := fun _ => rfl) ⟨rfl, hC.2.1, fun h0 => ?_⟩
  obtain ⟨ad, e, h⟩ := (Kd.reads_of_C (d := (0 : Int)) hC).2.2 h0
  exact ⟨ad, e, fun j hj => cell_fr (h j hj) k (by have := hA ad e h0; unfold Addr.add; split <;> exact this)⟩
set_option maxHeartbeats 8000000 in
set_option maxRecDepth 100000 in
theorem Append_calls (w : World) (base gs gd : Nat) (ok : Nat → Prop) (u2 u3 v0 v1 v2 v3 : Value) (m : SM) (d : DM) (h : SV w base ok gs gd u2 u3 m) (hd : DV w base gd v0 v1 v2 v3 d) (ho : 0 ≤ d.ops ∧ d.ops ≤ 1000000000) (hs : d.since.length ≤ 1000000) (hb : base ≤ w.heap.size)
    (hi : SI m d.now.length) (hr : m.recs.length ≤ 1000000) (hk : ∀ k, ok k → ¬ foot gd v0 v1 v2 v3 k) (hg : ¬ foot gd v0 v1 v2 v3 gs) (A : Option Addr) (c : Nat) (b : List Int) (hC : Kd.C (Kd.int .u8) w A b.length b) (hc : b.length ≤ c) (hn : 1 ≤ b.length ∧ b.length ≤ 56) (hB : Byt b)
    (hA : ∀ a, A = some a → 0 < b.length → ¬ (foot gd v0 v1 v2 v3 a.block ∨ a.block = gs ∨ own u3 a.block)) :
    Calls Try.prog 14 #[.pointer (some ⟨gs, 0, none⟩), .slice A b.length c] w fun e w' => e = .returned (.int .i64 (apE m d b)) ∧ ∃ u2' u3' v2' v3', ApR w w' base gs gd ok u3 v0 v1 v2 v3 (apS m d b) (apD m d b) u2' u3' v2' v3' := by
  have H := Aside0.mk h
  have HD := Aside0.mk hd
  have HO := Aside0.mk (And.intro ho hs)
  have HB := Aside0.mk hb
  have HI := Aside0.mk hi
  have HR := Aside0.mk hr
  have HG := Aside0.mk hg
  have HCW := Aside0.mk hC
  have HOB := Aside0.mk hA
  have HN := Aside0.mk hn
  have HBB := Aside0.mk hB
  have HCC := Aside0.mk hc
  have HNN := Aside0.mk hd.n2
  have HAM : Aside0 (0 ≤ m.at_ ∧ m.at_ ≤ 1000000) := ⟨by have h1 := hi.a0; have h2 := hi.a1; have h3 := hd.n2; constructor <;> omega⟩
  have HK1 : Aside0 (∀ k, (ok k ∨ w.heap.size ≤ k) → ¬ foot gd v0 v1 v2 v3 k) := ⟨fun k hk' hf => by
    rcases hk' with q | q
    · exact hk k q hf
    · have := hd.foot_lt k hf; omega⟩
  have HAL : Aside0 ((m.recs.length + 1) * 32 ≤ 140737488355328) := ⟨by omega⟩
  have HGS := Aside0.mk (blk_lt h.blk)
  have k0 : w.cell? ⟨gs, 0, none⟩ = some (.pointer (some ⟨gd, 0, none⟩)) := blk_cell h.blk 0
  have hml : 0 ≤ (m.ahead.length : Int) ∧ (m.ahead.length : Int) ≤ 64 := by have := hi.l; omega
  have hmat : 0 ≤ m.at_ ∧ m.at_ ≤ 4096 := by have h1 := hi.a0; have h2 := hi.a1; have h3 := hd.n2; constructor <;> omega
  clear h hd ho hs hb hi hr hk hg hC hA hc hB hn
  go_enter Try.func14, Try.ntmps14
  go_wp2_with fail
  refine (Frame_calls A c b w HCW.out HCC.out HN.out HBB.out).mono ?_
  rintro e w1 ⟨v5, rfl, hr1, hb1⟩
  obtain ⟨Af, cf, ev⟩ := Kd.R_slice hr1
  subst ev
  have B1 := Aside0.mk hb1
  have S1 : Aside0 (SV w1 base (fun k => ok k ∨ w.heap.size ≤ k) gs gd u2 u3 m) := ⟨(H.out.below hb1).okto (fun k q _ _ => .inl q)⟩
  have D1 := Aside0.mk (HD.out.below hb1)
  have D1d : DV w1.drew base gd v0 v1 v2 v3 d := D1.out.below (below_drew (Below.refl _ _))
  have F1 : Aside0 (Fr w w1 (fun k => foot gd v0 v1 v2 v3 k ∨ k = gs ∨ own u3 k)) := ⟨Fr.of_below hb1 _⟩
  have CF1 := Aside0.mk (Kd.R_reads' hr1).2.2
  have CB1 := Aside0.mk (Kd.C_below HCW.out hb1)
  have HOF : Aside0 (∀ a, Af = some a → 0 < (frameL b).length → ¬ a.block = gs) := ⟨fun a ha h0 he => by
    obtain ⟨g, cap, hv, hle, _⟩ := Kd.R_form hr1 h0
    injection hv with hA' _ _
    rw [ha] at hA'
    injection hA' with hA'
    rw [hA'] at he
    have h1 := HGS.out
    have he : g = gs := he
    omega⟩
  have HFL := Aside0.mk (frameL_len b)
  obtain ⟨F, hF⟩ : ∃ F, frameL b = F := ⟨_, rfl⟩
  have HFE := Aside0.mk hF
  rw [hF] at CF1 HOF HFL ⊢
  clear hr1 hb1 hF
  obtain ⟨A2, c2, rfl⟩ := Kd.R_slice S1.out.ahead
  have k0 : w1.cell? ⟨gs, 0, none⟩ = some (.pointer (some ⟨gd, 0, none⟩)) := blk_cell S1.out.blk 0
  have k1 : w1.cell? ⟨gs, 1, none⟩ = some (.int .i64 m.at_) := blk_cell S1.out.blk 1
  have k2 : w1.cell? ⟨gs, 2, none⟩ = some (.slice A2 m.ahead.length c2) := blk_cell S1.out.blk 2
  have hfl : 0 ≤ (F.length : Int) ∧ (F.length : Int) ≤ 63 := by have h1 := HFL.out; have h2 := HN.out; omega
  by_cases hat : m.at_ < (d.now.length : Int)
  · have hatb := decide_eq_true hat
    by_cases hgt : (64 : Int) < (m.ahead.length : Int) + (F.length : Int)
    · have hgtb := decide_eq_true hgt
      have HSM : Aside0 (stM m d b = nextM m) := ⟨by unfold stM stepM; rw [if_pos ⟨hat, by have := HFL.out; omega⟩]⟩
      go_upto_region 6 with fail
      have hsum : wrap64 ((m.ahead.length : Int) + (F.length : Int)) = (m.ahead.length : Int) + (F.length : Int) := by unfold wrap64; omega
      refine start_ (n := 21) (S := fun w' => w'.cell? ⟨gs, 0, none⟩ = some (.pointer (some ⟨gd, 0, none⟩)) ∧ w'.cell? ⟨gs, 1, none⟩ = some (.int .i64 m.at_) ∧ w'.cell? ⟨gs, 2, none⟩ = some (.slice A2 m.ahead.length c2)) (ds := []) #[false, false, false, false, false, false, false, false, false, false, false, false, false, false, false, false, false, false, false, false, false] (by kernel_rfl) rfl rfl ⟨k0, k1, k2⟩ (fun hHeld => ?_)
      refine pure_ (i := 0) (N := some 26) (v := ?_) (a' := ?_) #[true, false, false, false, false, false, false, false, false, false, false, false, false, false, false, false, false, false, false, false, false] rfl rfl (by kernel_rfl) (fun _ _ _ h => h) (Or.inl ⟨by rfl, ?_⟩) ?_ ?_
      rotate_left
      · intro w'
        go_simp
        with_reducible rfl
      rotate_left
      · simp only [Act.put, List.setIfInBounds_toArray, List.set_cons_zero, List.set_cons_succ, i64_w, i32_w]
        rfl
      refine pure_ (i := 1) (N := some 27) (v := ?_) (a' := ?_) #[true, true, false, false, false, false, false, false, false, false, false, false, false, false, false, false, false, false, false, false, false] rfl rfl (by kernel_rfl) (fun _ _ _ h => h) (Or.inl ⟨by rfl, ?_⟩) ?_ ?_
      rotate_left
      · intro w'
        go_simp
        with_reducible rfl
      rotate_left
      · simp only [Act.put, List.setIfInBounds_toArray, List.set_cons_zero, List.set_cons_succ, i64_w, i32_w]
        rfl
      refine pure_ (i := 2) (N := some 28) (v := ?_) (a' := ?_) #[true, true, true, false, false, false, false, false, false, false, false, false, false, false, false, false, false, false, false, false, false] rfl rfl (by kernel_rfl) (fun _ _ _ h => h) (Or.inl ⟨by rfl, ?_⟩) ?_ ?_
      rotate_left
      · intro w'
        go_simp
        with_reducible rfl
      rotate_left
      · simp only [Act.put, List.setIfInBounds_toArray, List.set_cons_zero, List.set_cons_succ, i64_w, i32_w]
        rfl
      refine pure_ (i := 4) (N := some 30) (v := ?_) (a' := ?_) #[true, true, true, false, true, false, false, false, false, false, false, false, false, false, false, false, false, false, false, false, false] rfl rfl (by kernel_rfl) (fun _ _ _ h => h) (Or.inl ⟨by rfl, ?_⟩) ?_ ?_
      rotate_left
      · intro w'
        go_simp
        with_reducible rfl
      rotate_left
      · simp only [Act.put, List.setIfInBounds_toArray, List.set_cons_zero, List.set_cons_succ, i64_w, i32_w]
        rfl
      refine pure_ (i := 5) (N := some 31) (v := ?_) (a' := ?_) #[true, true, true, false, true, true, false, false, false, false, false, false, false, false, false, false, false, false, false, false, false] rfl rfl (by kernel_rfl) (fun _ _ _ h => h) (Or.inl ⟨by rfl, ?_⟩) ?_ ?_
      rotate_left
      · intro w'
        go_simp
        with_reducible rfl
      rotate_left
      · simp only [Act.put, List.setIfInBounds_toArray, List.set_cons_zero, List.set_cons_succ, i64_w, i32_w]
        rfl
      refine pure_ (i := 6) (N := some 32) (v := ?_) (a' := ?_) #[true, true, true, false, true, true, true, false, false, false, false, false, false, false, false, false, false, false, false, false, false] rfl rfl (by kernel_rfl) (fun _ _ _ h => h) (Or.inl ⟨by rfl, ?_⟩) ?_ ?_
      rotate_left
      · intro w'
        go_simp
        with_reducible rfl
      rotate_left
      · simp only [Act.put, List.setIfInBounds_toArray, List.set_cons_zero, List.set_cons_succ, i64_w, i32_w]
        rfl
      refine take_ (i := 3) (N := some 29) (v := ?_) (a' := ?_) #[true, true, true, true, true, true, true, false, false, false, false, false, false, false, false, false, false, false, false, false, false] rfl rfl (by kernel_rfl) (fun _ _ _ h => h) (Or.inl ⟨by rfl, ?_⟩) hHeld ?_ ?_
      rotate_left
      · rintro w' ⟨s0, s1, s2⟩
        go_simp
        with_reducible rfl
      rotate_left
      · simp only [Act.put, List.setIfInBounds_toArray, List.set_cons_zero, List.set_cons_succ, i64_w, i32_w]
        rfl
      refine take_ (i := 7) (N := some 33) (v := ?_) (a' := ?_) #[true, true, true, true, true, true, true, true, false, false, false, false, false, false, false, false, false, false, false, false, false] rfl rfl (by kernel_rfl) (fun _ _ _ h => h) (Or.inl ⟨by rfl, ?_⟩) hHeld ?_ ?_
      rotate_left
      · rintro w' ⟨s0, s1, s2⟩
        go_simp
        with_reducible rfl
      rotate_left
      · simp only [Act.put, List.setIfInBounds_toArray, List.set_cons_zero, List.set_cons_succ, i64_w, i32_w]
        rfl
      refine one_ (i := 8) (N := some 34) #[true, true, true, true, true, true, true, true, true, false, false, false, false, false, false, false, false, false, false, false, false] rfl rfl (by kernel_rfl) (by decide) (fun K hK => ?_)
      refine goes_ Try.func37 (by kernel_rfl) rfl #[.pointer (some ⟨gd, 0, none⟩)] (by rfl) rfl rfl (by simp only [List.map_toArray, List.map_cons, List.map_nil]; rfl) ?_
      with_reducible refine (Size_calls w1.drew base gd v0 v1 v2 v3 d D1d).mono ?_
      rintro e w3 ⟨rfl, rfl⟩
      refine ⟨_, rfl, ?_⟩
      refine hK.out _ _ ⟨hHeld.1, hHeld.2.1, hHeld.2.2⟩ (fun hHeld => ?_)
      clear hK K
      refine norm_ (a' := ?_) ?_ ?_
      rotate_left
      · show Act.put _ (some 34) _ = _
        simp only [Act.put, List.setIfInBounds_toArray, List.set_cons_zero, List.set_cons_succ, i64_w, i32_w]
        rfl
      refine pure_ (i := 9) (N := some 35) (v := ?_) (a' := ?_) #[true, true, true, true, true, true, true, true, true, true, false, false, false, false, false, false, false, false, false, false, false] rfl rfl (by kernel_rfl) (fun _ _ _ h => h) (Or.inl ⟨by rfl, ?_⟩) ?_ ?_
      rotate_left
      · intro w'
        go_simp
        with_reducible rfl
      rotate_left
      · simp only [Act.put, List.setIfInBounds_toArray, List.set_cons_zero, List.set_cons_succ, i64_w, i32_w]
        rfl
      refine pure_ (i := 10) (N := some 36) (v := ?_) (a' := ?_) #[true, true, true, true, true, true, true, true, true, true, true, false, false, false, false, false, false, false, false, false, false] rfl rfl (by kernel_rfl) (fun _ _ _ h => h) (Or.inl ⟨by rfl, ?_⟩) ?_ ?_
      rotate_left
      · intro w'
        go_simp
        with_reducible rfl
      rotate_left
      · simp only [Act.put, List.setIfInBounds_toArray, List.set_cons_zero, List.set_cons_succ, i64_w, i32_w]
        rfl
      refine pure_ (i := 11) (N := some 37) (v := ?_) (a' := ?_) #[true, true, true, true, true, true, true, true, true, true, true, true, false, false, false, false, false, false, false, false, false] rfl rfl (by kernel_rfl) (fun _ _ _ h => h) (Or.inl ⟨by rfl, ?_⟩) ?_ ?_
      rotate_left
      · intro w'
        go_simp
        with_reducible rfl
      rotate_left
      · simp only [Act.put, List.setIfInBounds_toArray, List.set_cons_zero, List.set_cons_succ, i64_w, i32_w]
        rfl
      refine pure_ (i := 12) (N := some 38) (v := ?_) (a' := ?_) #[true, true, true, true, true, true, true, true, true, true, true, true, true, false, false, false, false, false, false, false, false] rfl rfl (by kernel_rfl) (fun _ _ _ h => h) (Or.inl ⟨by rfl, ?_⟩) ?_ ?_
      rotate_left
      · intro w'
        go_simp
        with_reducible rfl
      rotate_left
      · simp only [Act.put, List.setIfInBounds_toArray, List.set_cons_zero, List.set_cons_succ, i64_w, i32_w]
        rfl
      refine pure_ (i := 13) (N := some 39) (v := ?_) (a' := ?_) #[true, true, true, true, true, true, true, true, true, true, true, true, true, true, false, false, false, false, false, false, false] rfl rfl (by kernel_rfl) (fun _ _ _ h => h) (Or.inl ⟨by rfl, ?_⟩) ?_ ?_
      rotate_left
      · intro w'
        go_simp
        with_reducible rfl
      rotate_left
      · simp only [Act.put, List.setIfInBounds_toArray, List.set_cons_zero, List.set_cons_succ, i64_w, i32_w]
        rfl
      refine pure_ (i := 16) (N := some 42) (v := ?_) (a' := ?_) #[true, true, true, true, true, true, true, true, true, true, true, true, true, true, false, false, true, false, false, false, false] rfl rfl (by kernel_rfl) (fun _ _ _ h => h) (Or.inl ⟨by rfl, ?_⟩) ?_ ?_
      rotate_left
      · intro w'
        go_simp
        with_reducible rfl
      rotate_left
      · simp only [Act.put, List.setIfInBounds_toArray, List.set_cons_zero, List.set_cons_succ, i64_w, i32_w]
        rfl
      refine pure_ (i := 17) (N := some 43) (v := ?_) (a' := ?_) #[true, true, true, true, true, true, true, true, true, true, true, true, true, true, false, false, true, true, false, false, false] rfl rfl (by kernel_rfl) (fun _ _ _ h => h) (Or.inl ⟨by rfl, ?_⟩) ?_ ?_
      rotate_left
      · intro w'
        go_simp
        with_reducible rfl
      rotate_left
      · simp only [Act.put, List.setIfInBounds_toArray, List.set_cons_zero, List.set_cons_succ, i64_w, i32_w]
        rfl
      refine take_ (i := 14) (N := some 40) (v := ?_) (a' := ?_) #[true, true, true, true, true, true, true, true, true, true, true, true, true, true, true, false, true, true, false, false, false] rfl rfl (by kernel_rfl) (fun _ _ _ h => h) (Or.inl ⟨by rfl, ?_⟩) hHeld ?_ ?_
      rotate_left
      · rintro w' ⟨s0, s1, s2⟩
        go_simp
        with_reducible rfl
      rotate_left
      · simp only [Act.put, List.setIfInBounds_toArray, List.set_cons_zero, List.set_cons_succ, i64_w, i32_w]
        rfl
      refine pure_ (i := 15) (N := some 41) (v := ?_) (a' := ?_) #[true, true, true, true, true, true, true, true, true, true, true, true, true, true, true, true, true, true, false, false, false] rfl rfl (by kernel_rfl) (fun _ _ _ h => h) (Or.inl ⟨by rfl, ?_⟩) ?_ ?_
      rotate_left
      · intro w'
        go_simp
        with_reducible rfl
      rotate_left
      · simp only [Act.put, List.setIfInBounds_toArray, List.set_cons_zero, List.set_cons_succ, i64_w, i32_w]
        rfl
      refine pure_ (i := 18) (N := some 44) (v := ?_) (a' := ?_) #[true, true, true, true, true, true, true, true, true, true, true, true, true, true, true, true, true, true, true, false, false] rfl rfl (by kernel_rfl) (fun _ _ _ h => h) (Or.inl ⟨by rfl, ?_⟩) ?_ ?_
      rotate_left
      · intro w'
        go_simp
        with_reducible rfl
      rotate_left
      · simp only [Act.put, List.setIfInBounds_toArray, List.set_cons_zero, List.set_cons_succ, i64_w, i32_w]
        rfl
      refine pure_ (i := 19) (N := some 45) (v := ?_) (a' := ?_) #[true, true, true, true, true, true, true, true, true, true, true, true, true, true, true, true, true, true, true, true, false] rfl rfl (by kernel_rfl) (fun _ _ _ h => h) (Or.inl ⟨by rfl, ?_⟩) ?_ ?_
      rotate_left
      · intro w'
        go_simp
        with_reducible rfl
      rotate_left
      · simp only [Act.put, List.setIfInBounds_toArray, List.set_cons_zero, List.set_cons_succ, i64_w, i32_w]
        rfl
      refine pure_ (i := 20) (N := some 46) (v := ?_) (a' := ?_) #[true, true, true, true, true, true, true, true, true, true, true, true, true, true, true, true, true, true, true, true, true] rfl rfl (by kernel_rfl) (fun _ _ _ h => h) (Or.inl ⟨by rfl, ?_⟩) ?_ ?_
      rotate_left
      · intro w'
        go_simp
        with_reducible rfl
      rotate_left
      · simp only [Act.put, List.setIfInBounds_toArray, List.set_cons_zero, List.set_cons_succ, i64_w, i32_w]
        rfl
      refine done_ (by kernel_rfl) ?_
      clear hsum
      have SX0 := Aside0.mk (S1.out.below (below_drew (Below.refl _ _)))
      have DX0 := Aside0.mk (D1.out.below (below_drew (Below.refl _ _)))
      have CFX0 := Aside0.mk (Kd.C_drew CF1.out)
      have CBX0 := Aside0.mk (Kd.C_drew CB1.out)
      have FX0 := Aside0.mk F1.out.drew
      clear S1 D1 CF1 CB1 F1 k0 k1 k2 D1d
      generalize w1.drew = wx0 at *
      go_wp2_with fail
      refine (Snext_calls wx0 base gs gd _ _ u3 m SX0.out HAM.out).mono ?_
      rintro e wx ⟨rfl, s2, f2⟩
      have HSL : Aside0 (([] : List Int).length + F.length ≤ 64) := ⟨by have h1 := HFL.out; have h2 := HN.out; simp; omega⟩
      have DX := Aside0.mk (DX0.out.keep f2 (fun q hq he => HG.out (he ▸ hq)))
      have SX := Aside0.mk s2
      have FX := Aside0.mk (FX0.out.trans f2 (fun k hk => .inl (.inr (.inl hk))))
      have CFX : Aside0 (Kd.C (Kd.int .u8) wx Af F.length F) := ⟨Cb_kept (F := fun k => k = gs) CFX0.out HOF.out f2⟩
      have CBX : Aside0 (Kd.C (Kd.int .u8) wx A b.length b) := ⟨Cb_kept HCW.out HOB.out FX.out⟩
      clear DX0 SX0 FX0 CFX0 CBX0 s2 f2 hat hatb hgt hgtb
      by_cases hfull : (d.now.length : Int) ≤ m.at_ + 1
      · have k0 : wx.cell? ⟨gs, 0, none⟩ = some (.pointer (some ⟨gd, 0, none⟩)) := blk_cell SX.out.blk 0
        have k1 : wx.cell? ⟨gs, 1, none⟩ = some (.int .i64 (m.at_ + 1)) := blk_cell SX.out.blk 1
        have DXd : DV wx.drew base gd v0 v1 v2 v3 d := DX.out.below (below_drew (Below.refl _ _))
        have hfb : decide ((d.now.length : Int) ≤ (m.at_ + 1)) = true := decide_eq_true hfull
        have HFU : Aside0 (apE m d b = 6 ∧ apD m d b = d ∧ apS m d b = (nextM m)) := ⟨by
          have hst := HSM.out
          have hf : apFull m d b := by unfold apFull; rw [hst]; exact hfull
          unfold apE apD apS
          rw [if_pos hf, if_pos hf, if_pos hf, hst]
          exact ⟨rfl, rfl, rfl⟩⟩
        clear hfull
        go_upto_region 8 with fail
        refine start_ (n := 10) (S := fun w' => w'.cell? ⟨gs, 0, none⟩ = some (.pointer (some ⟨gd, 0, none⟩)) ∧ w'.cell? ⟨gs, 1, none⟩ = some (.int .i64 (m.at_ + 1))) (ds := []) #[false, false, false, false, false, false, false, false, false, false] (by kernel_rfl) rfl rfl ⟨k0, k1⟩ (fun hHeld => ?_)
        refine pure_ (i := 0) (N := some 49) (v := ?_) (a' := ?_) #[true, false, false, false, false, false, false, false, false, false] rfl rfl (by kernel_rfl) (fun _ _ _ h => h) (Or.inl ⟨by rfl, ?_⟩) ?_ ?_
        rotate_left
        · intro w'
          go_simp
          with_reducible rfl
        rotate_left
        · simp only [Act.put, List.setIfInBounds_toArray, List.set_cons_zero, List.set_cons_succ, i64_w, i32_w]
          rfl
        refine pure_ (i := 1) (N := some 50) (v := ?_) (a' := ?_) #[true, true, false, false, false, false, false, false, false, false] rfl rfl (by kernel_rfl) (fun _ _ _ h => h) (Or.inl ⟨by rfl, ?_⟩) ?_ ?_
        rotate_left
        · intro w'
          go_simp
          with_reducible rfl
        rotate_left
        · simp only [Act.put, List.setIfInBounds_toArray, List.set_cons_zero, List.set_cons_succ, i64_w, i32_w]
          rfl
        refine pure_ (i := 2) (N := some 51) (v := ?_) (a' := ?_) #[true, true, true, false, false, false, false, false, false, false] rfl rfl (by kernel_rfl) (fun _ _ _ h => h) (Or.inl ⟨by rfl, ?_⟩) ?_ ?_
        rotate_left
        · intro w'
          go_simp
          with_reducible rfl
        rotate_left
        · simp only [Act.put, List.setIfInBounds_toArray, List.set_cons_zero, List.set_cons_succ, i64_w, i32_w]
          rfl
        refine pure_ (i := 4) (N := some 53) (v := ?_) (a' := ?_) #[true, true, true, false, true, false, false, false, false, false] rfl rfl (by kernel_rfl) (fun _ _ _ h => h) (Or.inl ⟨by rfl, ?_⟩) ?_ ?_
        rotate_left
        · intro w'
          go_simp
          with_reducible rfl
        rotate_left
        · simp only [Act.put, List.setIfInBounds_toArray, List.set_cons_zero, List.set_cons_succ, i64_w, i32_w]
          rfl
        refine pure_ (i := 5) (N := some 54) (v := ?_) (a' := ?_) #[true, true, true, false, true, true, false, false, false, false] rfl rfl (by kernel_rfl) (fun _ _ _ h => h) (Or.inl ⟨by rfl, ?_⟩) ?_ ?_
        rotate_left
        · intro w'
          go_simp
          with_reducible rfl
        rotate_left
        · simp only [Act.put, List.setIfInBounds_toArray, List.set_cons_zero, List.set_cons_succ, i64_w, i32_w]
          rfl
        refine pure_ (i := 6) (N := some 55) (v := ?_) (a' := ?_) #[true, true, true, false, true, true, true, false, false, false] rfl rfl (by kernel_rfl) (fun _ _ _ h => h) (Or.inl ⟨by rfl, ?_⟩) ?_ ?_
        rotate_left
        · intro w'
          go_simp
          with_reducible rfl
        rotate_left
        · simp only [Act.put, List.setIfInBounds_toArray, List.set_cons_zero, List.set_cons_succ, i64_w, i32_w]
          rfl
        refine take_ (i := 3) (N := some 52) (v := ?_) (a' := ?_) #[true, true, true, true, true, true, true, false, false, false] rfl rfl (by kernel_rfl) (fun _ _ _ h => h) (Or.inl ⟨by rfl, ?_⟩) hHeld ?_ ?_
        rotate_left
        · rintro w' ⟨s0, s1⟩
          go_simp
          with_reducible rfl
        rotate_left
        · simp only [Act.put, List.setIfInBounds_toArray, List.set_cons_zero, List.set_cons_succ, i64_w, i32_w]
          rfl
        refine take_ (i := 7) (N := some 56) (v := ?_) (a' := ?_) #[true, true, true, true, true, true, true, true, false, false] rfl rfl (by kernel_rfl) (fun _ _ _ h => h) (Or.inl ⟨by rfl, ?_⟩) hHeld ?_ ?_
        rotate_left
        · rintro w' ⟨s0, s1⟩
          go_simp
          with_reducible rfl
        rotate_left
        · simp only [Act.put, List.setIfInBounds_toArray, List.set_cons_zero, List.set_cons_succ, i64_w, i32_w]
          rfl
        refine one_ (i := 8) (N := some 57) #[true, true, true, true, true, true, true, true, true, false] rfl rfl (by kernel_rfl) (by decide) (fun K hK => ?_)
        refine goes_ Try.func37 (by kernel_rfl) rfl #[.pointer (some ⟨gd, 0, none⟩)] (by rfl) rfl rfl (by simp only [List.map_toArray, List.map_cons, List.map_nil]; rfl) ?_
        with_reducible refine (Size_calls wx.drew base gd v0 v1 v2 v3 d DXd).mono ?_
        rintro e w3 ⟨rfl, rfl⟩
        refine ⟨_, rfl, ?_⟩
        refine hK.out _ _ ⟨hHeld.1, hHeld.2⟩ (fun hHeld => ?_)
        clear hK K
        refine norm_ (a' := ?_) ?_ ?_
        rotate_left
        · show Act.put _ (some 57) _ = _
          simp only [Act.put, List.setIfInBounds_toArray, List.set_cons_zero, List.set_cons_succ, i64_w, i32_w]
          rfl
        refine pure_ (i := 9) (N := some 58) (v := ?_) (a' := ?_) #[true, true, true, true, true, true, true, true, true, true] rfl rfl (by kernel_rfl) (fun _ _ _ h => h) (Or.inl ⟨by rfl, ?_⟩) ?_ ?_
        rotate_left
        · intro w'
          go_simp
          with_reducible rfl
        rotate_left
        · simp only [Act.put, List.setIfInBounds_toArray, List.set_cons_zero, List.set_cons_succ, i64_w, i32_w]
          rfl
        refine done_ (by kernel_rfl) ?_
        go_wp2
        go_ret
        rw [HFU.out.1, HFU.out.2.1, HFU.out.2.2]
        refine ⟨rfl, (.slice none 0 0), u3, v2, v3, DXd, ?_, HG.out, FX.out.drew, fun k hk => .inl hk, fun k hk => .inl hk⟩
        exact (SX.out.below (below_drew (Below.refl _ _))).okto (fun k hk _ _ => ⟨hk, HK1.out k hk⟩)
      · have k0 : wx.cell? ⟨gs, 0, none⟩ = some (.pointer (some ⟨gd, 0, none⟩)) := blk_cell SX.out.blk 0
        have k1 : wx.cell? ⟨gs, 1, none⟩ = some (.int .i64 (m.at_ + 1)) := blk_cell SX.out.blk 1
        have DXd : DV wx.drew base gd v0 v1 v2 v3 d := DX.out.below (below_drew (Below.refl _ _))
        have hfb : decide ((d.now.length : Int) ≤ (m.at_ + 1)) = false := decide_eq_false hfull
        have HS0 : Aside0 (0 ≤ (m.at_ + 1) ∧ (m.at_ + 1) < (d.now.length : Int)) := ⟨by have := HI.out.a0; constructor <;> omega⟩
        have HFU : Aside0 (apE m d b = tell (outc d) ∧ apD m d b = wrM d ((m.at_ + 1)) (padL (([] : List Int) ++ F)) ∧ apS m d b = if tell (outc d) ≠ 0 then nextM ((nextM m)) else ⟨(m.at_ + 1), ([] : List Int) ++ F, m.recs ++ [(b, (m.at_ + 1))]⟩) := ⟨by
          have hst := HSM.out
          have hf : ¬ apFull m d b := by unfold apFull; rw [hst]; exact hfull
          unfold apE apD apS wholeM putM
          rw [if_neg hf, if_neg hf, if_neg hf, hst, HFE.out]
          exact ⟨rfl, rfl, rfl⟩⟩
        clear hfull
        go_upto_region 8 with fail
        refine start_ (n := 10) (S := fun w' => w'.cell? ⟨gs, 0, none⟩ = some (.pointer (some ⟨gd, 0, none⟩)) ∧ w'.cell? ⟨gs, 1, none⟩ = some (.int .i64 (m.at_ + 1))) (ds := []) #[false, false, false, false, false, false, false, false, false, false] (by kernel_rfl) rfl rfl ⟨k0, k1⟩ (fun hHeld => ?_)
        refine pure_ (i := 0) (N := some 49) (v := ?_) (a' := ?_) #[true, false, false, false, false, false, false, false, false, false] rfl rfl (by kernel_rfl) (fun _ _ _ h => h) (Or.inl ⟨by rfl, ?_⟩) ?_ ?_
        rotate_left
        · intro w'
          go_simp
          with_reducible rfl
        rotate_left
        · simp only [Act.put, List.setIfInBounds_toArray, List.set_cons_zero, List.set_cons_succ, i64_w, i32_w]
          rfl
        refine pure_ (i := 1) (N := some 50) (v := ?_) (a' := ?_) #[true, true, false, false, false, false, false, false, false, false] rfl rfl (by kernel_rfl) (fun _ _ _ h => h) (Or.inl ⟨by rfl, ?_⟩) ?_ ?_
        rotate_left
        · intro w'
          go_simp
          with_reducible rfl
        rotate_left
        · simp only [Act.put, List.setIfInBounds_toArray, List.set_cons_zero, List.set_cons_succ, i64_w, i32_w]
          rfl
        refine pure_ (i := 2) (N := some 51) (v := ?_) (a' := ?_) #[true, true, true, false, false, false, false, false, false, false] rfl rfl (by kernel_rfl) (fun _ _ _ h => h) (Or.inl ⟨by rfl, ?_⟩) ?_ ?_
        rotate_left
        · intro w'
          go_simp
          with_reducible rfl
        rotate_left
        · simp only [Act.put, List.setIfInBounds_toArray, List.set_cons_zero, List.set_cons_succ, i64_w, i32_w]
          rfl
        refine pure_ (i := 4) (N := some 53) (v := ?_) (a' := ?_) #[true, true, true, false, true, false, false, false, false, false] rfl rfl (by kernel_rfl) (fun _ _ _ h => h) (Or.inl ⟨by rfl, ?_⟩) ?_ ?_
        rotate_left
        · intro w'
          go_simp
          with_reducible rfl
        rotate_left
        · simp only [Act.put, List.setIfInBounds_toArray, List.set_cons_zero, List.set_cons_succ, i64_w, i32_w]
          rfl
        refine pure_ (i := 5) (N := some 54) (v := ?_) (a' := ?_) #[true, true, true, false, true, true, false, false, false, false] rfl rfl (by kernel_rfl) (fun _ _ _ h => h) (Or.inl ⟨by rfl, ?_⟩) ?_ ?_
        rotate_left
        · intro w'
          go_simp
          with_reducible rfl
        rotate_left
        · simp only [Act.put, List.setIfInBounds_toArray, List.set_cons_zero, List.set_cons_succ, i64_w, i32_w]
          rfl
        refine pure_ (i := 6) (N := some 55) (v := ?_) (a' := ?_) #[true, true, true, false, true, true, true, false, false, false] rfl rfl (by kernel_rfl) (fun _ _ _ h => h) (Or.inl ⟨by rfl, ?_⟩) ?_ ?_
        rotate_left
        · intro w'
          go_simp
          with_reducible rfl
        rotate_left
        · simp only [Act.put, List.setIfInBounds_toArray, List.set_cons_zero, List.set_cons_succ, i64_w, i32_w]
          rfl
        refine take_ (i := 3) (N := some 52) (v := ?_) (a' := ?_) #[true, true, true, true, true, true, true, false, false, false] rfl rfl (by kernel_rfl) (fun _ _ _ h => h) (Or.inl ⟨by rfl, ?_⟩) hHeld ?_ ?_
        rotate_left
        · rintro w' ⟨s0, s1⟩
          go_simp
          with_reducible rfl
        rotate_left
        · simp only [Act.put, List.setIfInBounds_toArray, List.set_cons_zero, List.set_cons_succ, i64_w, i32_w]
          rfl
        refine take_ (i := 7) (N := some 56) (v := ?_) (a' := ?_) #[true, true, true, true, true, true, true, true, false, false] rfl rfl (by kernel_rfl) (fun _ _ _ h => h) (Or.inl ⟨by rfl, ?_⟩) hHeld ?_ ?_
        rotate_left
        · rintro w' ⟨s0, s1⟩
          go_simp
          with_reducible rfl
        rotate_left
        · simp only [Act.put, List.setIfInBounds_toArray, List.set_cons_zero, List.set_cons_succ, i64_w, i32_w]
          rfl
        refine one_ (i := 8) (N := some 57) #[true, true, true, true, true, true, true, true, true, false] rfl rfl (by kernel_rfl) (by decide) (fun K hK => ?_)
        refine goes_ Try.func37 (by kernel_rfl) rfl #[.pointer (some ⟨gd, 0, none⟩)] (by rfl) rfl rfl (by simp only [List.map_toArray, List.map_cons, List.map_nil]; rfl) ?_
        with_reducible refine (Size_calls wx.drew base gd v0 v1 v2 v3 d DXd).mono ?_
        rintro e w3 ⟨rfl, rfl⟩
        refine ⟨_, rfl, ?_⟩
        refine hK.out _ _ ⟨hHeld.1, hHeld.2⟩ (fun hHeld => ?_)
        clear hK K
        refine norm_ (a' := ?_) ?_ ?_
        rotate_left
        · show Act.put _ (some 57) _ = _
          simp only [Act.put, List.setIfInBounds_toArray, List.set_cons_zero, List.set_cons_succ, i64_w, i32_w]
          rfl
        refine pure_ (i := 9) (N := some 58) (v := ?_) (a' := ?_) #[true, true, true, true, true, true, true, true, true, true] rfl rfl (by kernel_rfl) (fun _ _ _ h => h) (Or.inl ⟨by rfl, ?_⟩) ?_ ?_
        rotate_left
        · intro w'
          go_simp
          with_reducible rfl
        rotate_left
        · simp only [Act.put, List.setIfInBounds_toArray, List.set_cons_zero, List.set_cons_succ, i64_w, i32_w]
          rfl
        refine done_ (by kernel_rfl) ?_
        have SY := Aside0.mk (SX.out.below (below_drew (Below.refl _ _)))
        have DY := Aside0.mk DXd
        have CFY := Aside0.mk (Kd.C_drew CFX.out)
        have CBY := Aside0.mk (Kd.C_drew CBX.out)
        have FY := Aside0.mk FX.out.drew
        have HBY : Aside0 (base ≤ wx.drew.heap.size ∧ w.heap.size ≤ wx.drew.heap.size) := ⟨Nat.le_trans HB.out FX.out.size, FX.out.size⟩
        clear DXd SX DX CFX CBX FX k0 k1
        generalize wx.drew = wy at *
        have k2 : wy.cell? ⟨gs, 2, none⟩ = some (.slice none 0 0) := blk_cell SY.out.blk 2
        have CA : Aside0 (Kd.C (Kd.int .u8) wy none (([] : List Int)).length (([] : List Int))) := ⟨(Kd.R_reads' SY.out.ahead).2.2⟩
        have hmk := hmk64
        have HSLb : Aside0 (((([] : List Int)).length + F.length) * 1 ≤ 140737488355328 ∧ (0 + (([] : List Int)).length) * 1 ≤ 140737488355328) := ⟨by have := HSL.out; constructor <;> omega⟩
        go_upto_region 12 with (first
          | ((with_reducible refine gate_builtin (b := .append) (xs := #[.const (.slice none 0 0), .tmp 62]) rfl ?_); at_builtin; go_loud (refine Kd.R_append_row (Value.int .u8) (0 : Int) (w0 := wy) wy.heap.size rfl (.const (.slice none 0 0)) (.tmp 62) 23 5 (.int .u8 0) 1 rfl Try.underlying23 infoU rfl (Nat.succ_pos _) (.slice none 0 0) [] (([] : List Int)) none (([] : List Int)).length 0 (fun _ => True) rfl rfl (fun _ _ => trivial) (Kd.R_nil _ _ _ _ _) CA.out (Below.refl _ _) (Nat.le_refl _) HSLb.out.2 ?_); intro v3a w3 hr_ hb_ hg_ _; rw [List.nil_append] at hr_; have R3 := Aside0.mk hr_; have B3 := Aside0.mk hb_; obtain ⟨A3, c3, ev⟩ := Kd.R_slice hr_; subst ev; clear hr_ hb_ hg_)
          | ((with_reducible refine gate_builtin (b := .append) (xs := #[.tmp 63, .tmp 64]) rfl ?_); at_builtin; go_loud (refine Kd.R_append_row (Value.int .u8) (0 : Int) (w0 := wy) wy.heap.size rfl (.tmp 63) (.tmp 64) 23 5 (.int .u8 0) 1 rfl Try.underlying23 infoU rfl (Nat.succ_pos _) (.slice A3 (([] : List Int)).length c3) (([] : List Int)) F Af F.length cf (fun _ => True) rfl rfl (fun _ _ => trivial) R3.out (Kd.C_below CFY.out B3.out) B3.out B3.out.size HSLb.out.1 ?_); intro v4a w4 hr_ hb_ hg_ _; have R4 := Aside0.mk hr_; have B4 := Aside0.mk hb_; clear hr_ hb_ hg_))
        clear k2 hmk
        obtain ⟨L, hL⟩ : ∃ L, ([] : List Int) ++ F = L := ⟨_, rfl⟩
        rw [hL] at R4 HFU
        have HLL : Aside0 (L.length = (([] : List Int)).length + F.length) := ⟨by rw [← hL, List.length_append]⟩
        have HLE := Aside0.mk hL
        clear hL
        have HL64 : Aside0 (8 ≤ L.length ∧ L.length ≤ 64) := ⟨by have h1 := HLL.out; have h2 := HSL.out; have h3 := HFL.out; have h4 := HN.out; constructor <;> omega⟩
        obtain ⟨g4, c4, e4, gb4, gl4, _⟩ := Kd.R_form R4.out (by have := HL64.out; omega)
        subst e4
        have HG4 := Aside0.mk (And.intro gb4 gl4)
        have X5 := Aside0.mk (blk_new w4 (.cells (encs (Value.int .u8) zero64).toArray 5))
        have B5 := Aside0.mk (Below.alloc B4.out B4.out.size (.cells (encs (Value.int .u8) zero64).toArray 5))
        have R5 := Aside0.mk (Kd.R_alloc R4.out (.cells (encs (Value.int .u8) zero64).toArray 5))
        have HGW := Aside0.mk B4.out.size
        clear gb4 gl4 R3 B3 R4 B4
        generalize w4.alloc (.cells (encs (Value.int .u8) zero64).toArray 5) = w5 at *
        obtain ⟨gW, hgW⟩ : ∃ gW, w4.heap.size = gW := ⟨_, rfl⟩
        rw [hgW] at X5 HGW HG4 ⊢
        clear hgW
        have HTH := Aside0.mk (there_blk X5.out 0 L.length (by rw [List.size_toArray, encs_length, zero64_len]; have := HL64.out; omega))
        have HSR := Aside0.mk (range_of_C (Kd.R_reads' R5.out).2.2)
        have HSRC : Aside0 (∀ j v, (encs (Value.int .u8) L)[j]? = some v → w5.cell? (Addr.add ⟨g4, 0, none⟩ j) = some v) := ⟨fun j v hv => by rw [add0]; exact HSR.out j v hv⟩
        have HMN : Aside0 ((encs (Value.int .u8) L).length = Nat.min L.length 64) := ⟨by rw [encs_length]; exact (Nat.min_eq_left HL64.out.2).symm⟩
        have HTH2 : Aside0 (w5.there gW 0 (encs (Value.int .u8) L).length) := ⟨by rw [encs_length]; exact HTH.out⟩
        go_upto_region 13 with ((with_reducible refine gate_builtin (b := .copy) (xs := #[.tmp 67, .tmp 68]) rfl ?_); go_loud (refine Kd.event_run rfl (copy_w 23 23 5 (.tmp 67) (.tmp 68) rfl gW 0 64 64 ⟨g4, 0, none⟩ L.length c4 (encs (Value.int .u8) L) rfl rfl Try.underlying23 infoS HMN.out HSRC.out HTH2.out (one_u8 L)) ?_))
        have X6 := Aside0.mk (fill_pad HL64.out.2 X5.out)
        have HPL := Aside0.mk (padL_len HL64.out.2)
        have F6 := Aside0.mk (Fr.setCells (F := fun k => k = gW) (Fr.refl w5 _) (.inl rfl) 0 (encs (Value.int .u8) L))
        have B6 := Aside0.mk (below_fr B5.out B5.out.size F6.out (fun k hk => by have := HGW.out; omega))
        have R6 : Aside0 (Kd.R (Kd.int .u8) 5 (w5.setCells gW 0 (encs (Value.int .u8) L)) wy.heap.size (fun k => k < gW ∧ wy.heap.size ≤ k) (.slice (some ⟨g4, 0, none⟩) L.length c4) L) := ⟨by
          have hlt := HG4.out.2
          have h1 : Kd.R (Kd.int .u8) 5 w5 wy.heap.size (fun k => k < gW ∧ wy.heap.size ≤ k) (.slice (some ⟨g4, 0, none⟩) L.length c4) L := Kd.R_mono (Kd.R_tight rfl R5.out) (fun k hk => by
            have hk : some k = some g4 := hk
            injection hk with hk
            have := HG4.out.1
            omega)
          exact Kd.R_kept h1 F6.out.2 (fun k hk he => by omega)⟩
        clear X5 R5 B5 HTH HSR HSRC HMN HTH2 F6
        generalize w5.setCells gW 0 (encs (Value.int .u8) L) = w6 at *
        have S6 := Aside0.mk (SY.out.below B6.out)
        have D6d : DV w6.drew base gd v0 v1 v2 v3 d := (DY.out.below B6.out).below (below_drew (Below.refl _ _))
        have BB6 : Aside0 (base ≤ w6.drew.heap.size) := ⟨Nat.le_trans HBY.out.1 B6.out.size⟩
        have FF6 := Aside0.mk (FY.out.below B6.out).drew
        have HFL6 := Aside0.mk D6d.foot_lt
        have k0 : w6.cell? ⟨gs, 0, none⟩ = some (.pointer (some ⟨gd, 0, none⟩)) := blk_cell S6.out.blk 0
        have k1 : w6.cell? ⟨gs, 1, none⟩ = some (.int .i64 (m.at_ + 1)) := blk_cell S6.out.blk 1
        refine start_ (n := 11) (S := fun w' => w'.cell? ⟨gs, 0, none⟩ = some (.pointer (some ⟨gd, 0, none⟩)) ∧ w'.cell? ⟨gs, 1, none⟩ = some (.int .i64 (m.at_ + 1))) (ds := [9]) #[false, false, false, false, false, false, false, false, false, false, false] (by kernel_rfl) rfl rfl ⟨k0, k1⟩ (fun hHeld => ?_)
        refine pure_ (i := 0) (N := some 70) (v := ?_) (a' := ?_) #[true, false, false, false, false, false, false, false, false, false, false] rfl rfl (by kernel_rfl) (fun _ _ _ h => h) (Or.inl ⟨by rfl, ?_⟩) ?_ ?_
        rotate_left
        · intro w'
          go_simp
          with_reducible rfl
        rotate_left
        · simp only [Act.put, List.setIfInBounds_toArray, List.set_cons_zero, List.set_cons_succ, i64_w, i32_w]
          rfl
        refine pure_ (i := 1) (N := some 71) (v := ?_) (a' := ?_) #[true, true, false, false, false, false, false, false, false, false, false] rfl rfl (by kernel_rfl) (fun _ _ _ h => h) (Or.inl ⟨by rfl, ?_⟩) ?_ ?_
        rotate_left
        · intro w'
          go_simp
          with_reducible rfl
        rotate_left
        · simp only [Act.put, List.setIfInBounds_toArray, List.set_cons_zero, List.set_cons_succ, i64_w, i32_w]
          rfl
        refine pure_ (i := 2) (N := some 72) (v := ?_) (a' := ?_) #[true, true, true, false, false, false, false, false, false, false, false] rfl rfl (by kernel_rfl) (fun _ _ _ h => h) (Or.inl ⟨by rfl, ?_⟩) ?_ ?_
        rotate_left
        · intro w'
          go_simp
          with_reducible rfl
        rotate_left
        · simp only [Act.put, List.setIfInBounds_toArray, List.set_cons_zero, List.set_cons_succ, i64_w, i32_w]
          rfl
        refine pure_ (i := 4) (N := some 74) (v := ?_) (a' := ?_) #[true, true, true, false, true, false, false, false, false, false, false] rfl rfl (by kernel_rfl) (fun _ _ _ h => h) (Or.inl ⟨by rfl, ?_⟩) ?_ ?_
        rotate_left
        · intro w'
          go_simp
          with_reducible rfl
        rotate_left
        · simp only [Act.put, List.setIfInBounds_toArray, List.set_cons_zero, List.set_cons_succ, i64_w, i32_w]
          rfl
        refine pure_ (i := 5) (N := some 75) (v := ?_) (a' := ?_) #[true, true, true, false, true, true, false, false, false, false, false] rfl rfl (by kernel_rfl) (fun _ _ _ h => h) (Or.inl ⟨by rfl, ?_⟩) ?_ ?_
        rotate_left
        · intro w'
          go_simp
          with_reducible rfl
        rotate_left
        · simp only [Act.put, List.setIfInBounds_toArray, List.set_cons_zero, List.set_cons_succ, i64_w, i32_w]
          rfl
        refine pure_ (i := 6) (N := some 76) (v := ?_) (a' := ?_) #[true, true, true, false, true, true, true, false, false, false, false] rfl rfl (by kernel_rfl) (fun _ _ _ h => h) (Or.inl ⟨by rfl, ?_⟩) ?_ ?_
        rotate_left
        · intro w'
          go_simp
          with_reducible rfl
        rotate_left
        · simp only [Act.put, List.setIfInBounds_toArray, List.set_cons_zero, List.set_cons_succ, i64_w, i32_w]
          rfl
        refine pure_ (i := 8) (N := some 78) (v := ?_) (a' := ?_) #[true, true, true, false, true, true, true, false, true, false, false] rfl rfl (by kernel_rfl) (fun _ _ _ h => h) (Or.inl ⟨by rfl, ?_⟩) ?_ ?_
        rotate_left
        · intro w'
          go_simp
          with_reducible rfl
        rotate_left
        · simp only [Act.put, List.setIfInBounds_toArray, List.set_cons_zero, List.set_cons_succ, i64_w, i32_w]
          rfl
        refine take_ (i := 3) (N := some 73) (v := ?_) (a' := ?_) #[true, true, true, true, true, true, true, false, true, false, false] rfl rfl (by kernel_rfl) (fun _ _ _ h => h) (Or.inl ⟨by rfl, ?_⟩) hHeld ?_ ?_
        rotate_left
        · rintro w' ⟨s0, s1⟩
          go_simp
          with_reducible rfl
        rotate_left
        · simp only [Act.put, List.setIfInBounds_toArray, List.set_cons_zero, List.set_cons_succ, i64_w, i32_w]
          rfl
        refine take_ (i := 7) (N := some 77) (v := ?_) (a' := ?_) #[true, true, true, true, true, true, true, true, true, false, false] rfl rfl (by kernel_rfl) (fun _ _ _ h => h) (Or.inl ⟨by rfl, ?_⟩) hHeld ?_ ?_
        rotate_left
        · rintro w' ⟨s0, s1⟩
          go_simp
          with_reducible rfl
        rotate_left
        · simp only [Act.put, List.setIfInBounds_toArray, List.set_cons_zero, List.set_cons_succ, i64_w, i32_w]
          rfl
        refine last_ (i := 9) (N := some 79) #[true, true, true, true, true, true, true, true, true, true, false] rfl rfl (by kernel_rfl) (by decide) (fun K hK => ?_)
        refine goes_ Try.func45 (by kernel_rfl) rfl #[.pointer (some ⟨gd, 0, none⟩), .int .i64 (m.at_ + 1), .slice (some ⟨gW, 0, none⟩) 64 64] (by rfl) rfl rfl (by simp only [List.map_toArray, List.map_cons, List.map_nil]; rfl) ?_
        with_reducible refine (Write64 w6.drew base gd v0 v1 v2 v3 d D6d HO.out.1 HO.out.2 (m.at_ + 1) HS0.out gW (padL L) HPL.out (blk_drew X6.out) BB6.out).mono ?_
        rintro e w7 ⟨rfl, v2', v3', d7, f7, ft7⟩
        refine ⟨_, rfl, ?_⟩
        have D7 := Aside0.mk d7
        have F7 := Aside0.mk f7
        have FT7 := Aside0.mk ft7
        clear d7 f7 ft7
        refine hK.out _ _ ?_
        clear hK K
        refine norm_ (a' := ?_) ?_ ?_
        rotate_left
        · show Act.put _ (some 79) _ = _
          simp only [Act.put, List.setIfInBounds_toArray, List.set_cons_zero, List.set_cons_succ, i64_w, i32_w]
          rfl
        refine pure_ (i := 10) (N := some 8) (v := ?_) (a' := ?_) #[true, true, true, true, true, true, true, true, true, true, true] rfl rfl (by kernel_rfl) (fun _ _ _ h => h) (Or.inl ⟨by rfl, ?_⟩) ?_ ?_
        rotate_left
        · intro w'
          go_simp
          with_reducible rfl
        rotate_left
        · simp only [Act.put, List.setIfInBounds_toArray, List.set_cons_zero, List.set_cons_succ, i64_w, i32_w]
          rfl
        refine done_ (by kernel_rfl) ?_
        clear k0 k1 D6d
        have K7 : Aside0 (∀ k, ((ok k ∨ w.heap.size ≤ k) ∧ k < w6.heap.size) → ¬ foot gd v0 v1 v2' v3' k) := ⟨fun k hk hf => by
          rcases FT7.out k hf with q | q
          · exact HK1.out k hk.1 q
          · have q : w6.heap.size ≤ k := q
            have := hk.2
            omega⟩
        have HLT6 := Aside0.mk (blk_lt S6.out.blk)
        have G7 : Aside0 (¬ foot gd v0 v1 v2' v3' gs) := ⟨fun hf => by
          rcases FT7.out gs hf with q | q
          · exact HG.out q
          · have q : w6.heap.size ≤ gs := q
            have := HLT6.out
            omega⟩
        have S7 : Aside0 (SV w7 base (fun k => (ok k ∨ w.heap.size ≤ k) ∧ ¬ foot gd v0 v1 v2' v3' k) gs gd ((.slice none 0 0)) u3 ((nextM m))) := ⟨by
          have h1 := (S6.out.below (below_drew (Below.refl _ _))).okto (ok' := fun k => (ok k ∨ w.heap.size ≤ k) ∧ k < w6.heap.size) (fun k q1 _ q3 => ⟨q1, q3⟩)
          exact (h1.keep F7.out (fun q hq => HK1.out q hq.1) HG.out).okto (fun k q1 _ _ => ⟨q1.1, K7.out k q1⟩)⟩
        have R7 : Aside0 (Kd.R (Kd.int .u8) 5 w7 base (fun k => (ok k ∨ w.heap.size ≤ k) ∧ ¬ foot gd v0 v1 v2' v3' k) (.slice (some ⟨g4, 0, none⟩) L.length c4) L) := ⟨by
          have hz := HBY.out
          have h1 := Kd.R_kept (Kd.R_bound (Kd.R_drew R6.out)) F7.out.2 (fun k hk hf => by
            have h2 := DY.out.foot_lt k hf
            have := hk.1.2
            omega)
          refine Kd.R_mono (Kd.R_lower h1 hz.1) (fun k hk => ⟨.inr (Nat.le_trans hz.2 hk.1.2), ?_⟩)
          exact K7.out k ⟨.inr (Nat.le_trans hz.2 hk.1.2), hk.2.2.1⟩⟩
        have FF7 := Aside0.mk (FF6.out.trans F7.out (fun k hk => .inl (.inl hk)))
        have FTT : Aside0 (∀ k, foot gd v0 v1 v2' v3' k → foot gd v0 v1 v2 v3 k ∨ w.heap.size ≤ k) := ⟨fun k hk => (FT7.out k hk).imp id (fun q => Nat.le_trans FF6.out.size q)⟩
        have CB7 : Aside0 (Kd.C (Kd.int .u8) w7 A b.length b) := ⟨Cb_kept HCW.out HOB.out FF7.out⟩
        have HZ7 : Aside0 (base ≤ w7.heap.size ∧ w.heap.size ≤ w7.heap.size) := ⟨Nat.le_trans HB.out FF7.out.size, FF7.out.size⟩
        clear S6 X6 R6 SY DY CFY CBY FY B6
        by_cases htl : tell (outc d) = 0
        · have htb : (tell (outc d) != 0) = false := by rw [htl]; rfl
          have HTL := Aside0.mk htl
          have HFU3 : Aside0 (apS m d b = ⟨(m.at_ + 1), L, m.recs ++ [(b, (m.at_ + 1))]⟩) := ⟨by rw [HFU.out.2.2, if_neg (by rw [htl]; simp)]⟩
          clear htl
          obtain ⟨A3u, c3u, e3u⟩ := Kd.R_slice S7.out.recs
          have e3u : u3 = Value.slice A3u m.recs.length c3u := e3u
          have k1 : w7.cell? ⟨gs, 1, none⟩ = some (.int .i64 (m.at_ + 1)) := blk_cell S7.out.blk 1
          have k3 : w7.cell? ⟨gs, 3, none⟩ = some (.slice A3u m.recs.length c3u) := by rw [← e3u]; exact blk_cell S7.out.blk 3
          have HE3 := Aside0.mk e3u
          clear e3u
          go_upto_region 17 with fail
          refine start_ (n := 17) (S := fun w' => w'.cell? ⟨gs, 1, none⟩ = some (.int .i64 (m.at_ + 1)) ∧ w'.cell? ⟨gs, 3, none⟩ = some (.slice A3u m.recs.length c3u)) (ds := [16]) #[false, false, false, false, false, false, false, false, false, false, false, false, false, false, false, false, false] (by kernel_rfl) rfl rfl ⟨k1, k3⟩ (fun hHeld => ?_)
          refine pure_ (i := 0) (N := some 85) (v := ?_) (a' := ?_) #[true, false, false, false, false, false, false, false, false, false, false, false, false, false, false, false, false] rfl rfl (by kernel_rfl) (fun _ _ _ h => h) (Or.inl ⟨by rfl, ?_⟩) ?_ ?_
          rotate_left
          · intro w'
            go_simp
            with_reducible rfl
          rotate_left
          · simp only [Act.put, List.setIfInBounds_toArray, List.set_cons_zero, List.set_cons_succ, i64_w, i32_w]
            rfl
          refine pure_ (i := 1) (N := some 86) (v := ?_) (a' := ?_) #[true, true, false, false, false, false, false, false, false, false, false, false, false, false, false, false, false] rfl rfl (by kernel_rfl) (fun _ _ _ h => h) (Or.inl ⟨by rfl, ?_⟩) ?_ ?_
          rotate_left
          · intro w'
            go_simp
            with_reducible rfl
          rotate_left
          · simp only [Act.put, List.setIfInBounds_toArray, List.set_cons_zero, List.set_cons_succ, i64_w, i32_w]
            rfl
          refine pure_ (i := 2) (N := some 87) (v := ?_) (a' := ?_) #[true, true, true, false, false, false, false, false, false, false, false, false, false, false, false, false, false] rfl rfl (by kernel_rfl) (fun _ _ _ h => h) (Or.inl ⟨by rfl, ?_⟩) ?_ ?_
          rotate_left
          · intro w'
            go_simp
            with_reducible rfl
          rotate_left
          · simp only [Act.put, List.setIfInBounds_toArray, List.set_cons_zero, List.set_cons_succ, i64_w, i32_w]
            rfl
          refine pure_ (i := 3) (N := some 88) (v := ?_) (a' := ?_) #[true, true, true, true, false, false, false, false, false, false, false, false, false, false, false, false, false] rfl rfl (by kernel_rfl) (fun _ _ _ h => h) (Or.inl ⟨by rfl, ?_⟩) ?_ ?_
          rotate_left
          · intro w'
            go_simp
            with_reducible rfl
          rotate_left
          · simp only [Act.put, List.setIfInBounds_toArray, List.set_cons_zero, List.set_cons_succ, i64_w, i32_w]
            rfl
          refine pure_ (i := 5) (N := some 90) (v := ?_) (a' := ?_) #[true, true, true, true, false, true, false, false, false, false, false, false, false, false, false, false, false] rfl rfl (by kernel_rfl) (fun _ _ _ h => h) (Or.inl ⟨by rfl, ?_⟩) ?_ ?_
          rotate_left
          · intro w'
            go_simp
            with_reducible rfl
          rotate_left
          · simp only [Act.put, List.setIfInBounds_toArray, List.set_cons_zero, List.set_cons_succ, i64_w, i32_w]
            rfl
          refine pure_ (i := 7) (N := some 92) (v := ?_) (a' := ?_) #[true, true, true, true, false, true, false, true, false, false, false, false, false, false, false, false, false] rfl rfl (by kernel_rfl) (fun _ _ _ h => h) (Or.inl ⟨by rfl, ?_⟩) ?_ ?_
          rotate_left
          · intro w'
            go_simp
            with_reducible rfl
          rotate_left
          · simp only [Act.put, List.setIfInBounds_toArray, List.set_cons_zero, List.set_cons_succ, i64_w, i32_w]
            rfl
          refine pure_ (i := 8) (N := some 93) (v := ?_) (a' := ?_) #[true, true, true, true, false, true, false, true, true, false, false, false, false, false, false, false, false] rfl rfl (by kernel_rfl) (fun _ _ _ h => h) (Or.inl ⟨by rfl, ?_⟩) ?_ ?_
          rotate_left
          · intro w'
            go_simp
            with_reducible rfl
          rotate_left
          · simp only [Act.put, List.setIfInBounds_toArray, List.set_cons_zero, List.set_cons_succ, i64_w, i32_w]
            rfl
          refine pure_ (i := 9) (N := some 94) (v := ?_) (a' := ?_) #[true, true, true, true, false, true, false, true, true, true, false, false, false, false, false, false, false] rfl rfl (by kernel_rfl) (fun _ _ _ h => h) (Or.inl ⟨by rfl, ?_⟩) ?_ ?_
          rotate_left
          · intro w'
            go_simp
            with_reducible rfl
          rotate_left
          · simp only [Act.put, List.setIfInBounds_toArray, List.set_cons_zero, List.set_cons_succ, i64_w, i32_w]
            rfl
          refine take_ (i := 4) (N := some 89) (v := ?_) (a' := ?_) #[true, true, true, true, true, true, false, true, true, true, false, false, false, false, false, false, false] rfl rfl (by kernel_rfl) (fun _ _ _ h => h) (Or.inl ⟨by rfl, ?_⟩) hHeld ?_ ?_
          rotate_left
          · rintro w' ⟨s0, s1⟩
            go_simp
            with_reducible rfl
          rotate_left
          · simp only [Act.put, List.setIfInBounds_toArray, List.set_cons_zero, List.set_cons_succ, i64_w, i32_w]
            rfl
          refine take_ (i := 10) (N := some 95) (v := ?_) (a' := ?_) #[true, true, true, true, true, true, false, true, true, true, true, false, false, false, false, false, false] rfl rfl (by kernel_rfl) (fun _ _ _ h => h) (Or.inl ⟨by rfl, ?_⟩) hHeld ?_ ?_
          rotate_left
          · rintro w' ⟨s0, s1⟩
            go_simp
            with_reducible rfl
          rotate_left
          · simp only [Act.put, List.setIfInBounds_toArray, List.set_cons_zero, List.set_cons_succ, i64_w, i32_w]
            rfl
          refine one_ (i := 6) (N := some 91) #[true, true, true, true, true, true, true, true, true, true, true, false, false, false, false, false, false] rfl rfl (by kernel_rfl) (by decide) (fun K hK => ?_)
          refine Kd.R_append_rows_step (Kd.int .u8) (Rr := (Kd.int .u8).K w7.drew) (w0 := w7.drew) w7.heap.size (by rfl) _ (.tmp 90) 23 5 (.int .u8 0) 1 rfl Try.underlying23 infoU rfl (by decide) (by decide) (.slice none 0 0) [] b A b.length c (fun _ => True) (fun _ => False) rfl rfl (Kd.R_nil _ _ _ _ _) (Kd.C_drew CB7.out) (fun _ _ h => h) (fun _ hk => hk.elim) (fun _ _ => trivial) (Below.refl _ _) (Nat.le_refl _) (by have := HN.out; simp; omega) ?_
          intro v91 wa hra hba hga _
          rw [List.nil_append] at hra
          obtain ⟨A91, c91, e91⟩ := Kd.R_slice hra
          subst e91
          have BDa := Aside0.mk (below_step (below_drew (Below.refl w7.heap.size w7)) hba)
          have Sa := Aside0.mk (S7.out.below BDa.out)
          have Ra : Aside0 (Kd.R (Kd.int .u8) 5 wa base (fun k => w7.heap.size ≤ k ∧ some k ≠ u3.ownBlock) (.slice A91 b.length c91) b) := ⟨Kd.R_mono (Kd.R_lower (Kd.R_newR (W := w7.drew) (Kd.R_bound hra) (Kd.R_drew S7.out.recs)) HZ7.out.1) (fun k hk => ⟨hk.1.2.1, hk.2⟩)⟩
          have ca1 : wa.cell? ⟨gs, 1, none⟩ = some (.int .i64 (m.at_ + 1)) := blk_cell Sa.out.blk 1
          have ca3 : wa.cell? ⟨gs, 3, none⟩ = some (.slice A3u m.recs.length c3u) := by rw [← HE3.out]; exact blk_cell Sa.out.blk 3
          clear hra hba hga
          refine hK.out _ _ ⟨ca1, ca3⟩ (fun hHeld => ?_)
          clear hK K
          refine norm_ (a' := ?_) ?_ ?_
          rotate_left
          · show Act.put _ (some 91) _ = _
            simp only [Act.put, List.setIfInBounds_toArray, List.set_cons_zero, List.set_cons_succ, i64_w, i32_w]
            rfl
          refine pure_ (i := 11) (N := some 96) (v := ?_) (a' := ?_) #[true, true, true, true, true, true, true, true, true, true, true, true, false, false, false, false, false] rfl rfl (by kernel_rfl) (fun _ _ _ h => h) (Or.inl ⟨by rfl, ?_⟩) ?_ ?_
          rotate_left
          · intro w'
            go_simp
            with_reducible rfl
          rotate_left
          · simp only [Act.put, List.setIfInBounds_toArray, List.set_cons_zero, List.set_cons_succ, i64_w, i32_w]
            rfl
          refine one_ (i := 12) (N := some 97) #[true, true, true, true, true, true, true, true, true, true, true, true, true, false, false, false, false] rfl rfl (by kernel_rfl) (by decide) (fun K hK => ?_)
          refine value_ (w1 := ?_) (v := ?_) (by rfl) rfl ?_ ?_
          rotate_left 2
          · go_simp
            constructor
            · rfl
            · rfl
          refine hK.out _ _ ⟨(cell_alloc_old hHeld.1 _), (cell_alloc_old hHeld.2 _)⟩ (fun hHeld => ?_)
          clear hK K
          refine norm_ (a' := ?_) ?_ ?_
          rotate_left
          · show Act.put _ (some 97) _ = _
            simp only [Act.put, List.setIfInBounds_toArray, List.set_cons_zero, List.set_cons_succ, i64_w, i32_w]
            rfl
          refine one_ (i := 13) (N := some 98) #[true, true, true, true, true, true, true, true, true, true, true, true, true, true, false, false, false] rfl rfl (by kernel_rfl) (by decide) (fun K hK => ?_)
          have HSa : Kd.R kRec 81 wa base (fun k => (ok k ∨ w.heap.size ≤ k) ∧ ¬ foot gd v0 v1 v2' v3' k) (.slice A3u m.recs.length c3u) m.recs := by rw [← HE3.out]; exact Sa.out.recs
          refine Kd.R_append_step kRec (w0 := wa) base (by rfl) (.tmp 89) (.tmp 97) 75 81 (.agg #[.slice none 0 0, .int .i64 0]) 32 rfl Try.underlying75 infoRec rfl (by decide) (by decide) (.slice A3u m.recs.length c3u) m.recs (b, (m.at_ + 1)) [.slice A91 b.length c91, .int .i64 (m.at_ + 1)] (fun k => (ok k ∨ w.heap.size ≤ k) ∧ ¬ foot gd v0 v1 v2' v3' k) (fun k => w7.heap.size ≤ k ∧ some k ≠ u3.ownBlock) rfl rfl (kRec_M Ra.out) (fun k hk => ⟨⟨.inr (Nat.le_trans HZ7.out.2 hk.1), fun hf => by have h1 := D7.out.foot_lt k hf; have h2 := hk.1; omega⟩, by rw [← HE3.out]; exact hk.2⟩) (fun k hk => ⟨.inr (Nat.le_trans HZ7.out.2 (Nat.le_trans BDa.out.size hk)), fun hf => by have h1 := D7.out.foot_lt k hf; have h2 := BDa.out.size; omega⟩) HSa (Below.refl _ _) (Nat.le_trans HZ7.out.1 BDa.out.size) HAL.out ?_
          intro v98 w9 hr1 hb1 hg1 hat1
          have hg1' : wa.grownBy w9 u3.ownBlock := by rw [HE3.out]; exact hg1
          have P1 := Aside0.mk (Sa.out.push hr1 hg1')
          have X9 : Aside0 (w9.heap[gs]? = some (.cells #[.pointer (some ⟨gd, 0, none⟩), .int .i64 ((m.at_ + 1)), (.slice none 0 0), u3] 77 (0, 0))) := ⟨(hg1'.block gs (blk_lt Sa.out.blk) (fun he => Kd.R_ne Sa.out.recs Sa.out.blk (by decide) he)).trans Sa.out.blk⟩
          have RL9 := Aside0.mk (Kd.R_over (Kd.R_below R7.out BDa.out) Sa.out.recs (fun q hq => (tyU q hq).2) hg1')
          have BD9 := BDa
          have HAT9 := Aside0.mk hat1
          have FW9 := Aside0.mk (FF7.out.below BDa.out)
          have HZ9 : Aside0 (w.heap.size ≤ wa.heap.size) := ⟨Nat.le_trans HZ7.out.2 BDa.out.size⟩
          obtain ⟨A98, c98, e98⟩ := Kd.R_slice hr1
          obtain ⟨n98, hn98⟩ : ∃ n98, n98 = (m.recs ++ [(b, (m.at_ + 1))]).length := ⟨_, rfl⟩
          rw [← hn98] at e98
          subst e98
          have c9 : w9.cell? ⟨gs, 1, none⟩ = some (.int .i64 (m.at_ + 1)) := blk_cell X9.out 1
          have c93 : w9.cell? ⟨gs, 3, none⟩ = some (.slice A3u m.recs.length c3u) := by rw [← HE3.out]; exact blk_cell X9.out 3
          have fz3 : w9.frozen? ⟨gs, 3, none⟩ = false := blk_frozen X9.out 3
          have fz2 : w9.frozen? ⟨gs, 2, none⟩ = false := blk_frozen X9.out 2
          have c92 : w9.cell? ⟨gs, 2, none⟩ = some ((.slice none 0 0)) := blk_cell X9.out 2
          clear hr1 hb1 hg1 hg1' hat1 hn98 HSa
          refine hK.out _ _ ⟨c9, c93⟩ (fun hHeld => ?_)
          clear hK K
          refine norm_ (a' := ?_) ?_ ?_
          rotate_left
          · show Act.put _ (some 98) _ = _
            simp only [Act.put, List.setIfInBounds_toArray, List.set_cons_zero, List.set_cons_succ, i64_w, i32_w]
            rfl
          refine pure_ (i := 14) (N := some 99) (v := ?_) (a' := ?_) #[true, true, true, true, true, true, true, true, true, true, true, true, true, true, true, false, false] rfl rfl (by kernel_rfl) (fun _ _ _ h => h) (Or.inl ⟨by rfl, ?_⟩) ?_ ?_
          rotate_left
          · intro w'
            go_simp
            with_reducible rfl
          rotate_left
          · simp only [Act.put, List.setIfInBounds_toArray, List.set_cons_zero, List.set_cons_succ, i64_w, i32_w]
            rfl
          refine pure_ (i := 15) (N := some 100) (v := ?_) (a' := ?_) #[true, true, true, true, true, true, true, true, true, true, true, true, true, true, true, true, false] rfl rfl (by kernel_rfl) (fun _ _ _ h => h) (Or.inl ⟨by rfl, ?_⟩) ?_ ?_
          rotate_left
          · intro w'
            go_simp
            with_reducible rfl
          rotate_left
          · simp only [Act.put, List.setIfInBounds_toArray, List.set_cons_zero, List.set_cons_succ, i64_w, i32_w]
            rfl
          refine last_ (i := 16) (N := none) #[true, true, true, true, true, true, true, true, true, true, true, true, true, true, true, true, true] rfl rfl (by kernel_rfl) (by decide) (fun K hK => ?_)
          refine skip_ (w1 := ?_) (by rfl) rfl ?_ ?_
          rotate_left
          · go_simp
            rfl
          refine hK.out _ _ ?_
          clear hK K
          refine done_ (by kernel_rfl) ?_
          go_wp2
          go_ret
          rw [HFU.out.1, HTL.out, HFU.out.2.1, HFU3.out]
          obtain ⟨s9, f9⟩ := P1.out
          have hL9 : Kd.R (Kd.int .u8) 5 _ base _ _ L := Kd.R_set RL9.out X9.out (fun q hq => (tyU q hq).1) 3 (.slice A98 n98 c98)
          obtain ⟨s10, f10⟩ := s9.ahd hL9
          have f := (f9.trans f10 (fun k hk => .inl (.inl hk)))
          have fw := FW9.out.trans f (fun k hk => .inl (.inr hk))
          refine ⟨rfl, _, _, v2', v3', ⟨(D7.out.below BD9.out).keep f ?_, s10, G7.out, fw, FTT.out, ?_⟩⟩
          · rintro q hq (he | he)
            · exact G7.out (he ▸ hq)
            · exact (S7.out.recs.1 q he).2 hq
          · intro k hk
            rcases HAT9.out with he | ⟨q, hq, hle⟩
            · exact .inl (by unfold own at hk ⊢; rw [HE3.out, ← he]; exact hk)
            · refine .inr ?_
              unfold own at hk
              rw [hq] at hk
              injection hk with hk
              have := HZ9.out
              omega
        · have htb : (tell (outc d) != 0) = true := bne_iff_ne.mpr htl
          have HFU3 : Aside0 (apS m d b = nextM ((nextM m))) := ⟨by rw [HFU.out.2.2, if_pos htl]⟩
          clear htl
          have HAN : Aside0 (0 ≤ (m.at_ + 1) ∧ (m.at_ + 1) ≤ 1000000) := ⟨by have h1 := HS0.out; have h2 := HNN.out; constructor <;> omega⟩
          go_wp2_with fail
          refine (Snext_calls w7 base gs gd _ _ u3 _ S7.out HAN.out).mono ?_
          rintro e w8 ⟨rfl, s8, f8⟩
          have S8 := Aside0.mk s8
          have F8 := Aside0.mk f8
          clear s8 f8
          go_wp2
          go_ret
          rw [HFU.out.1, HFU.out.2.1, HFU3.out]
          exact ⟨rfl, _, u3, v2', v3', ⟨D7.out.keep F8.out (fun q hq he => G7.out (he ▸ hq)), S8.out, G7.out, FF7.out.trans F8.out (fun k hk => .inl (.inr (.inl hk))), FTT.out, fun k hk => .inl hk⟩⟩
    · have hgtb := decide_eq_false hgt
      have HSM : Aside0 (stM m d b = m) := ⟨by unfold stM stepM; rw [if_neg (by have := HFL.out; omega)]⟩
      have HSL : Aside0 (m.ahead.length + F.length ≤ 64) := ⟨by omega⟩
      go_upto_region 6 with fail
      have hsum : wrap64 ((m.ahead.length : Int) + (F.length : Int)) = (m.ahead.length : Int) + (F.length : Int) := by unfold wrap64; omega
      refine start_ (n := 21) (S := fun w' => w'.cell? ⟨gs, 0, none⟩ = some (.pointer (some ⟨gd, 0, none⟩)) ∧ w'.cell? ⟨gs, 1, none⟩ = some (.int .i64 m.at_) ∧ w'.cell? ⟨gs, 2, none⟩ = some (.slice A2 m.ahead.length c2)) (ds := []) #[false, false, false, false, false, false, false, false, false, false, false, false, false, false, false, false, false, false, false, false, false] (by kernel_rfl) rfl rfl ⟨k0, k1, k2⟩ (fun hHeld => ?_)
      refine pure_ (i := 0) (N := some 26) (v := ?_) (a' := ?_) #[true, false, false, false, false, false, false, false, false, false, false, false, false, false, false, false, false, false, false, false, false] rfl rfl (by kernel_rfl) (fun _ _ _ h => h) (Or.inl ⟨by rfl, ?_⟩) ?_ ?_
      rotate_left
      · intro w'
        go_simp
        with_reducible rfl
      rotate_left
      · simp only [Act.put, List.setIfInBounds_toArray, List.set_cons_zero, List.set_cons_succ, i64_w, i32_w]
        rfl
      refine pure_ (i := 1) (N := some 27) (v := ?_) (a' := ?_) #[true, true, false, false, false, false, false, false, false, false, false, false, false, false, false, false, false, false, false, false, false] rfl rfl (by kernel_rfl) (fun _ _ _ h => h) (Or.inl ⟨by rfl, ?_⟩) ?_ ?_
      rotate_left
      · intro w'
        go_simp
        with_reducible rfl
      rotate_left
      · simp only [Act.put, List.setIfInBounds_toArray, List.set_cons_zero, List.set_cons_succ, i64_w, i32_w]
        rfl
      refine pure_ (i := 2) (N := some 28) (v := ?_) (a' := ?_) #[true, true, true, false, false, false, false, false, false, false, false, false, false, false, false, false, false, false, false, false, false] rfl rfl (by kernel_rfl) (fun _ _ _ h => h) (Or.inl ⟨by rfl, ?_⟩) ?_ ?_
      rotate_left
      · intro w'
        go_simp
        with_reducible rfl
      rotate_left
      · simp only [Act.put, List.setIfInBounds_toArray, List.set_cons_zero, List.set_cons_succ, i64_w, i32_w]
        rfl
      refine pure_ (i := 4) (N := some 30) (v := ?_) (a' := ?_) #[true, true, true, false, true, false, false, false, false, false, false, false, false, false, false, false, false, false, false, false, false] rfl rfl (by kernel_rfl) (fun _ _ _ h => h) (Or.inl ⟨by rfl, ?_⟩) ?_ ?_
      rotate_left
      · intro w'
        go_simp
        with_reducible rfl
      rotate_left
      · simp only [Act.put, List.setIfInBounds_toArray, List.set_cons_zero, List.set_cons_succ, i64_w, i32_w]
        rfl
      refine pure_ (i := 5) (N := some 31) (v := ?_) (a' := ?_) #[true, true, true, false, true, true, false, false, false, false, false, false, false, false, false, false, false, false, false, false, false] rfl rfl (by kernel_rfl) (fun _ _ _ h => h) (Or.inl ⟨by rfl, ?_⟩) ?_ ?_
      rotate_left
      · intro w'
        go_simp
        with_reducible rfl
      rotate_left
      · simp only [Act.put, List.setIfInBounds_toArray, List.set_cons_zero, List.set_cons_succ, i64_w, i32_w]
        rfl
      refine pure_ (i := 6) (N := some 32) (v := ?_) (a' := ?_) #[true, true, true, false, true, true, true, false, false, false, false, false, false, false, false, false, false, false, false, false, false] rfl rfl (by kernel_rfl) (fun _ _ _ h => h) (Or.inl ⟨by rfl, ?_⟩) ?_ ?_
      rotate_left
      · intro w'
        go_simp
        with_reducible rfl
      rotate_left
      · simp only [Act.put, List.setIfInBounds_toArray, List.set_cons_zero, List.set_cons_succ, i64_w, i32_w]
        rfl
      refine take_ (i := 3) (N := some 29) (v := ?_) (a' := ?_) #[true, true, true, true, true, true, true, false, false, false, false, false, false, false, false, false, false, false, false, false, false] rfl rfl (by kernel_rfl) (fun _ _ _ h => h) (Or.inl ⟨by rfl, ?_⟩) hHeld ?_ ?_
      rotate_left
      · rintro w' ⟨s0, s1, s2⟩
        go_simp
        with_reducible rfl
      rotate_left
      · simp only [Act.put, List.setIfInBounds_toArray, List.set_cons_zero, List.set_cons_succ, i64_w, i32_w]
        rfl
      refine take_ (i := 7) (N := some 33) (v := ?_) (a' := ?_) #[true, true, true, true, true, true, true, true, false, false, false, false, false, false, false, false, false, false, false, false, false] rfl rfl (by kernel_rfl) (fun _ _ _ h => h) (Or.inl ⟨by rfl, ?_⟩) hHeld ?_ ?_
      rotate_left
      · rintro w' ⟨s0, s1, s2⟩
        go_simp
        with_reducible rfl
      rotate_left
      · simp only [Act.put, List.setIfInBounds_toArray, List.set_cons_zero, List.set_cons_succ, i64_w, i32_w]
        rfl
      refine one_ (i := 8) (N := some 34) #[true, true, true, true, true, true, true, true, true, false, false, false, false, false, false, false, false, false, false, false, false] rfl rfl (by kernel_rfl) (by decide) (fun K hK => ?_)
      refine goes_ Try.func37 (by kernel_rfl) rfl #[.pointer (some ⟨gd, 0, none⟩)] (by rfl) rfl rfl (by simp only [List.map_toArray, List.map_cons, List.map_nil]; rfl) ?_
      with_reducible refine (Size_calls w1.drew base gd v0 v1 v2 v3 d D1d).mono ?_
      rintro e w3 ⟨rfl, rfl⟩
      refine ⟨_, rfl, ?_⟩
      refine hK.out _ _ ⟨hHeld.1, hHeld.2.1, hHeld.2.2⟩ (fun hHeld => ?_)
      clear hK K
      refine norm_ (a' := ?_) ?_ ?_
      rotate_left
      · show Act.put _ (some 34) _ = _
        simp only [Act.put, List.setIfInBounds_toArray, List.set_cons_zero, List.set_cons_succ, i64_w, i32_w]
        rfl
      refine pure_ (i := 9) (N := some 35) (v := ?_) (a' := ?_) #[true, true, true, true, true, true, true, true, true, true, false, false, false, false, false, false, false, false, false, false, false] rfl rfl (by kernel_rfl) (fun _ _ _ h => h) (Or.inl ⟨by rfl, ?_⟩) ?_ ?_
      rotate_left
      · intro w'
        go_simp
        with_reducible rfl
      rotate_left
      · simp only [Act.put, List.setIfInBounds_toArray, List.set_cons_zero, List.set_cons_succ, i64_w, i32_w]
        rfl
      refine pure_ (i := 10) (N := some 36) (v := ?_) (a' := ?_) #[true, true, true, true, true, true, true, true, true, true, true, false, false, false, false, false, false, false, false, false, false] rfl rfl (by kernel_rfl) (fun _ _ _ h => h) (Or.inl ⟨by rfl, ?_⟩) ?_ ?_
      rotate_left
      · intro w'
        go_simp
        with_reducible rfl
      rotate_left
      · simp only [Act.put, List.setIfInBounds_toArray, List.set_cons_zero, List.set_cons_succ, i64_w, i32_w]
        rfl
      refine pure_ (i := 11) (N := some 37) (v := ?_) (a' := ?_) #[true, true, true, true, true, true, true, true, true, true, true, true, false, false, false, false, false, false, false, false, false] rfl rfl (by kernel_rfl) (fun _ _ _ h => h) (Or.inl ⟨by rfl, ?_⟩) ?_ ?_
      rotate_left
      · intro w'
        go_simp
        with_reducible rfl
      rotate_left
      · simp only [Act.put, List.setIfInBounds_toArray, List.set_cons_zero, List.set_cons_succ, i64_w, i32_w]
        rfl
      refine pure_ (i := 12) (N := some 38) (v := ?_) (a' := ?_) #[true, true, true, true, true, true, true, true, true, true, true, true, true, false, false, false, false, false, false, false, false] rfl rfl (by kernel_rfl) (fun _ _ _ h => h) (Or.inl ⟨by rfl, ?_⟩) ?_ ?_
      rotate_left
      · intro w'
        go_simp
        with_reducible rfl
      rotate_left
      · simp only [Act.put, List.setIfInBounds_toArray, List.set_cons_zero, List.set_cons_succ, i64_w, i32_w]
        rfl
      refine pure_ (i := 13) (N := some 39) (v := ?_) (a' := ?_) #[true, true, true, true, true, true, true, true, true, true, true, true, true, true, false, false, false, false, false, false, false] rfl rfl (by kernel_rfl) (fun _ _ _ h => h) (Or.inl ⟨by rfl, ?_⟩) ?_ ?_
      rotate_left
      · intro w'
        go_simp
        with_reducible rfl
      rotate_left
      · simp only [Act.put, List.setIfInBounds_toArray, List.set_cons_zero, List.set_cons_succ, i64_w, i32_w]
        rfl
      refine pure_ (i := 16) (N := some 42) (v := ?_) (a' := ?_) #[true, true, true, true, true, true, true, true, true, true, true, true, true, true, false, false, true, false, false, false, false] rfl rfl (by kernel_rfl) (fun _ _ _ h => h) (Or.inl ⟨by rfl, ?_⟩) ?_ ?_
      rotate_left
      · intro w'
        go_simp
        with_reducible rfl
      rotate_left
      · simp only [Act.put, List.setIfInBounds_toArray, List.set_cons_zero, List.set_cons_succ, i64_w, i32_w]
        rfl
      refine pure_ (i := 17) (N := some 43) (v := ?_) (a' := ?_) #[true, true, true, true, true, true, true, true, true, true, true, true, true, true, false, false, true, true, false, false, false] rfl rfl (by kernel_rfl) (fun _ _ _ h => h) (Or.inl ⟨by rfl, ?_⟩) ?_ ?_
      rotate_left
      · intro w'
        go_simp
        with_reducible rfl
      rotate_left
      · simp only [Act.put, List.setIfInBounds_toArray, List.set_cons_zero, List.set_cons_succ, i64_w, i32_w]
        rfl
      refine take_ (i := 14) (N := some 40) (v := ?_) (a' := ?_) #[true, true, true, true, true, true, true, true, true, true, true, true, true, true, true, false, true, true, false, false, false] rfl rfl (by kernel_rfl) (fun _ _ _ h => h) (Or.inl ⟨by rfl, ?_⟩) hHeld ?_ ?_
      rotate_left
      · rintro w' ⟨s0, s1, s2⟩
        go_simp
        with_reducible rfl
      rotate_left
      · simp only [Act.put, List.setIfInBounds_toArray, List.set_cons_zero, List.set_cons_succ, i64_w, i32_w]
        rfl
      refine pure_ (i := 15) (N := some 41) (v := ?_) (a' := ?_) #[true, true, true, true, true, true, true, true, true, true, true, true, true, true, true, true, true, true, false, false, false] rfl rfl (by kernel_rfl) (fun _ _ _ h => h) (Or.inl ⟨by rfl, ?_⟩) ?_ ?_
      rotate_left
      · intro w'
        go_simp
        with_reducible rfl
      rotate_left
      · simp only [Act.put, List.setIfInBounds_toArray, List.set_cons_zero, List.set_cons_succ, i64_w, i32_w]
        rfl
      refine pure_ (i := 18) (N := some 44) (v := ?_) (a' := ?_) #[true, true, true, true, true, true, true, true, true, true, true, true, true, true, true, true, true, true, true, false, false] rfl rfl (by kernel_rfl) (fun _ _ _ h => h) (Or.inl ⟨by rfl, ?_⟩) ?_ ?_
      rotate_left
      · intro w'
        go_simp
        with_reducible rfl
      rotate_left
      · simp only [Act.put, List.setIfInBounds_toArray, List.set_cons_zero, List.set_cons_succ, i64_w, i32_w]
        rfl
      refine pure_ (i := 19) (N := some 45) (v := ?_) (a' := ?_) #[true, true, true, true, true, true, true, true, true, true, true, true, true, true, true, true, true, true, true, true, false] rfl rfl (by kernel_rfl) (fun _ _ _ h => h) (Or.inl ⟨by rfl, ?_⟩) ?_ ?_
      rotate_left
      · intro w'
        go_simp
        with_reducible rfl
      rotate_left
      · simp only [Act.put, List.setIfInBounds_toArray, List.set_cons_zero, List.set_cons_succ, i64_w, i32_w]
        rfl
      refine pure_ (i := 20) (N := some 46) (v := ?_) (a' := ?_) #[true, true, true, true, true, true, true, true, true, true, true, true, true, true, true, true, true, true, true, true, true] rfl rfl (by kernel_rfl) (fun _ _ _ h => h) (Or.inl ⟨by rfl, ?_⟩) ?_ ?_
      rotate_left
      · intro w'
        go_simp
        with_reducible rfl
      rotate_left
      · simp only [Act.put, List.setIfInBounds_toArray, List.set_cons_zero, List.set_cons_succ, i64_w, i32_w]
        rfl
      refine done_ (by kernel_rfl) ?_
      clear hsum
      have SX := Aside0.mk (S1.out.below (below_drew (Below.refl _ _)))
      have DX := Aside0.mk (D1.out.below (below_drew (Below.refl _ _)))
      have CFX := Aside0.mk (Kd.C_drew CF1.out)
      have CBX := Aside0.mk (Kd.C_drew CB1.out)
      have FX := Aside0.mk F1.out.drew
      clear S1 D1 CF1 CB1 F1 k0 k1 k2 D1d
      generalize w1.drew = wx at *
      have hfull : ¬ (d.now.length : Int) ≤ m.at_ := by omega
      clear hat hatb hgt hgtb
      have k0 : wx.cell? ⟨gs, 0, none⟩ = some (.pointer (some ⟨gd, 0, none⟩)) := blk_cell SX.out.blk 0
      have k1 : wx.cell? ⟨gs, 1, none⟩ = some (.int .i64 m.at_) := blk_cell SX.out.blk 1
      have DXd : DV wx.drew base gd v0 v1 v2 v3 d := DX.out.below (below_drew (Below.refl _ _))
      have hfb : decide ((d.now.length : Int) ≤ m.at_) = false := decide_eq_false hfull
      have HS0 : Aside0 (0 ≤ m.at_ ∧ m.at_ < (d.now.length : Int)) := ⟨by have := HI.out.a0; constructor <;> omega⟩
      have HFU : Aside0 (apE m d b = tell (outc d) ∧ apD m d b = wrM d (m.at_) (padL (m.ahead ++ F)) ∧ apS m d b = if tell (outc d) ≠ 0 then nextM (m) else ⟨m.at_, m.ahead ++ F, m.recs ++ [(b, m.at_)]⟩) := ⟨by
        have hst := HSM.out
        have hf : ¬ apFull m d b := by unfold apFull; rw [hst]; exact hfull
        unfold apE apD apS wholeM putM
        rw [if_neg hf, if_neg hf, if_neg hf, hst, HFE.out]
        exact ⟨rfl, rfl, rfl⟩⟩
      clear hfull
      go_upto_region 8 with fail
      refine start_ (n := 10) (S := fun w' => w'.cell? ⟨gs, 0, none⟩ = some (.pointer (some ⟨gd, 0, none⟩)) ∧ w'.cell? ⟨gs, 1, none⟩ = some (.int .i64 m.at_)) (ds := []) #[false, false, false, false, false, false, false, false, false, false] (by kernel_rfl) rfl rfl ⟨k0, k1⟩ (fun hHeld => ?_)
      refine pure_ (i := 0) (N := some 49) (v := ?_) (a' := ?_) #[true, false, false, false, false, false, false, false, false, false] rfl rfl (by kernel_rfl) (fun _ _ _ h => h) (Or.inl ⟨by rfl, ?_⟩) ?_ ?_
      rotate_left
      · intro w'
        go_simp
        with_reducible rfl
      rotate_left
      · simp only [Act.put, List.setIfInBounds_toArray, List.set_cons_zero, List.set_cons_succ, i64_w, i32_w]
        rfl
      refine pure_ (i := 1) (N := some 50) (v := ?_) (a' := ?_) #[true, true, false, false, false, false, false, false, false, false] rfl rfl (by kernel_rfl) (fun _ _ _ h => h) (Or.inl ⟨by rfl, ?_⟩) ?_ ?_
      rotate_left
      · intro w'
        go_simp
        with_reducible rfl
      rotate_left
      · simp only [Act.put, List.setIfInBounds_toArray, List.set_cons_zero, List.set_cons_succ, i64_w, i32_w]
        rfl
      refine pure_ (i := 2) (N := some 51) (v := ?_) (a' := ?_) #[true, true, true, false, false, false, false, false, false, false] rfl rfl (by kernel_rfl) (fun _ _ _ h => h) (Or.inl ⟨by rfl, ?_⟩) ?_ ?_
      rotate_left
      · intro w'
        go_simp
        with_reducible rfl
      rotate_left
      · simp only [Act.put, List.setIfInBounds_toArray, List.set_cons_zero, List.set_cons_succ, i64_w, i32_w]
        rfl
      refine pure_ (i := 4) (N := some 53) (v := ?_) (a' := ?_) #[true, true, true, false, true, false, false, false, false, false] rfl rfl (by kernel_rfl) (fun _ _ _ h => h) (Or.inl ⟨by rfl, ?_⟩) ?_ ?_
      rotate_left
      · intro w'
        go_simp
        with_reducible rfl
      rotate_left
      · simp only [Act.put, List.setIfInBounds_toArray, List.set_cons_zero, List.set_cons_succ, i64_w, i32_w]
        rfl
      refine pure_ (i := 5) (N := some 54) (v := ?_) (a' := ?_) #[true, true, true, false, true, true, false, false, false, false] rfl rfl (by kernel_rfl) (fun _ _ _ h => h) (Or.inl ⟨by rfl, ?_⟩) ?_ ?_
      rotate_left
      · intro w'
        go_simp
        with_reducible rfl
      rotate_left
      · simp only [Act.put, List.setIfInBounds_toArray, List.set_cons_zero, List.set_cons_succ, i64_w, i32_w]
        rfl
      refine pure_ (i := 6) (N := some 55) (v := ?_) (a' := ?_) #[true, true, true, false, true, true, true, false, false, false] rfl rfl (by kernel_rfl) (fun _ _ _ h => h) (Or.inl ⟨by rfl, ?_⟩) ?_ ?_
      rotate_left
      · intro w'
        go_simp
        with_reducible rfl
      rotate_left
      · simp only [Act.put, List.setIfInBounds_toArray, List.set_cons_zero, List.set_cons_succ, i64_w, i32_w]
        rfl
      refine take_ (i := 3) (N := some 52) (v := ?_) (a' := ?_) #[true, true, true, true, true, true, true, false, false, false] rfl rfl (by kernel_rfl) (fun _ _ _ h => h) (Or.inl ⟨by rfl, ?_⟩) hHeld ?_ ?_
      rotate_left
      · rintro w' ⟨s0, s1⟩
        go_simp
        with_reducible rfl
      rotate_left
      · simp only [Act.put, List.setIfInBounds_toArray, List.set_cons_zero, List.set_cons_succ, i64_w, i32_w]
        rfl
      refine take_ (i := 7) (N := some 56) (v := ?_) (a' := ?_) #[true, true, true, true, true, true, true, true, false, false] rfl rfl (by kernel_rfl) (fun _ _ _ h => h) (Or.inl ⟨by rfl, ?_⟩) hHeld ?_ ?_
      rotate_left
      · rintro w' ⟨s0, s1⟩
        go_simp
        with_reducible rfl
      rotate_left
      · simp only [Act.put, List.setIfInBounds_toArray, List.set_cons_zero, List.set_cons_succ, i64_w, i32_w]
        rfl
      refine one_ (i := 8) (N := some 57) #[true, true, true, true, true, true, true, true, true, false] rfl rfl (by kernel_rfl) (by decide) (fun K hK => ?_)
      refine goes_ Try.func37 (by kernel_rfl) rfl #[.pointer (some ⟨gd, 0, none⟩)] (by rfl) rfl rfl (by simp only [List.map_toArray, List.map_cons, List.map_nil]; rfl) ?_
      with_reducible refine (Size_calls wx.drew base gd v0 v1 v2 v3 d DXd).mono ?_
      rintro e w3 ⟨rfl, rfl⟩
      refine ⟨_, rfl, ?_⟩
      refine hK.out _ _ ⟨hHeld.1, hHeld.2⟩ (fun hHeld => ?_)
      clear hK K
      refine norm_ (a' := ?_) ?_ ?_
      rotate_left
      · show Act.put _ (some 57) _ = _
        simp only [Act.put, List.setIfInBounds_toArray, List.set_cons_zero, List.set_cons_succ, i64_w, i32_w]
        rfl
      refine pure_ (i := 9) (N := some 58) (v := ?_) (a' := ?_) #[true, true, true, true, true, true, true, true, true, true] rfl rfl (by kernel_rfl) (fun _ _ _ h => h) (Or.inl ⟨by rfl, ?_⟩) ?_ ?_
      rotate_left
      · intro w'
        go_simp
        with_reducible rfl
      rotate_left
      · simp only [Act.put, List.setIfInBounds_toArray, List.set_cons_zero, List.set_cons_succ, i64_w, i32_w]
        rfl
      refine done_ (by kernel_rfl) ?_
      have SY := Aside0.mk (SX.out.below (below_drew (Below.refl _ _)))
      have DY := Aside0.mk DXd
      have CFY := Aside0.mk (Kd.C_drew CFX.out)
      have CBY := Aside0.mk (Kd.C_drew CBX.out)
      have FY := Aside0.mk FX.out.drew
      have HBY : Aside0 (base ≤ wx.drew.heap.size ∧ w.heap.size ≤ wx.drew.heap.size) := ⟨Nat.le_trans HB.out FX.out.size, FX.out.size⟩
      clear DXd SX DX CFX CBX FX k0 k1
      generalize wx.drew = wy at *
      have k2 : wy.cell? ⟨gs, 2, none⟩ = some (.slice A2 m.ahead.length c2) := blk_cell SY.out.blk 2
      have CA : Aside0 (Kd.C (Kd.int .u8) wy A2 (m.ahead).length (m.ahead)) := ⟨(Kd.R_reads' SY.out.ahead).2.2⟩
      have hmk := hmk64
      have HSLb : Aside0 (((m.ahead).length + F.length) * 1 ≤ 140737488355328 ∧ (0 + (m.ahead).length) * 1 ≤ 140737488355328) := ⟨by have := HSL.out; constructor <;> omega⟩
      go_upto_region 12 with (first
        | ((with_reducible refine gate_builtin (b := .append) (xs := #[.const (.slice none 0 0), .tmp 62]) rfl ?_); at_builtin; go_loud (refine Kd.R_append_row (Value.int .u8) (0 : Int) (w0 := wy) wy.heap.size rfl (.const (.slice none 0 0)) (.tmp 62) 23 5 (.int .u8 0) 1 rfl Try.underlying23 infoU rfl (Nat.succ_pos _) (.slice none 0 0) [] (m.ahead) A2 (m.ahead).length c2 (fun _ => True) rfl rfl (fun _ _ => trivial) (Kd.R_nil _ _ _ _ _) CA.out (Below.refl _ _) (Nat.le_refl _) HSLb.out.2 ?_); intro v3a w3 hr_ hb_ hg_ _; rw [List.nil_append] at hr_; have R3 := Aside0.mk hr_; have B3 := Aside0.mk hb_; obtain ⟨A3, c3, ev⟩ := Kd.R_slice hr_; subst ev; clear hr_ hb_ hg_)
        | ((with_reducible refine gate_builtin (b := .append) (xs := #[.tmp 63, .tmp 64]) rfl ?_); at_builtin; go_loud (refine Kd.R_append_row (Value.int .u8) (0 : Int) (w0 := wy) wy.heap.size rfl (.tmp 63) (.tmp 64) 23 5 (.int .u8 0) 1 rfl Try.underlying23 infoU rfl (Nat.succ_pos _) (.slice A3 (m.ahead).length c3) (m.ahead) F Af F.length cf (fun _ => True) rfl rfl (fun _ _ => trivial) R3.out (Kd.C_below CFY.out B3.out) B3.out B3.out.size HSLb.out.1 ?_); intro v4a w4 hr_ hb_ hg_ _; have R4 := Aside0.mk hr_; have B4 := Aside0.mk hb_; clear hr_ hb_ hg_))
      clear k2 hmk
      obtain ⟨L, hL⟩ : ∃ L, m.ahead ++ F = L := ⟨_, rfl⟩
      rw [hL] at R4 HFU
      have HLL : Aside0 (L.length = (m.ahead).length + F.length) := ⟨by rw [← hL, List.length_append]⟩
      have HLE := Aside0.mk hL
      clear hL
      have HL64 : Aside0 (8 ≤ L.length ∧ L.length ≤ 64) := ⟨by have h1 := HLL.out; have h2 := HSL.out; have h3 := HFL.out; have h4 := HN.out; constructor <;> omega⟩
      obtain ⟨g4, c4, e4, gb4, gl4, _⟩ := Kd.R_form R4.out (by have := HL64.out; omega)
      subst e4
      have HG4 := Aside0.mk (And.intro gb4 gl4)
      have X5 := Aside0.mk (blk_new w4 (.cells (encs (Value.int .u8) zero64).toArray 5))
      have B5 := Aside0.mk (Below.alloc B4.out B4.out.size (.cells (encs (Value.int .u8) zero64).toArray 5))
      have R5 := Aside0.mk (Kd.R_alloc R4.out (.cells (encs (Value.int .u8) zero64).toArray 5))
      have HGW := Aside0.mk B4.out.size
      clear gb4 gl4 R3 B3 R4 B4
      generalize w4.alloc (.cells (encs (Value.int .u8) zero64).toArray 5) = w5 at *
      obtain ⟨gW, hgW⟩ : ∃ gW, w4.heap.size = gW := ⟨_, rfl⟩
      rw [hgW] at X5 HGW HG4 ⊢
      clear hgW
      have HTH := Aside0.mk (there_blk X5.out 0 L.length (by rw [List.size_toArray, encs_length, zero64_len]; have := HL64.out; omega))
      have HSR := Aside0.mk (range_of_C (Kd.R_reads' R5.out).2.2)
      have HSRC : Aside0 (∀ j v, (encs (Value.int .u8) L)[j]? = some v → w5.cell? (Addr.add ⟨g4, 0, none⟩ j) = some v) := ⟨fun j v hv => by rw [add0]; exact HSR.out j v hv⟩
      have HMN : Aside0 ((encs (Value.int .u8) L).length = Nat.min L.length 64) := ⟨by rw [encs_length]; exact (Nat.min_eq_left HL64.out.2).symm⟩
      have HTH2 : Aside0 (w5.there gW 0 (encs (Value.int .u8) L).length) := ⟨by rw [encs_length]; exact HTH.out⟩
      go_upto_region 13 with ((with_reducible refine gate_builtin (b := .copy) (xs := #[.tmp 67, .tmp 68]) rfl ?_); go_loud (refine Kd.event_run rfl (copy_w 23 23 5 (.tmp 67) (.tmp 68) rfl gW 0 64 64 ⟨g4, 0, none⟩ L.length c4 (encs (Value.int .u8) L) rfl rfl Try.underlying23 infoS HMN.out HSRC.out HTH2.out (one_u8 L)) ?_))
      have X6 := Aside0.mk (fill_pad HL64.out.2 X5.out)
      have HPL := Aside0.mk (padL_len HL64.out.2)
      have F6 := Aside0.mk (Fr.setCells (F := fun k => k = gW) (Fr.refl w5 _) (.inl rfl) 0 (encs (Value.int .u8) L))
      have B6 := Aside0.mk (below_fr B5.out B5.out.size F6.out (fun k hk => by have := HGW.out; omega))
      have R6 : Aside0 (Kd.R (Kd.int .u8) 5 (w5.setCells gW 0 (encs (Value.int .u8) L)) wy.heap.size (fun k => k < gW ∧ wy.heap.size ≤ k) (.slice (some ⟨g4, 0, none⟩) L.length c4) L) := ⟨by
        have hlt := HG4.out.2
        have h1 : Kd.R (Kd.int .u8) 5 w5 wy.heap.size (fun k => k < gW ∧ wy.heap.size ≤ k) (.slice (some ⟨g4, 0, none⟩) L.length c4) L := Kd.R_mono (Kd.R_tight rfl R5.out) (fun k hk => by
          have hk : some k = some g4 := hk
          injection hk with hk
          have := HG4.out.1
          omega)
        exact Kd.R_kept h1 F6.out.2 (fun k hk he => by omega)⟩
      clear X5 R5 B5 HTH HSR HSRC HMN HTH2 F6
      generalize w5.setCells gW 0 (encs (Value.int .u8) L) = w6 at *
      have S6 := Aside0.mk (SY.out.below B6.out)
      have D6d : DV w6.drew base gd v0 v1 v2 v3 d := (DY.out.below B6.out).below (below_drew (Below.refl _ _))
      have BB6 : Aside0 (base ≤ w6.drew.heap.size) := ⟨Nat.le_trans HBY.out.1 B6.out.size⟩
      have FF6 := Aside0.mk (FY.out.below B6.out).drew
      have HFL6 := Aside0.mk D6d.foot_lt
      have k0 : w6.cell? ⟨gs, 0, none⟩ = some (.pointer (some ⟨gd, 0, none⟩)) := blk_cell S6.out.blk 0
      have k1 : w6.cell? ⟨gs, 1, none⟩ = some (.int .i64 m.at_) := blk_cell S6.out.blk 1
      refine start_ (n := 11) (S := fun w' => w'.cell? ⟨gs, 0, none⟩ = some (.pointer (some ⟨gd, 0, none⟩)) ∧ w'.cell? ⟨gs, 1, none⟩ = some (.int .i64 m.at_)) (ds := [9]) #[false, false, false, false, false, false, false, false, false, false, false] (by kernel_rfl) rfl rfl ⟨k0, k1⟩ (fun hHeld => ?_)
      refine pure_ (i := 0) (N := some 70) (v := ?_) (a' := ?_) #[true, false, false, false, false, false, false, false, false, false, false] rfl rfl (by kernel_rfl) (fun _ _ _ h => h) (Or.inl ⟨by rfl, ?_⟩) ?_ ?_
      rotate_left
      · intro w'
        go_simp
        with_reducible rfl
      rotate_left
      · simp only [Act.put, List.setIfInBounds_toArray, List.set_cons_zero, List.set_cons_succ, i64_w, i32_w]
        rfl
      refine pure_ (i := 1) (N := some 71) (v := ?_) (a' := ?_) #[true, true, false, false, false, false, false, false, false, false, false] rfl rfl (by kernel_rfl) (fun _ _ _ h => h) (Or.inl ⟨by rfl, ?_⟩) ?_ ?_
      rotate_left
      · intro w'
        go_simp
        with_reducible rfl
      rotate_left
      · simp only [Act.put, List.setIfInBounds_toArray, List.set_cons_zero, List.set_cons_succ, i64_w, i32_w]
        rfl
      refine pure_ (i := 2) (N := some 72) (v := ?_) (a' := ?_) #[true, true, true, false, false, false, false, false, false, false, false] rfl rfl (by kernel_rfl) (fun _ _ _ h => h) (Or.inl ⟨by rfl, ?_⟩) ?_ ?_
      rotate_left
      · intro w'
        go_simp
        with_reducible rfl
      rotate_left
      · simp only [Act.put, List.setIfInBounds_toArray, List.set_cons_zero, List.set_cons_succ, i64_w, i32_w]
        rfl
      refine pure_ (i := 4) (N := some 74) (v := ?_) (a' := ?_) #[true, true, true, false, true, false, false, false, false, false, false] rfl rfl (by kernel_rfl) (fun _ _ _ h => h) (Or.inl ⟨by rfl, ?_⟩) ?_ ?_
      rotate_left
      · intro w'
        go_simp
        with_reducible rfl
      rotate_left
      · simp only [Act.put, List.setIfInBounds_toArray, List.set_cons_zero, List.set_cons_succ, i64_w, i32_w]
        rfl
      refine pure_ (i := 5) (N := some 75) (v := ?_) (a' := ?_) #[true, true, true, false, true, true, false, false, false, false, false] rfl rfl (by kernel_rfl) (fun _ _ _ h => h) (Or.inl ⟨by rfl, ?_⟩) ?_ ?_
      rotate_left
      · intro w'
        go_simp
        with_reducible rfl
      rotate_left
      · simp only [Act.put, List.setIfInBounds_toArray, List.set_cons_zero, List.set_cons_succ, i64_w, i32_w]
        rfl
      refine pure_ (i := 6) (N := some 76) (v := ?_) (a' := ?_) #[true, true, true, false, true, true, true, false, false, false, false] rfl rfl (by kernel_rfl) (fun _ _ _ h => h) (Or.inl ⟨by rfl, ?_⟩) ?_ ?_
      rotate_left
      · intro w'
        go_simp
        with_reducible rfl
      rotate_left
      · simp only [Act.put, List.setIfInBounds_toArray, List.set_cons_zero, List.set_cons_succ, i64_w, i32_w]
        rfl
      refine pure_ (i := 8) (N := some 78) (v := ?_) (a' := ?_) #[true, true, true, false, true, true, true, false, true, false, false] rfl rfl (by kernel_rfl) (fun _ _ _ h => h) (Or.inl ⟨by rfl, ?_⟩) ?_ ?_
      rotate_left
      · intro w'
        go_simp
        with_reducible rfl
      rotate_left
      · simp only [Act.put, List.setIfInBounds_toArray, List.set_cons_zero, List.set_cons_succ, i64_w, i32_w]
        rfl
      refine take_ (i := 3) (N := some 73) (v := ?_) (a' := ?_) #[true, true, true, true, true, true, true, false, true, false, false] rfl rfl (by kernel_rfl) (fun _ _ _ h => h) (Or.inl ⟨by rfl, ?_⟩) hHeld ?_ ?_
      rotate_left
      · rintro w' ⟨s0, s1⟩
        go_simp
        with_reducible rfl
      rotate_left
      · simp only [Act.put, List.setIfInBounds_toArray, List.set_cons_zero, List.set_cons_succ, i64_w, i32_w]
        rfl
      refine take_ (i := 7) (N := some 77) (v := ?_) (a' := ?_) #[true, true, true, true, true, true, true, true, true, false, false] rfl rfl (by kernel_rfl) (fun _ _ _ h => h) (Or.inl ⟨by rfl, ?_⟩) hHeld ?_ ?_
      rotate_left
      · rintro w' ⟨s0, s1⟩
        go_simp
        with_reducible rfl
      rotate_left
      · simp only [Act.put, List.setIfInBounds_toArray, List.set_cons_zero, List.set_cons_succ, i64_w, i32_w]
        rfl
      refine last_ (i := 9) (N := some 79) #[true, true, true, true, true, true, true, true, true, true, false] rfl rfl (by kernel_rfl) (by decide) (fun K hK => ?_)
      refine goes_ Try.func45 (by kernel_rfl) rfl #[.pointer (some ⟨gd, 0, none⟩), .int .i64 m.at_, .slice (some ⟨gW, 0, none⟩) 64 64] (by rfl) rfl rfl (by simp only [List.map_toArray, List.map_cons, List.map_nil]; rfl) ?_
      with_reducible refine (Write64 w6.drew base gd v0 v1 v2 v3 d D6d HO.out.1 HO.out.2 m.at_ HS0.out gW (padL L) HPL.out (blk_drew X6.out) BB6.out).mono ?_
      rintro e w7 ⟨rfl, v2', v3', d7, f7, ft7⟩
      refine ⟨_, rfl, ?_⟩
      have D7 := Aside0.mk d7
      have F7 := Aside0.mk f7
      have FT7 := Aside0.mk ft7
      clear d7 f7 ft7
      refine hK.out _ _ ?_
      clear hK K
      refine norm_ (a' := ?_) ?_ ?_
      rotate_left
      · show Act.put _ (some 79) _ = _
        simp only [Act.put, List.setIfInBounds_toArray, List.set_cons_zero, List.set_cons_succ, i64_w, i32_w]
        rfl
      refine pure_ (i := 10) (N := some 8) (v := ?_) (a' := ?_) #[true, true, true, true, true, true, true, true, true, true, true] rfl rfl (by kernel_rfl) (fun _ _ _ h => h) (Or.inl ⟨by rfl, ?_⟩) ?_ ?_
      rotate_left
      · intro w'
        go_simp
        with_reducible rfl
      rotate_left
      · simp only [Act.put, List.setIfInBounds_toArray, List.set_cons_zero, List.set_cons_succ, i64_w, i32_w]
        rfl
      refine done_ (by kernel_rfl) ?_
      clear k0 k1 D6d
      have K7 : Aside0 (∀ k, ((ok k ∨ w.heap.size ≤ k) ∧ k < w6.heap.size) → ¬ foot gd v0 v1 v2' v3' k) := ⟨fun k hk hf => by
        rcases FT7.out k hf with q | q
        · exact HK1.out k hk.1 q
        · have q : w6.heap.size ≤ k := q
          have := hk.2
          omega⟩
      have HLT6 := Aside0.mk (blk_lt S6.out.blk)
      have G7 : Aside0 (¬ foot gd v0 v1 v2' v3' gs) := ⟨fun hf => by
        rcases FT7.out gs hf with q | q
        · exact HG.out q
        · have q : w6.heap.size ≤ gs := q
          have := HLT6.out
          omega⟩
      have S7 : Aside0 (SV w7 base (fun k => (ok k ∨ w.heap.size ≤ k) ∧ ¬ foot gd v0 v1 v2' v3' k) gs gd ((.slice A2 m.ahead.length c2)) u3 (m)) := ⟨by
        have h1 := (S6.out.below (below_drew (Below.refl _ _))).okto (ok' := fun k => (ok k ∨ w.heap.size ≤ k) ∧ k < w6.heap.size) (fun k q1 _ q3 => ⟨q1, q3⟩)
        exact (h1.keep F7.out (fun q hq => HK1.out q hq.1) HG.out).okto (fun k q1 _ _ => ⟨q1.1, K7.out k q1⟩)⟩
      have R7 : Aside0 (Kd.R (Kd.int .u8) 5 w7 base (fun k => (ok k ∨ w.heap.size ≤ k) ∧ ¬ foot gd v0 v1 v2' v3' k) (.slice (some ⟨g4, 0, none⟩) L.length c4) L) := ⟨by
        have hz := HBY.out
        have h1 := Kd.R_kept (Kd.R_bound (Kd.R_drew R6.out)) F7.out.2 (fun k hk hf => by
          have h2 := DY.out.foot_lt k hf
          have := hk.1.2
          omega)
        refine Kd.R_mono (Kd.R_lower h1 hz.1) (fun k hk => ⟨.inr (Nat.le_trans hz.2 hk.1.2), ?_⟩)
        exact K7.out k ⟨.inr (Nat.le_trans hz.2 hk.1.2), hk.2.2.1⟩⟩
      have FF7 := Aside0.mk (FF6.out.trans F7.out (fun k hk => .inl (.inl hk)))
      have FTT : Aside0 (∀ k, foot gd v0 v1 v2' v3' k → foot gd v0 v1 v2 v3 k ∨ w.heap.size ≤ k) := ⟨fun k hk => (FT7.out k hk).imp id (fun q => Nat.le_trans FF6.out.size q)⟩
      have CB7 : Aside0 (Kd.C (Kd.int .u8) w7 A b.length b) := ⟨Cb_kept HCW.out HOB.out FF7.out⟩
      have HZ7 : Aside0 (base ≤ w7.heap.size ∧ w.heap.size ≤ w7.heap.size) := ⟨Nat.le_trans HB.out FF7.out.size, FF7.out.size⟩
      clear S6 X6 R6 SY DY CFY CBY FY B6
      by_cases htl : tell (outc d) = 0
      · have htb : (tell (outc d) != 0) = false := by rw [htl]; rfl
        have HTL := Aside0.mk htl
        have HFU3 : Aside0 (apS m d b = ⟨m.at_, L, m.recs ++ [(b, m.at_)]⟩) := ⟨by rw [HFU.out.2.2, if_neg (by rw [htl]; simp)]⟩
        clear htl
        obtain ⟨A3u, c3u, e3u⟩ := Kd.R_slice S7.out.recs
        have e3u : u3 = Value.slice A3u m.recs.length c3u := e3u
        have k1 : w7.cell? ⟨gs, 1, none⟩ = some (.int .i64 m.at_) := blk_cell S7.out.blk 1
        have k3 : w7.cell? ⟨gs, 3, none⟩ = some (.slice A3u m.recs.length c3u) := by rw [← e3u]; exact blk_cell S7.out.blk 3
        have HE3 := Aside0.mk e3u
        clear e3u
        go_upto_region 17 with fail
        refine start_ (n := 17) (S := fun w' => w'.cell? ⟨gs, 1, none⟩ = some (.int .i64 m.at_) ∧ w'.cell? ⟨gs, 3, none⟩ = some (.slice A3u m.recs.length c3u)) (ds := [16]) #[false, false, false, false, false, false, false, false, false, false, false, false, false, false, false, false, false] (by kernel_rfl) rfl rfl ⟨k1, k3⟩ (fun hHeld => ?_)
        refine pure_ (i := 0) (N := some 85) (v := ?_) (a' := ?_) #[true, false, false, false, false, false, false, false, false, false, false, false, false, false, false, false, false] rfl rfl (by kernel_rfl) (fun _ _ _ h => h) (Or.inl ⟨by rfl, ?_⟩) ?_ ?_
        rotate_left
        · intro w'
          go_simp
          with_reducible rfl
        rotate_left
        · simp only [Act.put, List.setIfInBounds_toArray, List.set_cons_zero, List.set_cons_succ, i64_w, i32_w]
          rfl
        refine pure_ (i := 1) (N := some 86) (v := ?_) (a' := ?_) #[true, true, false, false, false, false, false, false, false, false, false, false, false, false, false, false, false] rfl rfl (by kernel_rfl) (fun _ _ _ h => h) (Or.inl ⟨by rfl, ?_⟩) ?_ ?_
        rotate_left
        · intro w'
          go_simp
          with_reducible rfl
        rotate_left
        · simp only [Act.put, List.setIfInBounds_toArray, List.set_cons_zero, List.set_cons_succ, i64_w, i32_w]
          rfl
        refine pure_ (i := 2) (N := some 87) (v := ?_) (a' := ?_) #[true, true, true, false, false, false, false, false, false, false, false, false, false, false, false, false, false] rfl rfl (by kernel_rfl) (fun _ _ _ h => h) (Or.inl ⟨by rfl, ?_⟩) ?_ ?_
        rotate_left
        · intro w'
          go_simp
          with_reducible rfl
        rotate_left
        · simp only [Act.put, List.setIfInBounds_toArray, List.set_cons_zero, List.set_cons_succ, i64_w, i32_w]
          rfl
        refine pure_ (i := 3) (N := some 88) (v := ?_) (a' := ?_) #[true, true, true, true, false, false, false, false, false, false, false, false, false, false, false, false, false] rfl rfl (by kernel_rfl) (fun _ _ _ h => h) (Or.inl ⟨by rfl, ?_⟩) ?_ ?_
        rotate_left
        · intro w'
          go_simp
          with_reducible rfl
        rotate_left
        · simp only [Act.put, List.setIfInBounds_toArray, List.set_cons_zero, List.set_cons_succ, i64_w, i32_w]
          rfl
        refine pure_ (i := 5) (N := some 90) (v := ?_) (a' := ?_) #[true, true, true, true, false, true, false, false, false, false, false, false, false, false, false, false, false] rfl rfl (by kernel_rfl) (fun _ _ _ h => h) (Or.inl ⟨by rfl, ?_⟩) ?_ ?_
        rotate_left
        · intro w'
          go_simp
          with_reducible rfl
        rotate_left
        · simp only [Act.put, List.setIfInBounds_toArray, List.set_cons_zero, List.set_cons_succ, i64_w, i32_w]
          rfl
        refine pure_ (i := 7) (N := some 92) (v := ?_) (a' := ?_) #[true, true, true, true, false, true, false, true, false, false, false, false, false, false, false, false, false] rfl rfl (by kernel_rfl) (fun _ _ _ h => h) (Or.inl ⟨by rfl, ?_⟩) ?_ ?_
        rotate_left
        · intro w'
          go_simp
          with_reducible rfl
        rotate_left
        · simp only [Act.put, List.setIfInBounds_toArray, List.set_cons_zero, List.set_cons_succ, i64_w, i32_w]
          rfl
        refine pure_ (i := 8) (N := some 93) (v := ?_) (a' := ?_) #[true, true, true, true, false, true, false, true, true, false, false, false, false, false, false, false, false] rfl rfl (by kernel_rfl) (fun _ _ _ h => h) (Or.inl ⟨by rfl, ?_⟩) ?_ ?_
        rotate_left
        · intro w'
          go_simp
          with_reducible rfl
        rotate_left
        · simp only [Act.put, List.setIfInBounds_toArray, List.set_cons_zero, List.set_cons_succ, i64_w, i32_w]
          rfl
        refine pure_ (i := 9) (N := some 94) (v := ?_) (a' := ?_) #[true, true, true, true, false, true, false, true, true, true, false, false, false, false, false, false, false] rfl rfl (by kernel_rfl) (fun _ _ _ h => h) (Or.inl ⟨by rfl, ?_⟩) ?_ ?_
        rotate_left
        · intro w'
          go_simp
          with_reducible rfl
        rotate_left
        · simp only [Act.put, List.setIfInBounds_toArray, List.set_cons_zero, List.set_cons_succ, i64_w, i32_w]
          rfl
        refine take_ (i := 4) (N := some 89) (v := ?_) (a' := ?_) #[true, true, true, true, true, true, false, true, true, true, false, false, false, false, false, false, false] rfl rfl (by kernel_rfl) (fun _ _ _ h => h) (Or.inl ⟨by rfl, ?_⟩) hHeld ?_ ?_
        rotate_left
        · rintro w' ⟨s0, s1⟩
          go_simp
          with_reducible rfl
        rotate_left
        · simp only [Act.put, List.setIfInBounds_toArray, List.set_cons_zero, List.set_cons_succ, i64_w, i32_w]
          rfl
        refine take_ (i := 10) (N := some 95) (v := ?_) (a' := ?_) #[true, true, true, true, true, true, false, true, true, true, true, false, false, false, false, false, false] rfl rfl (by kernel_rfl) (fun _ _ _ h => h) (Or.inl ⟨by rfl, ?_⟩) hHeld ?_ ?_
        rotate_left
        · rintro w' ⟨s0, s1⟩
          go_simp
          with_reducible rfl
        rotate_left
        · simp only [Act.put, List.setIfInBounds_toArray, List.set_cons_zero, List.set_cons_succ, i64_w, i32_w]
          rfl
        refine one_ (i := 6) (N := some 91) #[true, true, true, true, true, true, true, true, true, true, true, false, false, false, false, false, false] rfl rfl (by kernel_rfl) (by decide) (fun K hK => ?_)
        refine Kd.R_append_rows_step (Kd.int .u8) (Rr := (Kd.int .u8).K w7.drew) (w0 := w7.drew) w7.heap.size (by rfl) _ (.tmp 90) 23 5 (.int .u8 0) 1 rfl Try.underlying23 infoU rfl (by decide) (by decide) (.slice none 0 0) [] b A b.length c (fun _ => True) (fun _ => False) rfl rfl (Kd.R_nil _ _ _ _ _) (Kd.C_drew CB7.out) (fun _ _ h => h) (fun _ hk => hk.elim) (fun _ _ => trivial) (Below.refl _ _) (Nat.le_refl _) (by have := HN.out; simp; omega) ?_
        intro v91 wa hra hba hga _
        rw [List.nil_append] at hra
        obtain ⟨A91, c91, e91⟩ := Kd.R_slice hra
        subst e91
        have BDa := Aside0.mk (below_step (below_drew (Below.refl w7.heap.size w7)) hba)
        have Sa := Aside0.mk (S7.out.below BDa.out)
        have Ra : Aside0 (Kd.R (Kd.int .u8) 5 wa base (fun k => w7.heap.size ≤ k ∧ some k ≠ u3.ownBlock) (.slice A91 b.length c91) b) := ⟨Kd.R_mono (Kd.R_lower (Kd.R_newR (W := w7.drew) (Kd.R_bound hra) (Kd.R_drew S7.out.recs)) HZ7.out.1) (fun k hk => ⟨hk.1.2.1, hk.2⟩)⟩
        have ca1 : wa.cell? ⟨gs, 1, none⟩ = some (.int .i64 m.at_) := blk_cell Sa.out.blk 1
        have ca3 : wa.cell? ⟨gs, 3, none⟩ = some (.slice A3u m.recs.length c3u) := by rw [← HE3.out]; exact blk_cell Sa.out.blk 3
        clear hra hba hga
        refine hK.out _ _ ⟨ca1, ca3⟩ (fun hHeld => ?_)
        clear hK K
        refine norm_ (a' := ?_) ?_ ?_
        rotate_left
        · show Act.put _ (some 91) _ = _
          simp only [Act.put, List.setIfInBounds_toArray, List.set_cons_zero, List.set_cons_succ, i64_w, i32_w]
          rfl
        refine pure_ (i := 11) (N := some 96) (v := ?_) (a' := ?_) #[true, true, true, true, true, true, true, true, true, true, true, true, false, false, false, false, false] rfl rfl (by kernel_rfl) (fun _ _ _ h => h) (Or.inl ⟨by rfl, ?_⟩) ?_ ?_
        rotate_left
        · intro w'
          go_simp
          with_reducible rfl
        rotate_left
        · simp only [Act.put, List.setIfInBounds_toArray, List.set_cons_zero, List.set_cons_succ, i64_w, i32_w]
          rfl
        refine one_ (i := 12) (N := some 97) #[true, true, true, true, true, true, true, true, true, true, true, true, true, false, false, false, false] rfl rfl (by kernel_rfl) (by decide) (fun K hK => ?_)
        refine value_ (w1 := ?_) (v := ?_) (by rfl) rfl ?_ ?_
        rotate_left 2
        · go_simp
          constructor
          · rfl
          · rfl
        refine hK.out _ _ ⟨(cell_alloc_old hHeld.1 _), (cell_alloc_old hHeld.2 _)⟩ (fun hHeld => ?_)
        clear hK K
        refine norm_ (a' := ?_) ?_ ?_
        rotate_left
        · show Act.put _ (some 97) _ = _
          simp only [Act.put, List.setIfInBounds_toArray, List.set_cons_zero, List.set_cons_succ, i64_w, i32_w]
          rfl
        refine one_ (i := 13) (N := some 98) #[true, true, true, true, true, true, true, true, true, true, true, true, true, true, false, false, false] rfl rfl (by kernel_rfl) (by decide) (fun K hK => ?_)
        have HSa : Kd.R kRec 81 wa base (fun k => (ok k ∨ w.heap.size ≤ k) ∧ ¬ foot gd v0 v1 v2' v3' k) (.slice A3u m.recs.length c3u) m.recs := by rw [← HE3.out]; exact Sa.out.recs
        refine Kd.R_append_step kRec (w0 := wa) base (by rfl) (.tmp 89) (.tmp 97) 75 81 (.agg #[.slice none 0 0, .int .i64 0]) 32 rfl Try.underlying75 infoRec rfl (by decide) (by decide) (.slice A3u m.recs.length c3u) m.recs (b, m.at_) [.slice A91 b.length c91, .int .i64 m.at_] (fun k => (ok k ∨ w.heap.size ≤ k) ∧ ¬ foot gd v0 v1 v2' v3' k) (fun k => w7.heap.size ≤ k ∧ some k ≠ u3.ownBlock) rfl rfl (kRec_M Ra.out) (fun k hk => ⟨⟨.inr (Nat.le_trans HZ7.out.2 hk.1), fun hf => by have h1 := D7.out.foot_lt k hf; have h2 := hk.1; omega⟩, by rw [← HE3.out]; exact hk.2⟩) (fun k hk => ⟨.inr (Nat.le_trans HZ7.out.2 (Nat.le_trans BDa.out.size hk)), fun hf => by have h1 := D7.out.foot_lt k hf; have h2 := BDa.out.size; omega⟩) HSa (Below.refl _ _) (Nat.le_trans HZ7.out.1 BDa.out.size) HAL.out ?_
        intro v98 w9 hr1 hb1 hg1 hat1
        have hg1' : wa.grownBy w9 u3.ownBlock := by rw [HE3.out]; exact hg1
        have P1 := Aside0.mk (Sa.out.push hr1 hg1')
        have X9 : Aside0 (w9.heap[gs]? = some (.cells #[.pointer (some ⟨gd, 0, none⟩), .int .i64 (m.at_), (.slice A2 m.ahead.length c2), u3] 77 (0, 0))) := ⟨(hg1'.block gs (blk_lt Sa.out.blk) (fun he => Kd.R_ne Sa.out.recs Sa.out.blk (by decide) he)).trans Sa.out.blk⟩
        have RL9 := Aside0.mk (Kd.R_over (Kd.R_below R7.out BDa.out) Sa.out.recs (fun q hq => (tyU q hq).2) hg1')
        have BD9 := BDa
        have HAT9 := Aside0.mk hat1
        have FW9 := Aside0.mk (FF7.out.below BDa.out)
        have HZ9 : Aside0 (w.heap.size ≤ wa.heap.size) := ⟨Nat.le_trans HZ7.out.2 BDa.out.size⟩
        obtain ⟨A98, c98, e98⟩ := Kd.R_slice hr1
        obtain ⟨n98, hn98⟩ : ∃ n98, n98 = (m.recs ++ [(b, m.at_)]).length := ⟨_, rfl⟩
        rw [← hn98] at e98
        subst e98
        have c9 : w9.cell? ⟨gs, 1, none⟩ = some (.int .i64 m.at_) := blk_cell X9.out 1
        have c93 : w9.cell? ⟨gs, 3, none⟩ = some (.slice A3u m.recs.length c3u) := by rw [← HE3.out]; exact blk_cell X9.out 3
        have fz3 : w9.frozen? ⟨gs, 3, none⟩ = false := blk_frozen X9.out 3
        have fz2 : w9.frozen? ⟨gs, 2, none⟩ = false := blk_frozen X9.out 2
        have c92 : w9.cell? ⟨gs, 2, none⟩ = some ((.slice A2 m.ahead.length c2)) := blk_cell X9.out 2
        clear hr1 hb1 hg1 hg1' hat1 hn98 HSa
        refine hK.out _ _ ⟨c9, c93⟩ (fun hHeld => ?_)
        clear hK K
        refine norm_ (a' := ?_) ?_ ?_
        rotate_left
        · show Act.put _ (some 98) _ = _
          simp only [Act.put, List.setIfInBounds_toArray, List.set_cons_zero, List.set_cons_succ, i64_w, i32_w]
          rfl
        refine pure_ (i := 14) (N := some 99) (v := ?_) (a' := ?_) #[true, true, true, true, true, true, true, true, true, true, true, true, true, true, true, false, false] rfl rfl (by kernel_rfl) (fun _ _ _ h => h) (Or.inl ⟨by rfl, ?_⟩) ?_ ?_
        rotate_left
        · intro w'
          go_simp
          with_reducible rfl
        rotate_left
        · simp only [Act.put, List.setIfInBounds_toArray, List.set_cons_zero, List.set_cons_succ, i64_w, i32_w]
          rfl
        refine pure_ (i := 15) (N := some 100) (v := ?_) (a' := ?_) #[true, true, true, true, true, true, true, true, true, true, true, true, true, true, true, true, false] rfl rfl (by kernel_rfl) (fun _ _ _ h => h) (Or.inl ⟨by rfl, ?_⟩) ?_ ?_
        rotate_left
        · intro w'
          go_simp
          with_reducible rfl
        rotate_left
        · simp only [Act.put, List.setIfInBounds_toArray, List.set_cons_zero, List.set_cons_succ, i64_w, i32_w]
          rfl
        refine last_ (i := 16) (N := none) #[true, true, true, true, true, true, true, true, true, true, true, true, true, true, true, true, true] rfl rfl (by kernel_rfl) (by decide) (fun K hK => ?_)
        refine skip_ (w1 := ?_) (by rfl) rfl ?_ ?_
        rotate_left
        · go_simp
          rfl
        refine hK.out _ _ ?_
        clear hK K
        refine done_ (by kernel_rfl) ?_
        go_wp2
        go_ret
        rw [HFU.out.1, HTL.out, HFU.out.2.1, HFU3.out]
        obtain ⟨s9, f9⟩ := P1.out
        have hL9 : Kd.R (Kd.int .u8) 5 _ base _ _ L := Kd.R_set RL9.out X9.out (fun q hq => (tyU q hq).1) 3 (.slice A98 n98 c98)
        obtain ⟨s10, f10⟩ := s9.ahd hL9
        have f := (f9.trans f10 (fun k hk => .inl (.inl hk)))
        have fw := FW9.out.trans f (fun k hk => .inl (.inr hk))
        refine ⟨rfl, _, _, v2', v3', ⟨(D7.out.below BD9.out).keep f ?_, s10, G7.out, fw, FTT.out, ?_⟩⟩
        · rintro q hq (he | he)
          · exact G7.out (he ▸ hq)
          · exact (S7.out.recs.1 q he).2 hq
        · intro k hk
          rcases HAT9.out with he | ⟨q, hq, hle⟩
          · exact .inl (by unfold own at hk ⊢; rw [HE3.out, ← he]; exact hk)
          · refine .inr ?_
            unfold own at hk
            rw [hq] at hk
            injection hk with hk
            have := HZ9.out
            omega
      · have htb : (tell (outc d) != 0) = true := bne_iff_ne.mpr htl
        have HFU3 : Aside0 (apS m d b = nextM (m)) := ⟨by rw [HFU.out.2.2, if_pos htl]⟩
        clear htl
        have HAN : Aside0 (0 ≤ m.at_ ∧ m.at_ ≤ 1000000) := ⟨by have h1 := HS0.out; have h2 := HNN.out; constructor <;> omega⟩
        go_wp2_with fail
        refine (Snext_calls w7 base gs gd _ _ u3 _ S7.out HAN.out).mono ?_
        rintro e w8 ⟨rfl, s8, f8⟩
        have S8 := Aside0.mk s8
        have F8 := Aside0.mk f8
        clear s8 f8
        go_wp2
        go_ret
        rw [HFU.out.1, HFU.out.2.1, HFU3.out]
        exact ⟨rfl, _, u3, v2', v3', ⟨D7.out.keep F8.out (fun q hq he => G7.out (he ▸ hq)), S8.out, G7.out, FF7.out.trans F8.out (fun k hk => .inl (.inr (.inl hk))), FTT.out, fun k hk => .inl hk⟩⟩
  · have hatb := decide_eq_false hat
    have HSM : Aside0 (stM m d b = m) := ⟨by unfold stM stepM; rw [if_neg (by omega)]⟩
    go_upto_region 6 with fail
    refine start_ (n := 21) (S := fun w' => w'.cell? ⟨gs, 0, none⟩ = some (.pointer (some ⟨gd, 0, none⟩)) ∧ w'.cell? ⟨gs, 1, none⟩ = some (.int .i64 m.at_) ∧ w'.cell? ⟨gs, 2, none⟩ = some (.slice A2 m.ahead.length c2)) (ds := []) #[false, false, false, false, false, false, false, false, false, false, false, false, false, false, false, false, false, false, false, false, false] (by kernel_rfl) rfl rfl ⟨k0, k1, k2⟩ (fun hHeld => ?_)
    refine pure_ (i := 0) (N := some 26) (v := ?_) (a' := ?_) #[true, false, false, false, false, false, false, false, false, false, false, false, false, false, false, false, false, false, false, false, false] rfl rfl (by kernel_rfl) (fun _ _ _ h => h) (Or.inl ⟨by rfl, ?_⟩) ?_ ?_
    rotate_left
    · intro w'
      go_simp
      with_reducible rfl
    rotate_left
    · simp only [Act.put, List.setIfInBounds_toArray, List.set_cons_zero, List.set_cons_succ, i64_w, i32_w]
      rfl
    refine pure_ (i := 1) (N := some 27) (v := ?_) (a' := ?_) #[true, true, false, false, false, false, false, false, false, false, false, false, false, false, false, false, false, false, false, false, false] rfl rfl (by kernel_rfl) (fun _ _ _ h => h) (Or.inl ⟨by rfl, ?_⟩) ?_ ?_
    rotate_left
    · intro w'
      go_simp
      with_reducible rfl
    rotate_left
    · simp only [Act.put, List.setIfInBounds_toArray, List.set_cons_zero, List.set_cons_succ, i64_w, i32_w]
      rfl
    refine pure_ (i := 2) (N := some 28) (v := ?_) (a' := ?_) #[true, true, true, false, false, false, false, false, false, false, false, false, false, false, false, false, false, false, false, false, false] rfl rfl (by kernel_rfl) (fun _ _ _ h => h) (Or.inl ⟨by rfl, ?_⟩) ?_ ?_
    rotate_left
    · intro w'
      go_simp
      with_reducible rfl
    rotate_left
    · simp only [Act.put, List.setIfInBounds_toArray, List.set_cons_zero, List.set_cons_succ, i64_w, i32_w]
      rfl
    refine pure_ (i := 4) (N := some 30) (v := ?_) (a' := ?_) #[true, true, true, false, true, false, false, false, false, false, false, false, false, false, false, false, false, false, false, false, false] rfl rfl (by kernel_rfl) (fun _ _ _ h => h) (Or.inl ⟨by rfl, ?_⟩) ?_ ?_
    rotate_left
    · intro w'
      go_simp
      with_reducible rfl
    rotate_left
    · simp only [Act.put, List.setIfInBounds_toArray, List.set_cons_zero, List.set_cons_succ, i64_w, i32_w]
      rfl
    refine pure_ (i := 5) (N := some 31) (v := ?_) (a' := ?_) #[true, true, true, false, true, true, false, false, false, false, false, false, false, false, false, false, false, false, false, false, false] rfl rfl (by kernel_rfl) (fun _ _ _ h => h) (Or.inl ⟨by rfl, ?_⟩) ?_ ?_
    rotate_left
    · intro w'
      go_simp
      with_reducible rfl
    rotate_left
    · simp only [Act.put, List.setIfInBounds_toArray, List.set_cons_zero, List.set_cons_succ, i64_w, i32_w]
      rfl
    refine pure_ (i := 6) (N := some 32) (v := ?_) (a' := ?_) #[true, true, true, false, true, true, true, false, false, false, false, false, false, false, false, false, false, false, false, false, false] rfl rfl (by kernel_rfl) (fun _ _ _ h => h) (Or.inl ⟨by rfl, ?_⟩) ?_ ?_
    rotate_left
    · intro w'
      go_simp
      with_reducible rfl
    rotate_left
    · simp only [Act.put, List.setIfInBounds_toArray, List.set_cons_zero, List.set_cons_succ, i64_w, i32_w]
      rfl
    refine take_ (i := 3) (N := some 29) (v := ?_) (a' := ?_) #[true, true, true, true, true, true, true, false, false, false, false, false, false, false, false, false, false, false, false, false, false] rfl rfl (by kernel_rfl) (fun _ _ _ h => h) (Or.inl ⟨by rfl, ?_⟩) hHeld ?_ ?_
    rotate_left
    · rintro w' ⟨s0, s1, s2⟩
      go_simp
      with_reducible rfl
    rotate_left
    · simp only [Act.put, List.setIfInBounds_toArray, List.set_cons_zero, List.set_cons_succ, i64_w, i32_w]
      rfl
    refine take_ (i := 7) (N := some 33) (v := ?_) (a' := ?_) #[true, true, true, true, true, true, true, true, false, false, false, false, false, false, false, false, false, false, false, false, false] rfl rfl (by kernel_rfl) (fun _ _ _ h => h) (Or.inl ⟨by rfl, ?_⟩) hHeld ?_ ?_
    rotate_left
    · rintro w' ⟨s0, s1, s2⟩
      go_simp
      with_reducible rfl
    rotate_left
    · simp only [Act.put, List.setIfInBounds_toArray, List.set_cons_zero, List.set_cons_succ, i64_w, i32_w]
      rfl
    refine one_ (i := 8) (N := some 34) #[true, true, true, true, true, true, true, true, true, false, false, false, false, false, false, false, false, false, false, false, false] rfl rfl (by kernel_rfl) (by decide) (fun K hK => ?_)
    refine goes_ Try.func37 (by kernel_rfl) rfl #[.pointer (some ⟨gd, 0, none⟩)] (by rfl) rfl rfl (by simp only [List.map_toArray, List.map_cons, List.map_nil]; rfl) ?_
    with_reducible refine (Size_calls w1.drew base gd v0 v1 v2 v3 d D1d).mono ?_
    rintro e w3 ⟨rfl, rfl⟩
    refine ⟨_, rfl, ?_⟩
    refine hK.out _ _ ⟨hHeld.1, hHeld.2.1, hHeld.2.2⟩ (fun hHeld => ?_)
    clear hK K
    refine norm_ (a' := ?_) ?_ ?_
    rotate_left
    · show Act.put _ (some 34) _ = _
      simp only [Act.put, List.setIfInBounds_toArray, List.set_cons_zero, List.set_cons_succ, i64_w, i32_w]
      rfl
    refine pure_ (i := 9) (N := some 35) (v := ?_) (a' := ?_) #[true, true, true, true, true, true, true, true, true, true, false, false, false, false, false, false, false, false, false, false, false] rfl rfl (by kernel_rfl) (fun _ _ _ h => h) (Or.inl ⟨by rfl, ?_⟩) ?_ ?_
    rotate_left
    · intro w'
      go_simp
      with_reducible rfl
    rotate_left
    · simp only [Act.put, List.setIfInBounds_toArray, List.set_cons_zero, List.set_cons_succ, i64_w, i32_w]
      rfl
    refine pure_ (i := 10) (N := some 36) (v := ?_) (a' := ?_) #[true, true, true, true, true, true, true, true, true, true, true, false, false, false, false, false, false, false, false, false, false] rfl rfl (by kernel_rfl) (fun _ _ _ h => h) (Or.inl ⟨by rfl, ?_⟩) ?_ ?_
    rotate_left
    · intro w'
      go_simp
      with_reducible rfl
    rotate_left
    · simp only [Act.put, List.setIfInBounds_toArray, List.set_cons_zero, List.set_cons_succ, i64_w, i32_w]
      rfl
    refine pure_ (i := 11) (N := some 37) (v := undef) (a' := ?_) #[true, true, true, true, true, true, true, true, true, true, true, true, false, false, false, false, false, false, false, false, false] rfl rfl (by kernel_rfl) (fun _ _ _ h => h) (Or.inr ⟨by rfl, rfl⟩) ?_ ?_
    rotate_left
    · simp only [Act.put, List.setIfInBounds_toArray, List.set_cons_zero, List.set_cons_succ, i64_w, i32_w]
      rfl
    refine pure_ (i := 12) (N := some 38) (v := undef) (a' := ?_) #[true, true, true, true, true, true, true, true, true, true, true, true, true, false, false, false, false, false, false, false, false] rfl rfl (by kernel_rfl) (fun _ _ _ h => h) (Or.inr ⟨by rfl, rfl⟩) ?_ ?_
    rotate_left
    · simp only [Act.put, List.setIfInBounds_toArray, List.set_cons_zero, List.set_cons_succ, i64_w, i32_w]
      rfl
    refine pure_ (i := 13) (N := some 39) (v := undef) (a' := ?_) #[true, true, true, true, true, true, true, true, true, true, true, true, true, true, false, false, false, false, false, false, false] rfl rfl (by kernel_rfl) (fun _ _ _ h => h) (Or.inr ⟨by rfl, rfl⟩) ?_ ?_
    rotate_left
    · simp only [Act.put, List.setIfInBounds_toArray, List.set_cons_zero, List.set_cons_succ, i64_w, i32_w]
      rfl
    refine pure_ (i := 14) (N := some 40) (v := undef) (a' := ?_) #[true, true, true, true, true, true, true, true, true, true, true, true, true, true, true, false, false, false, false, false, false] rfl rfl (by kernel_rfl) (fun _ _ _ h => h) (Or.inr ⟨by rfl, rfl⟩) ?_ ?_
    rotate_left
    · simp only [Act.put, List.setIfInBounds_toArray, List.set_cons_zero, List.set_cons_succ, i64_w, i32_w]
      rfl
    refine pure_ (i := 15) (N := some 41) (v := undef) (a' := ?_) #[true, true, true, true, true, true, true, true, true, true, true, true, true, true, true, true, false, false, false, false, false] rfl rfl (by kernel_rfl) (fun _ _ _ h => h) (Or.inr ⟨by rfl, rfl⟩) ?_ ?_
    rotate_left
    · simp only [Act.put, List.setIfInBounds_toArray, List.set_cons_zero, List.set_cons_succ, i64_w, i32_w]
      rfl
    refine pure_ (i := 16) (N := some 42) (v := undef) (a' := ?_) #[true, true, true, true, true, true, true, true, true, true, true, true, true, true, true, true, true, false, false, false, false] rfl rfl (by kernel_rfl) (fun _ _ _ h => h) (Or.inr ⟨by rfl, rfl⟩) ?_ ?_
    rotate_left
    · simp only [Act.put, List.setIfInBounds_toArray, List.set_cons_zero, List.set_cons_succ, i64_w, i32_w]
      rfl
    refine pure_ (i := 17) (N := some 43) (v := undef) (a' := ?_) #[true, true, true, true, true, true, true, true, true, true, true, true, true, true, true, true, true, true, false, false, false] rfl rfl (by kernel_rfl) (fun _ _ _ h => h) (Or.inr ⟨by rfl, rfl⟩) ?_ ?_
    rotate_left
    · simp only [Act.put, List.setIfInBounds_toArray, List.set_cons_zero, List.set_cons_succ, i64_w, i32_w]
      rfl
    refine pure_ (i := 18) (N := some 44) (v := undef) (a' := ?_) #[true, true, true, true, true, true, true, true, true, true, true, true, true, true, true, true, true, true, true, false, false] rfl rfl (by kernel_rfl) (fun _ _ _ h => h) (Or.inr ⟨by rfl, rfl⟩) ?_ ?_
    rotate_left
    · simp only [Act.put, List.setIfInBounds_toArray, List.set_cons_zero, List.set_cons_succ, i64_w, i32_w]
      rfl
    refine pure_ (i := 19) (N := some 45) (v := undef) (a' := ?_) #[true, true, true, true, true, true, true, true, true, true, true, true, true, true, true, true, true, true, true, true, false] rfl rfl (by kernel_rfl) (fun _ _ _ h => h) (Or.inr ⟨by rfl, rfl⟩) ?_ ?_
    rotate_left
    · simp only [Act.put, List.setIfInBounds_toArray, List.set_cons_zero, List.set_cons_succ, i64_w, i32_w]
      rfl
    refine pure_ (i := 20) (N := some 46) (v := ?_) (a' := ?_) #[true, true, true, true, true, true, true, true, true, true, true, true, true, true, true, true, true, true, true, true, true] rfl rfl (by kernel_rfl) (fun _ _ _ h => h) (Or.inl ⟨by rfl, ?_⟩) ?_ ?_
    rotate_left
    · intro w'
      go_simp
      with_reducible rfl
    rotate_left
    · simp only [Act.put, List.setIfInBounds_toArray, List.set_cons_zero, List.set_cons_succ, i64_w, i32_w]
      rfl
    refine done_ (by kernel_rfl) ?_
    have SX := Aside0.mk (S1.out.below (below_drew (Below.refl _ _)))
    have DX := Aside0.mk (D1.out.below (below_drew (Below.refl _ _)))
    have CFX := Aside0.mk (Kd.C_drew CF1.out)
    have CBX := Aside0.mk (Kd.C_drew CB1.out)
    have FX := Aside0.mk F1.out.drew
    clear S1 D1 CF1 CB1 F1 k0 k1 k2 D1d
    generalize w1.drew = wx at *
    have hfull : (d.now.length : Int) ≤ m.at_ := by omega
    clear hat hatb
    have k0 : wx.cell? ⟨gs, 0, none⟩ = some (.pointer (some ⟨gd, 0, none⟩)) := blk_cell SX.out.blk 0
    have k1 : wx.cell? ⟨gs, 1, none⟩ = some (.int .i64 m.at_) := blk_cell SX.out.blk 1
    have DXd : DV wx.drew base gd v0 v1 v2 v3 d := DX.out.below (below_drew (Below.refl _ _))
    have hfb : decide ((d.now.length : Int) ≤ m.at_) = true := decide_eq_true hfull
    have HFU : Aside0 (apE m d b = 6 ∧ apD m d b = d ∧ apS m d b = m) := ⟨by
      have hst := HSM.out
      have hf : apFull m d b := by unfold apFull; rw [hst]; exact hfull
      unfold apE apD apS
      rw [if_pos hf, if_pos hf, if_pos hf, hst]
      exact ⟨rfl, rfl, rfl⟩⟩
    clear hfull
    go_upto_region 8 with fail
    refine start_ (n := 10) (S := fun w' => w'.cell? ⟨gs, 0, none⟩ = some (.pointer (some ⟨gd, 0, none⟩)) ∧ w'.cell? ⟨gs, 1, none⟩ = some (.int .i64 m.at_)) (ds := []) #[false, false, false, false, false, false, false, false, false, false] (by kernel_rfl) rfl rfl ⟨k0, k1⟩ (fun hHeld => ?_)
    refine pure_ (i := 0) (N := some 49) (v := ?_) (a' := ?_) #[true, false, false, false, false, false, false, false, false, false] rfl rfl (by kernel_rfl) (fun _ _ _ h => h) (Or.inl ⟨by rfl, ?_⟩) ?_ ?_
    rotate_left
    · intro w'
      go_simp
      with_reducible rfl
    rotate_left
    · simp only [Act.put, List.setIfInBounds_toArray, List.set_cons_zero, List.set_cons_succ, i64_w, i32_w]
      rfl
    refine pure_ (i := 1) (N := some 50) (v := ?_) (a' := ?_) #[true, true, false, false, false, false, false, false, false, false] rfl rfl (by kernel_rfl) (fun _ _ _ h => h) (Or.inl ⟨by rfl, ?_⟩) ?_ ?_
    rotate_left
    · intro w'
      go_simp
      with_reducible rfl
    rotate_left
    · simp only [Act.put, List.setIfInBounds_toArray, List.set_cons_zero, List.set_cons_succ, i64_w, i32_w]
      rfl
    refine pure_ (i := 2) (N := some 51) (v := ?_) (a' := ?_) #[true, true, true, false, false, false, false, false, false, false] rfl rfl (by kernel_rfl) (fun _ _ _ h => h) (Or.inl ⟨by rfl, ?_⟩) ?_ ?_
    rotate_left
    · intro w'
      go_simp
      with_reducible rfl
    rotate_left
    · simp only [Act.put, List.setIfInBounds_toArray, List.set_cons_zero, List.set_cons_succ, i64_w, i32_w]
      rfl
    refine pure_ (i := 4) (N := some 53) (v := ?_) (a' := ?_) #[true, true, true, false, true, false, false, false, false, false] rfl rfl (by kernel_rfl) (fun _ _ _ h => h) (Or.inl ⟨by rfl, ?_⟩) ?_ ?_
    rotate_left
    · intro w'
      go_simp
      with_reducible rfl
    rotate_left
    · simp only [Act.put, List.setIfInBounds_toArray, List.set_cons_zero, List.set_cons_succ, i64_w, i32_w]
      rfl
    refine pure_ (i := 5) (N := some 54) (v := ?_) (a' := ?_) #[true, true, true, false, true, true, false, false, false, false] rfl rfl (by kernel_rfl) (fun _ _ _ h => h) (Or.inl ⟨by rfl, ?_⟩) ?_ ?_
    rotate_left
    · intro w'
      go_simp
      with_reducible rfl
    rotate_left
    · simp only [Act.put, List.setIfInBounds_toArray, List.set_cons_zero, List.set_cons_succ, i64_w, i32_w]
      rfl
    refine pure_ (i := 6) (N := some 55) (v := ?_) (a' := ?_) #[true, true, true, false, true, true, true, false, false, false] rfl rfl (by kernel_rfl) (fun _ _ _ h => h) (Or.inl ⟨by rfl, ?_⟩) ?_ ?_
    rotate_left
    · intro w'
      go_simp
      with_reducible rfl
    rotate_left
    · simp only [Act.put, List.setIfInBounds_toArray, List.set_cons_zero, List.set_cons_succ, i64_w, i32_w]
      rfl
    refine take_ (i := 3) (N := some 52) (v := ?_) (a' := ?_) #[true, true, true, true, true, true, true, false, false, false] rfl rfl (by kernel_rfl) (fun _ _ _ h => h) (Or.inl ⟨by rfl, ?_⟩) hHeld ?_ ?_
    rotate_left
    · rintro w' ⟨s0, s1⟩
      go_simp
      with_reducible rfl
    rotate_left
    · simp only [Act.put, List.setIfInBounds_toArray, List.set_cons_zero, List.set_cons_succ, i64_w, i32_w]
      rfl
    refine take_ (i := 7) (N := some 56) (v := ?_) (a' := ?_) #[true, true, true, true, true, true, true, true, false, false] rfl rfl (by kernel_rfl) (fun _ _ _ h => h) (Or.inl ⟨by rfl, ?_⟩) hHeld ?_ ?_
    rotate_left
    · rintro w' ⟨s0, s1⟩
      go_simp
      with_reducible rfl
    rotate_left
    · simp only [Act.put, List.setIfInBounds_toArray, List.set_cons_zero, List.set_cons_succ, i64_w, i32_w]
      rfl
    refine one_ (i := 8) (N := some 57) #[true, true, true, true, true, true, true, true, true, false] rfl rfl (by kernel_rfl) (by decide) (fun K hK => ?_)
    refine goes_ Try.func37 (by kernel_rfl) rfl #[.pointer (some ⟨gd, 0, none⟩)] (by rfl) rfl rfl (by simp only [List.map_toArray, List.map_cons, List.map_nil]; rfl) ?_
    with_reducible refine (Size_calls wx.drew base gd v0 v1 v2 v3 d DXd).mono ?_
    rintro e w3 ⟨rfl, rfl⟩
    refine ⟨_, rfl, ?_⟩
    refine hK.out _ _ ⟨hHeld.1, hHeld.2⟩ (fun hHeld => ?_)
    clear hK K
    refine norm_ (a' := ?_) ?_ ?_
    rotate_left
    · show Act.put _ (some 57) _ = _
      simp only [Act.put, List.setIfInBounds_toArray, List.set_cons_zero, List.set_cons_succ, i64_w, i32_w]
      rfl
    refine pure_ (i := 9) (N := some 58) (v := ?_) (a' := ?_) #[true, true, true, true, true, true, true, true, true, true] rfl rfl (by kernel_rfl) (fun _ _ _ h => h) (Or.inl ⟨by rfl, ?_⟩) ?_ ?_
    rotate_left
    · intro w'
      go_simp
      with_reducible rfl
    rotate_left
    · simp only [Act.put, List.setIfInBounds_toArray, List.set_cons_zero, List.set_cons_succ, i64_w, i32_w]
      rfl
    refine done_ (by kernel_rfl) ?_
    go_wp2
    go_ret
    rw [HFU.out.1, HFU.out.2.1, HFU.out.2.2]
    refine ⟨rfl, (.slice A2 m.ahead.length c2), u3, v2, v3, DXd, ?_, HG.out, FX.out.drew, fun k hk => .inl hk, fun k hk => .inl hk⟩
    exact (SX.out.below (below_drew (Below.refl _ _))).okto (fun k hk _ _ => ⟨hk, HK1.out k hk⟩)
end Go.Proofs.Ytldddinebhopcaa.St
namespace Go.Proofs.Ytldddinebhopcaa.Sec
open Go.RowKit Go.Proofs.YtldddinebhopcaaW.PrintWords Go.Proofs.YtldddinebhopcaaW.PrintLast Go.Proofs.YtldddinebhopcaaW.PrintMore Go.Proofs.Ytldddinebhopcaa.Bs Go.Proofs.Ytldddinebhopcaa.Fr
theorem RV.lower {w : World} {base base' g : Nat} {X : RX} {m : DM} (h : RV w base g X m) (hb : base' ≤ base) : RV w base' g X m :=
  { h with sure := Kd.R_lower h.sure hb, now := Kd.R_lower h.now hb, since := Kd.R_lower h.since hb, wait := Kd.Q_lower h.wait hb, ge := Nat.le_trans hb h.ge,
           bods := fun j p hp => by obtain ⟨gb, cap, h1, h2, h3, h4, h5, h6, h7⟩ := h.bods j p hp; exact ⟨gb, cap, h1, h2, h3, h4, Nat.le_trans hb h5, h6, h7⟩ }
theorem DV.lower {w : World} {base base' g : Nat} {v0 v1 v2 v3 : Value} {m : DM} (h : DV w base g v0 v1 v2 v3 m) (hb : base' ≤ base) : DV w base' g v0 v1 v2 v3 m :=
  ⟨h.blk, Kd.R_lower h.sure hb, Kd.R_lower h.now hb, Kd.R_lower h.since hb, Kd.Q_lower h.wait hb, h.ap, h.byt, h.len, h.n1, h.n2, h.at_, Nat.le_trans hb h.ge⟩
end Go.Proofs.Ytldddinebhopcaa.Sec
namespace Go.Proofs.Ytldddinebhopcaa.St
open Go.RowKit Go.Shelf Go.Proofs.YtldddinebhopcaaW.PrintWords Go.Proofs.YtldddinebhopcaaW.PrintLast Go.Proofs.YtldddinebhopcaaW.PrintMore Go.Proofs.Ytldddinebhopcaa.Bs Go.Proofs.Ytldddinebhopcaa.Fr Go.Proofs.Ytldddinebhopcaa.Oct Go.Proofs.Ytldddinebhopcaa.Sec Go.Proofs.Ytldddinebhopcaa.Rg
set_option linter.unusedVariables false
set_option linter.unusedSimpArgs false
set_option maxHeartbeats 1000000 in
set_option maxRecDepth 100000 in
theorem both_calls (w : World) (n : Nat) (hn : 1 ≤ n) (hn2 : n ≤ 4096) :
    Calls Try.prog 12 #[.int .i64 (n : Int)] w fun e w' => ∃ g v0 v1 gR X, e = .returned (.tuple #[.pointer (some ⟨g, 0, none⟩), .pointer (some ⟨gR, 0, none⟩)]) ∧ Two w' w.heap.size g v0 v1 (.slice none 0 0) (.slice none 0 0) gR X (m0 n) ∧ Below w.heap.size w w' := by
  go_enter Try.func12, Try.ntmps12
  go_wp2_with fail
  refine (New_calls w n hn hn2).mono ?_
  rintro e w1 ⟨g, v0, v1, rfl, hd, hb1⟩
  have D1 := Aside0.mk hd
  have B1 := Aside0.mk hb1
  clear hd hb1
  go_wp2_with fail
  refine (RNew_calls w1 n hn hn2).mono ?_
  rintro e w2 ⟨gR, X, rfl, hr, _, hb2⟩
  have R2 := Aside0.mk hr
  have B2 := Aside0.mk hb2
  clear hr hb2
  go_wp2
  go_ret2
  have hR : RV w2 w.heap.size gR X (m0 n) := R2.out.lower B1.out.size
  exact ⟨g, v0, v1, gR, X, rfl, ⟨D1.out.below B2.out, hR, fun k hk hq => by have h1 := D1.out.foot_lt k hk; have h2 := R2.out.foot_ge k hq; omega, (below_step B1.out B2.out).size⟩, below_step B1.out B2.out⟩
theorem scanL_nil {l : List Int} (h : rd l 0 ≠ 90) : scanL l = [] := scanL_no l (fun hf => h hf.2.1)
theorem rep0 : blankB (List.replicate 64 0) = true ∧ scanL (List.replicate 64 0) = [] := ⟨by decide, scanL_nil (by decide)⟩
theorem m0_sec (n i : Nat) (hi : i < n) : (m0 n).now.getD i zB = List.replicate 64 0 := by
  unfold m0
  simp [List.getD_eq_getElem?_getD, hi]
theorem open_m0 (n : Nat) : openM (m0 n) = ⟨0, [], []⟩ := by
  have hl : (m0 n).now.length = n := by unfold m0; simp
  have h : ∀ i, i ≤ n → opA (m0 n).now i = 0 ∧ opR (m0 n).now i = [] := by
    intro i
    induction i with
    | zero => intro _; exact ⟨rfl, rfl⟩
    | succ i ih =>
      intro hi
      obtain ⟨h1, h2⟩ := ih (by omega)
      unfold opA opR
      rw [m0_sec n i (by omega), rep0.1, rep0.2, if_pos rfl, h1, h2]
      exact ⟨rfl, rfl⟩
  unfold openM
  rw [hl, (h n (Nat.le_refl _)).1, (h n (Nat.le_refl _)).2]
theorem BM_m0 (n : Nat) : BM (m0 n) := by
  have hr : Byt (List.replicate 64 0) := fun x hx => by rw [List.eq_of_mem_replicate hx]; omega
  refine ⟨fun s hs => ?_, fun s hs => ?_, fun p hp => ?_⟩
  · rw [List.eq_of_mem_replicate (show s ∈ List.replicate n (List.replicate 64 0) from hs)]; exact hr
  · rw [List.eq_of_mem_replicate (show s ∈ List.replicate n (List.replicate 64 0) from hs)]; exact hr
  · cases (show p ∈ ([] : List (Int × List Int)) from hp)
theorem SI_new (N : Nat) : SI ⟨0, [], []⟩ N := ⟨Int.le_refl _, by show (0 : Int) ≤ N; omega, by show 0 ≤ 64; omega, fun h => absurd rfl h, fun _ h => by cases h⟩
end Go.Proofs.Ytldddinebhopcaa.St
namespace Go.Proofs.Ytldddinebhopcaa.St
open Go.RowKit Go.Shelf Go.Proofs.YtldddinebhopcaaW.PrintWords Go.Proofs.YtldddinebhopcaaW.PrintLast Go.Proofs.YtldddinebhopcaaW.PrintMore Go.Proofs.Ytldddinebhopcaa.Bs Go.Proofs.Ytldddinebhopcaa.Fr Go.Proofs.Ytldddinebhopcaa.Oct Go.Proofs.Ytldddinebhopcaa.Sec Go.Proofs.Ytldddinebhopcaa.Rg
set_option linter.unusedVariables false
set_option linter.unusedSimpArgs false
theorem Byt.app {a b : List Int} (h : Byt a) (k : Byt b) : Byt (a ++ b) := fun x hx => (List.mem_append.1 hx).elim (h x) (k x)
theorem padL_byt {l : List Int} (h : Byt l) : Byt (padL l) := Byt.app h (fun x hx => by rw [List.eq_of_mem_replicate hx]; omega)
theorem set_byt {s : List (List Int)} {b : List Int} (hs : ∀ x ∈ s, Byt x) (hb : Byt b) (i : Nat) : ∀ x ∈ s.set i b, Byt x := fun x hx => by
  rcases List.mem_or_eq_of_mem_set hx with h | h
  · exact hs x h
  · rw [h]; exact hb
theorem getD_byt {s : List (List Int)} (hs : ∀ x ∈ s, Byt x) (i : Nat) : Byt (s.getD i zB) := by
  rcases Nat.lt_or_ge i s.length with h | h
  · rw [List.getD_eq_getElem?_getD, List.getElem?_eq_getElem h]; exact hs _ (List.getElem_mem h)
  · rw [List.getD_eq_getElem?_getD, List.getElem?_eq_none h]; intro x hx; cases (show x ∈ ([] : List Int) from hx)
theorem laid_byt (l : List (Int × List Int)) : ∀ s : List (List Int), (∀ x ∈ s, Byt x) → (∀ p ∈ l, Byt p.2) → ∀ x ∈ laid s l, Byt x := by
  induction l with
  | nil => intro s hs _; exact hs
  | cons p r ih => intro s hs hl; exact ih _ (set_byt hs (hl p List.mem_cons_self) _) (fun q hq => hl q (List.mem_cons_of_mem _ hq))
theorem BM.took {m : DM} (h : BM m) : BM (took m) := h
theorem BM.waits {m : DM} (h : BM m) (l : List Int) : BM (waits m l) := h
theorem BM.wrM {m : DM} (h : BM m) (i : Int) {b : List Int} (hb : Byt b) : BM (wrM m i b) := by
  unfold Sec.wrM
  split
  · split
    · exact h
    · refine ⟨set_byt h.1 hb _, h.2.1, fun p hp => ?_⟩
      rcases List.mem_append.1 (show p ∈ m.since ++ [((i.toNat : Int), b)] from hp) with q | q
      · exact h.2.2 p q
      · rw [List.mem_singleton.1 q]; exact hb
  · exact h
theorem BM.syM {m : DM} (h : BM m) : BM (syM m) := by
  unfold Sec.syM
  split
  · exact h
  · exact ⟨h.1, laid_byt _ _ h.2.1 h.2.2, fun p hp => by cases (show p ∈ ([] : List (Int × List Int)) from hp)⟩
theorem leftM_byt {a b : List Int} (ha : Byt a) (hb : Byt b) (c : Int) : Byt (leftM a b c) := by
  unfold leftM
  split
  · exact hb
  · split
    · exact ha
    · exact Byt.app (hb.take _) (ha.drop _)
theorem crashTo_byt {s : List (List Int)} {l : List (Int × List Int)} (hs : ∀ x ∈ s, Byt x) (hl : ∀ p ∈ l, Byt p.2) (ch : List Int) : ∀ j, ∀ x ∈ crashTo s l ch j, Byt x
  | 0 => hs
  | j + 1 => by
    refine set_byt (crashTo_byt hs hl ch j) (leftM_byt (getD_byt (crashTo_byt hs hl ch j) _) ?_ _) _
    rcases Nat.lt_or_ge j l.length with h | h
    · rw [List.getD_eq_getElem?_getD, List.getElem?_eq_getElem h]; exact hl _ (List.getElem_mem h)
    · rw [List.getD_eq_getElem?_getD, List.getElem?_eq_none h]; intro x hx; cases (show x ∈ ([] : List Int) from hx)
theorem BM.crashed {m : DM} (h : BM m) (ch : List Int) : BM (crashed m ch) := ⟨crashTo_byt h.2.1 h.2.2 ch _, crashTo_byt h.2.1 h.2.2 ch _, fun p hp => by cases (show p ∈ ([] : List (Int × List Int)) from hp)⟩
theorem wrM_len (m : DM) (i : Int) (b : List Int) : (wrM m i b).now.length = m.now.length := by
  unfold wrM
  split
  · split
    · rfl
    · show (m.now.set _ b).length = _; rw [List.length_set]
  · rfl
theorem syM_len (m : DM) : (syM m).now.length = m.now.length := by
  unfold syM
  split <;> rfl
theorem stM_SI {m : SM} {d : DM} (h : SI m d.now.length) (b : List Int) : SI (stM m d b) d.now.length ∧ ((stM m d b).at_ < d.now.length → (stM m d b).ahead.length + (b.length + 7) ≤ 64 ∨ 57 < b.length) := by
  unfold stM stepM
  split
  · rename_i hc
    refine ⟨h.next hc.1, fun _ => ?_⟩
    show 0 + (b.length + 7) ≤ 64 ∨ _
    omega
  · rename_i hc
    refine ⟨h, fun hl => ?_⟩
    have hc : ¬ (m.at_ < (d.now.length : Int) ∧ 64 < m.ahead.length + (b.length + 7)) := hc
    left
    omega
/-- Append of any body. -/
def aE (m : SM) (d : DM) (b : List Int) : Int := if b.length = 0 ∨ 56 < b.length then (if b.length = 0 then 1 else 3) else apE m d b
def aD (m : SM) (d : DM) (b : List Int) : DM := if b.length = 0 ∨ 56 < b.length then d else apD m d b
def aS (m : SM) (d : DM) (b : List Int) : SM := if b.length = 0 ∨ 56 < b.length then m else apS m d b
theorem aD_len (m : SM) (d : DM) (b : List Int) : (aD m d b).now.length = d.now.length := by
  unfold aD apD
  split
  · rfl
  · split
    · rfl
    · exact wrM_len _ _ _
theorem aD_BM {m : SM} {d : DM} (h : BM d) (hi : SI m d.now.length) {b : List Int} (hb : Byt b) : BM (aD m d b) := by
  unfold aD apD
  split
  · exact h
  · split
    · exact h
    · exact h.wrM _ (padL_byt (Byt.app (stM_SI hi b).1.byt (frameL_byt b hb (by omega))))
theorem aS_SI {m : SM} {d : DM} (h : SI m d.now.length) {b : List Int} (hb : Byt b) : SI (aS m d b) d.now.length := by
  obtain ⟨h1, h2⟩ := stM_SI h b
  unfold aS apS
  split
  · exact h
  · rename_i hc
    split
    · exact h1
    · rename_i hf
      have hl : (stM m d b).at_ < d.now.length := by unfold apFull at hf; omega
      split
      · exact h1.next hl
      · refine ⟨h1.a0, h1.a1, ?_, fun _ => hl, Byt.app h1.byt (frameL_byt b hb (by omega))⟩
        show ((stM m d b).ahead ++ frameL b).length ≤ 64
        rw [List.length_append, frameL_len]
        rcases h2 hl with q | q <;> omega
theorem sySM_SI {m : SM} {N : Nat} (h : SI m N) (e : Int) : SI (sySM m e) N := by
  unfold sySM
  split
  · rename_i hc
    exact h.next (h.e (fun hh => hc.2 (by rw [hh]; rfl)))
  · exact h
theorem opA_SI (d : DM) : SI (openM d) d.now.length := ⟨(opA_range _ _).1, (opA_range _ _).2, by show 0 ≤ 64; omega, fun h => absurd rfl h, fun _ h => by cases h⟩
theorem aS_recs (m : SM) (d : DM) (b : List Int) : (aS m d b).recs.length ≤ m.recs.length + 1 := by
  have hst : (stM m d b).recs = m.recs := by unfold stM stepM; split <;> rfl
  unfold aS apS
  split
  · omega
  · split
    · rw [hst]; omega
    · split
      · show (stM m d b).recs.length ≤ _; rw [hst]; omega
      · show ((stM m d b).recs ++ [_]).length ≤ _; rw [hst, List.length_append]; exact Nat.le_refl _
theorem sySM_recs (m : SM) (e : Int) : (sySM m e).recs = m.recs := by unfold sySM; split <;> rfl
theorem aS_short {m : SM} (d : DM) (b : List Int) (h : ∀ r ∈ m.recs, r.1.length ≤ 1000) : ∀ r ∈ (aS m d b).recs, r.1.length ≤ 1000 := by
  have hst : (stM m d b).recs = m.recs := by unfold stM stepM; split <;> rfl
  unfold aS apS
  split
  · exact h
  · rename_i hc
    split
    · rw [hst]; exact h
    · split
      · intro r hr; exact h r (by rw [← hst]; exact hr)
      · intro r hr
        rcases List.mem_append.1 (show r ∈ (stM m d b).recs ++ [(b, (stM m d b).at_)] from hr) with q | q
        · exact h r (by rw [← hst]; exact q)
        · rw [List.mem_singleton.1 q]; show b.length ≤ 1000; omega
/-- A strand over its disk, apart from all of E. -/
structure SD (w : World) (base : Nat) (E : Nat → Prop) (g : Nat) (v0 v1 v2 v3 : Value) (d : DM) (gs : Nat) (u2 u3 : Value) (m : SM) : Prop where
  dv : DV w base g v0 v1 v2 v3 d
  sv : SV w base (fun k => ¬ foot g v0 v1 v2 v3 k ∧ ¬ E k) gs g u2 u3 m
  gn : ¬ foot g v0 v1 v2 v3 gs
  b : base ≤ w.heap.size
  bm : BM d
  i : SI m d.now.length
  gg : base ≤ gs
  short : ∀ r ∈ m.recs, r.1.length ≤ 1000
  e : ∀ k, E k → k < w.heap.size
  ne : ¬ E gs
  nd : ∀ k, foot g v0 v1 v2 v3 k → ¬ E k
/-- All that a strand and its disk may write. -/
def sfoot (g : Nat) (v0 v1 v2 v3 : Value) (gs : Nat) (u3 : Value) : Nat → Prop := fun k => foot g v0 v1 v2 v3 k ∨ k = gs ∨ own u3 k
section
variable {w w' : World} {base : Nat} {E : Nat → Prop} {g : Nat} {v0 v1 v2 v3 : Value} {d : DM} {gs : Nat} {u2 u3 : Value} {m : SM}
theorem SD.keep (h : SD w base E g v0 v1 v2 v3 d gs u2 u3 m) {F : Nat → Prop} (k : Fr w w' F) (hF : ∀ q, F q → E q) : SD w' base E g v0 v1 v2 v3 d gs u2 u3 m :=
  ⟨h.dv.keep k (fun q hq hf => h.nd q hq (hF q hf)), h.sv.keep k (fun q hq hf => hq.2 (hF q hf)) (fun hf => h.ne (hF _ hf)), h.gn, Nat.le_trans h.b k.size, h.bm, h.i, h.gg, h.short, fun q hq => Nat.lt_of_lt_of_le (h.e q hq) k.size, h.ne, h.nd⟩
theorem SD.below (h : SD w base E g v0 v1 v2 v3 d gs u2 u3 m) (hb : Below w.heap.size w w') : SD w' base E g v0 v1 v2 v3 d gs u2 u3 m :=
  h.keep (F := fun _ => False) (Fr.of_below hb _) (fun _ hf => hf.elim)
/-- E may be another, if it is apart from what is written, and from what lies there. -/
theorem SD.lt (h : SD w base E g v0 v1 v2 v3 d gs u2 u3 m) : ∀ k, sfoot g v0 v1 v2 v3 gs u3 k → k < w.heap.size ∧ base ≤ k ∧ ¬ E k := by
  rintro k (hk | rfl | hk)
  · exact ⟨h.dv.foot_lt k hk, h.dv.foot_ge k hk, h.nd k hk⟩
  · exact ⟨blk_lt h.sv.blk, h.gg, h.ne⟩
  · have := h.sv.recs.1 k hk
    exact ⟨Kd.R_lt h.sv.recs k hk, Kd.R_base h.sv.recs k hk, this.2⟩
/-- An argument's row, that was there ahead of all. -/
theorem arg_out {w0 : World} {A : Option Addr} {b : List Int} (hC : Kd.C (Kd.int .u8) w0 A b.length b) (h : SD w base E g v0 v1 v2 v3 d gs u2 u3 m) (hb : w0.heap.size ≤ base) : ∀ a, A = some a → 0 < b.length → ¬ sfoot g v0 v1 v2 v3 gs u3 a.block := by
  intro a ha h0 hf
  obtain ⟨ad, e, hc⟩ := (Kd.reads_of_C (d := (0 : Int)) hC).2.2 h0
  rw [ha] at e
  injection e with e
  subst e
  have h1 := hc 0 h0
  have hlt : a.block < w0.heap.size := by
    have e0 : a.add 0 = a := by unfold Addr.add; simp
    rw [e0] at h1
    obtain ⟨o, ho, _⟩ := not_walk_of_cell h1
    exact blk_lt ho
  have := (h.lt _ hf).2.1
  omega
end
end Go.Proofs.Ytldddinebhopcaa.St
namespace Go.Proofs.Ytldddinebhopcaa.St
open Go.RowKit Go.Shelf Go.Proofs.YtldddinebhopcaaW.PrintWords Go.Proofs.YtldddinebhopcaaW.PrintLast Go.Proofs.YtldddinebhopcaaW.PrintMore Go.Proofs.Ytldddinebhopcaa.Bs Go.Proofs.Ytldddinebhopcaa.Fr Go.Proofs.Ytldddinebhopcaa.Oct Go.Proofs.Ytldddinebhopcaa.Sec Go.Proofs.Ytldddinebhopcaa.Rg
set_option linter.unusedVariables false
set_option linter.unusedSimpArgs false
section
variable {w : World} {base : Nat} {E : Nat → Prop} {g : Nat} {v0 v1 v2 v3 : Value} {d : DM} {gs : Nat} {u2 u3 : Value} {m : SM}
theorem SD_append (h : SD w base E g v0 v1 v2 v3 d gs u2 u3 m) (ho : 0 ≤ d.ops ∧ d.ops ≤ 1000000000) (hs : d.since.length ≤ 1000000) (hr : m.recs.length ≤ 1000000) (A : Option Addr) (c : Nat) (b : List Int) (hC : Kd.C (Kd.int .u8) w A b.length b) (hc : b.length ≤ c) (hB : Byt b)
    (hA : ∀ a, A = some a → 0 < b.length → ¬ sfoot g v0 v1 v2 v3 gs u3 a.block) :
    Calls Try.prog 14 #[.pointer (some ⟨gs, 0, none⟩), .slice A b.length c] w fun e w' => e = .returned (.int .i64 (aE m d b)) ∧ ∃ u2' u3' v2' v3', SD w' base E g v0 v1 v2' v3' (aD m d b) gs u2' u3' (aS m d b) ∧ Fr w w' (sfoot g v0 v1 v2 v3 gs u3) ∧ ∀ k, sfoot g v0 v1 v2' v3' gs u3' k → sfoot g v0 v1 v2 v3 gs u3 k ∨ w.heap.size ≤ k := by
  by_cases hb : b.length = 0 ∨ 56 < b.length
  · refine (Append_bad w base gs g _ u2 u3 m h.sv A b.length c hb).mono ?_
    rintro e w' ⟨rfl, rfl⟩
    unfold aE aD aS
    rw [if_pos hb, if_pos hb, if_pos hb]
    exact ⟨rfl, u2, u3, v2, v3, h, Fr.refl _ _, fun k hk => .inl hk⟩
  · refine (Append_calls w base gs g _ u2 u3 v0 v1 v2 v3 m d h.sv h.dv ho hs h.b h.i hr (fun k hk => hk.1) h.gn A c b hC hc (by omega) hB hA).mono ?_
    rintro e w' ⟨rfl, u2', u3', v2', v3', R⟩
    have hbm := aD_BM h.bm h.i hB
    have hsi := aS_SI h.i hB
    have hln := aD_len m d b
    have hsh := aS_short d b h.short
    rw [← hln] at hsi
    unfold aE aD aS at *
    rw [if_neg hb] at hbm hln
    simp only [if_neg hb] at hsi hsh
    rw [if_neg hb, if_neg hb, if_neg hb]
    have hlt := h.lt
    refine ⟨rfl, u2', u3', v2', v3', ⟨R.d, R.s.okto ?_, R.g, Nat.le_trans h.b R.f.size, hbm, hsi, h.gg, hsh, fun k hk => Nat.lt_of_lt_of_le (h.e k hk) R.f.size, h.ne, ?_⟩, R.f, ?_⟩
    · rintro k ⟨hk, hf⟩ _ _
      refine ⟨hf, fun hE => ?_⟩
      rcases hk with hk | hk
      · exact hk.2 hE
      · have := h.e k hE; omega
    · intro k hk hE
      rcases R.fd k hk with q | q
      · exact h.nd k q hE
      · have := h.e k hE; omega
    · rintro k (hk | hk | hk)
      · exact (R.fd k hk).imp .inl id
      · exact .inl (.inr (.inl hk))
      · exact (R.fs k hk).imp (fun q => .inr (.inr q)) id
theorem SD_sync (h : SD w base E g v0 v1 v2 v3 d gs u2 u3 m) (ho : 0 ≤ d.ops ∧ d.ops ≤ 1000000000) (hs : d.since.length ≤ 1000000) :
    Calls Try.prog 23 #[.pointer (some ⟨gs, 0, none⟩)] w fun e w' => e = .returned (.int .i64 (tell (outc d))) ∧ ∃ u2' v2' v3', SD w' base E g v0 v1 v2' v3' (syM d) gs u2' u3 (sySM m (tell (outc d))) ∧ Fr w w' (sfoot g v0 v1 v2 v3 gs u3) ∧ ∀ k, sfoot g v0 v1 v2' v3' gs u3 k → sfoot g v0 v1 v2 v3 gs u3 k ∨ w.heap.size ≤ k := by
  refine (SSync_calls w base gs g _ u2 u3 v0 v1 v2 v3 m d h.sv h.dv ho hs h.b ⟨h.i.a0, by have h1 := h.i.a1; have h2 := h.dv.n2; omega⟩ h.i.l (fun k hk => hk.1) h.gn).mono ?_
  rintro e w' ⟨rfl, u2', v2', v3', hd, hsv, hg, hf, hft⟩
  have hsi := sySM_SI h.i (tell (outc d))
  rw [← syM_len] at hsi
  refine ⟨rfl, u2', v2', v3', ⟨hd, hsv.okto ?_, hg, Nat.le_trans h.b hf.size, h.bm.syM, hsi, h.gg, by rw [sySM_recs]; exact h.short, fun k hk => Nat.lt_of_lt_of_le (h.e k hk) hf.size, h.ne, ?_⟩, hf.mono (fun k hk => hk.elim .inl (fun q => .inr (.inl q))), ?_⟩
  · rintro k ⟨hk, hf'⟩ _ _
    exact ⟨hf', hk.2⟩
  · intro k hk hE
    rcases hft k hk with q | q
    · exact h.nd k q hE
    · have := h.e k hE; omega
  · rintro k (hk | hk)
    · exact (hft k hk).imp .inl id
    · exact .inl (.inr hk)
theorem SD_outcomes (h : SD w base E g v0 v1 v2 v3 d gs u2 u3 m) (A : Option Addr) (c : Nat) (l : List Int) (hC : Kd.C (Kd.int .u8) w A l.length l) (hl : d.wait.length + l.length ≤ 100000000) (hB : Byt l) :
    Calls Try.prog 24 #[.pointer (some ⟨g, 0, none⟩), .slice A l.length c] w fun e w' => e = .returned (.tuple #[]) ∧ ∃ v3', SD w' base E g v0 v1 v2 v3' (waits d (d.wait ++ l)) gs u2 u3 m ∧ Fr w w' (sfoot g v0 v1 v2 v3 gs u3) ∧ ∀ k, sfoot g v0 v1 v2 v3' gs u3 k → sfoot g v0 v1 v2 v3 gs u3 k ∨ w.heap.size ≤ k := by
  refine (Outcomes_calls w base g v0 v1 v2 v3 d h.dv A c l hC hl hB h.b).mono ?_
  rintro e w' ⟨rfl, v3', hd, hf, hft⟩
  have h1 := h.sv.okto (ok' := fun k => (¬ foot g v0 v1 v2 v3 k ∧ ¬ E k) ∧ k < w.heap.size) (fun k q1 _ q3 => ⟨q1, q3⟩)
  refine ⟨rfl, v3', ⟨hd, (h1.keep hf (fun q hq => hq.1.1) h.gn).okto ?_, ?_, Nat.le_trans h.b hf.size, h.bm, h.i, h.gg, h.short, fun k hk => Nat.lt_of_lt_of_le (h.e k hk) hf.size, h.ne, ?_⟩, hf.mono (fun k hk => .inl hk), ?_⟩
  · rintro k ⟨hk, hlt⟩ _ _
    refine ⟨fun hf' => ?_, hk.2⟩
    rcases hft k hf' with q | q
    · exact hk.1 q
    · omega
  · intro hf'
    rcases hft gs hf' with q | q
    · exact h.gn q
    · have := blk_lt h.sv.blk; omega
  · intro k hk hE
    rcases hft k hk with q | q
    · exact h.nd k q hE
    · have := h.e k hE; omega
  · rintro k (hk | hk)
    · exact (hft k hk).imp .inl id
    · exact .inl (.inr hk)
end
theorem bodyL_short {l : List Int} (h : isF l) : (bodyL l).length ≤ 56 := by
  obtain ⟨_, _, h1, h2, _, _⟩ := h
  unfold bodyL
  rw [List.length_drop, List.length_take]
  omega
theorem scanM_short : ∀ (k : Nat) (l : List Int), ∀ b ∈ scanM k l, b.length ≤ 56
  | 0, l => fun b hb => by cases hb
  | k + 1, l => by
    unfold scanM
    split
    · rename_i h
      intro b hb
      rcases List.mem_cons.1 hb with rfl | q
      · exact bodyL_short h
      · exact scanM_short k _ b q
    · intro b hb; cases hb
theorem opR_short (s : List (List Int)) : ∀ i, ∀ r ∈ opR s i, r.1.length ≤ 1000
  | 0 => fun r hr => by cases hr
  | i + 1 => by
    unfold opR
    intro r hr
    rcases List.mem_append.1 hr with q | q
    · exact opR_short s i r q
    · unfold tagL at q
      obtain ⟨b, hb, rfl⟩ := List.mem_map.1 q
      have := scanM_short _ _ b hb
      show b.length ≤ 1000
      omega
theorem SD_open {w : World} {base g : Nat} {v0 v1 v2 v3 : Value} {d : DM} (E : Nat → Prop) (h : DV w base g v0 v1 v2 v3 d) (hb : base ≤ w.heap.size) (hB : BM d) (hE : ∀ k, E k → k < w.heap.size) (hn : ∀ k, foot g v0 v1 v2 v3 k → ¬ E k) :
    Calls Try.prog 13 #[.pointer (some ⟨g, 0, none⟩)] w fun e w' => ∃ gs u3, e = .returned (.tuple #[.pointer (some ⟨gs, 0, none⟩), .int .i64 0]) ∧ SD w' base E g v0 v1 v2 v3 d gs (.slice none 0 0) u3 (openM d) ∧ w.heap.size ≤ gs ∧ (∀ k, own u3 k → w.heap.size ≤ k) ∧ Below w.heap.size w w' := by
  refine (Open_calls w base g v0 v1 v2 v3 d h hB).mono ?_
  rintro e w' ⟨gs, u3, rfl, hs, hg, hbl⟩
  refine ⟨gs, u3, rfl, ⟨h.below hbl, (hs.okto ?_).lower hb, fun hf => by have := h.foot_lt gs hf; omega, Nat.le_trans hb hbl.size, hB, opA_SI d, Nat.le_trans hb hg, opR_short _ _, fun k hk => Nat.lt_of_lt_of_le (hE k hk) hbl.size, fun he => by have := hE gs he; omega, hn⟩, hg, fun k hk => Kd.R_base hs.recs k hk, hbl⟩
  intro k _ hk _
  exact ⟨fun hf => by have := h.foot_lt k hf; omega, fun he => by have := hE k he; omega⟩
end Go.Proofs.Ytldddinebhopcaa.St
namespace Go.Proofs.Ytldddinebhopcaa.St
open Go.RowKit Go.Shelf Go.Proofs.YtldddinebhopcaaW.PrintWords Go.Proofs.YtldddinebhopcaaW.PrintLast Go.Proofs.YtldddinebhopcaaW.PrintMore Go.Proofs.Ytldddinebhopcaa.Bs Go.Proofs.Ytldddinebhopcaa.Fr Go.Proofs.Ytldddinebhopcaa.Oct Go.Proofs.Ytldddinebhopcaa.Sec Go.Proofs.Ytldddinebhopcaa.Rg
set_option linter.unusedVariables false
set_option linter.unusedSimpArgs false
theorem m0_fine (n : Nat) : (0 ≤ (m0 n).ops ∧ (m0 n).ops ≤ 1000000000) ∧ (m0 n).since.length ≤ 1000000 ∧ outc (m0 n) = 0 ∧ (m0 n).now.length = n := ⟨⟨Int.le_refl _, by show (0 : Int) ≤ _; omega⟩, by show 0 ≤ _; omega, rfl, by unfold m0; simp⟩
def a1 : List Int := [97]
theorem a1_byt : Byt a1 := fun x hx => by rw [List.mem_singleton.1 hx]; omega
theorem a1_len : a1.length = 1 := rfl
/-- The first record, on a fresh disk. -/
theorem first_rec (n : Nat) (hn : 1 ≤ n) : aE ⟨0, [], []⟩ (m0 n) a1 = 0 ∧ aS ⟨0, [], []⟩ (m0 n) a1 = ⟨0, frameL a1, [(a1, 0)]⟩ ∧ aD ⟨0, [], []⟩ (m0 n) a1 = wrM (m0 n) 0 (padL (frameL a1)) := by
  have hl := (m0_fine n).2.2.2
  have ho := (m0_fine n).2.2.1
  have hst : stM ⟨0, [], []⟩ (m0 n) a1 = ⟨0, [], []⟩ := by
    unfold stM stepM
    rw [if_neg]
    intro h
    have h2 : 64 < 0 + (a1.length + 7) := h.2
    rw [a1_len] at h2
    omega
  have hf : ¬ apFull ⟨0, [], []⟩ (m0 n) a1 := by
    unfold apFull
    rw [hst, hl]
    show ¬ ((n : Int) ≤ 0)
    omega
  have hb : ¬ (a1.length = 0 ∨ 56 < a1.length) := by rw [a1_len]; omega
  have ht : tell (outc (m0 n)) = 0 := by rw [ho]; rfl
  unfold aE aS aD
  rw [if_neg hb, if_neg hb, if_neg hb]
  unfold apE apS apD
  rw [if_neg hf, if_neg hf, if_neg hf, hst, ht]
  exact ⟨rfl, rfl, rfl⟩
/-- The bytes of "a", as a slice of one's own. -/
def aO : Obj := .cells #[.int .u8 97] 5 (1, 2)
theorem conv_a (w : World) : (convert 23 23 (.slice (some ⟨w.heap.size, 0, none⟩) 1 1)).run Try.prog (w.alloc (.cells #[.int .u8 97] 5)) = .ok (.slice (some ⟨w.heap.size, 0, none⟩) 1 1) (w.alloc aO) :=
  Lib.run_convert_bytes_const w 23 5 #[.int .u8 97] 1 1 Try.underlying23 Try.underlying5
theorem C_a (w : World) : Kd.C (Kd.int .u8) (w.alloc aO) (some ⟨w.heap.size, 0, none⟩) a1.length a1 := by
  refine Kd.C_of_reads (d := (0 : Int)) (h1 := fun _ => rfl) ⟨rfl, by rw [a1_len]; decide, fun _ => ⟨⟨w.heap.size, 0, none⟩, rfl, fun j hj => ?_⟩⟩
  rw [a1_len] at hj
  obtain rfl : j = 0 := by omega
  have h := blk_new w aO
  have e : (⟨w.heap.size, 0, none⟩ : Addr).add 0 = ⟨w.heap.size, 0, none⟩ := by rw [add0]
  rw [e]
  unfold World.cell?
  rw [h]
  rfl
set_option maxHeartbeats 2000000 in
set_option maxRecDepth 100000 in
theorem awake_calls (w : World) : Calls Try.prog 10 #[] w fun e w' => e = .returned (.bool true) ∧ Below w.heap.size w w' := by
  go_enter Try.func10, Try.ntmps10
  go_wp2_with fail
  refine (both_calls w 2 (by omega) (by omega)).mono ?_
  rintro e w1 ⟨g, v0, v1, gR, X, rfl, hT, hb1⟩
  have T1 := Aside0.mk hT
  have B1 := Aside0.mk hb1
  clear hT hb1
  go_wp2_with fail
  refine (SD_open (fun _ => False) T1.out.d T1.out.bs (BM_m0 2) (fun _ h => h.elim) (fun _ _ h => h)).mono ?_
  rintro e w2 ⟨gs, u3, rfl, hS, hgs, hus, hb2⟩
  rw [open_m0] at hS
  have S2 := Aside0.mk hS
  have B2 := Aside0.mk (below_step B1.out hb2)
  have HF2 : Aside0 (∀ k, sfoot g v0 v1 (.slice none 0 0) (.slice none 0 0) gs u3 k → w.heap.size ≤ k) := ⟨fun k hk => (hS.lt k hk).2.1⟩
  have HLT2 : Aside0 (∀ k, sfoot g v0 v1 (.slice none 0 0) (.slice none 0 0) gs u3 k → k < w2.heap.size) := ⟨fun k hk => (hS.lt k hk).1⟩
  clear hS hgs hus hb2
  obtain ⟨fe, fs, fd⟩ := first_rec 2 (by omega)
  have FE := Aside0.mk (And.intro fe (And.intro fs fd))
  clear fe fs fd
  have CA := Aside0.mk (C_a w2)
  have SA := Aside0.mk (S2.out.below (below_alloc (Below.refl _ _) aO))
  have hconv := conv_a w2
  go_wp2_with fail
  clear hconv
  refine (SD_append (b := a1) SA.out (m0_fine 2).1 (m0_fine 2).2.1 (by decide) (some ⟨w2.heap.size, 0, none⟩) 1 CA.out (by rw [a1_len]; exact Nat.le_refl _) a1_byt (fun a ha _ hf => by
    injection ha with ha
    subst ha
    have := HLT2.out _ hf
    exact absurd this (Nat.lt_irrefl _))).mono ?_
  rintro e w3 ⟨rfl, x2, x3, y2, y3, hS3, hf3, hft3⟩
  rw [FE.out.1]
  rw [FE.out.2.1] at hS3
  have S3 := Aside0.mk hS3
  have B3 : Aside0 (Below w.heap.size w w3) := ⟨below_fr (below_alloc B2.out aO) (below_alloc B2.out aO).size hf3 (fun k hk => HF2.out k hk)⟩
  clear hS3 hf3 hft3
  go_wp2_with fail
  refine (Place_calls w3 w.heap.size gs g _ x2 x3 _ S3.out.sv).mono ?_
  rintro e w4 ⟨rfl, rfl⟩
  have hfl : ((frameL a1).length : Int) = 8 := by rw [frameL_len]; rfl
  rw [show (⟨0, frameL a1, [(a1, 0)]⟩ : SM).ahead = frameL a1 from rfl, hfl]
  go_wp2_with fail
  refine (All_calls w3.drew w.heap.size gs g _ x2 x3 _ (S3.out.below (below_drew (Below.refl _ _))).sv (by show 1 ≤ _; decide) S3.out.short).mono ?_
  rintro e w5 ⟨v5, rfl, hR5, hb5⟩
  have R5 : Aside0 (Kd.R kL 23 w5 w3.drew.heap.size (fun _ => True) v5 [a1]) := ⟨hR5⟩
  have B5 := Aside0.mk (below_step B3.out.drew hb5)
  clear hR5 hb5
  obtain ⟨g5, c5, rfl, _⟩ := Kd.R_form R5.out (by decide)
  obtain ⟨cs, hcl, hM, hcc, _⟩ := Kd.R_elem R5.out ([] : List Int) 0 (by decide) (by decide)
  obtain ⟨v6, rfl, hR6⟩ := hM
  obtain ⟨A6, c6, ev⟩ := Kd.R_slice hR6
  subst ev
  have hR6 : Kd.R (Kd.int .u8) 5 w5 w3.drew.heap.size _ (.slice A6 a1.length c6) a1 := hR6
  have kk : w5.cell? ⟨g5, 0, none⟩ = some (.slice A6 1 c6) := hcc 0 _ rfl
  have C6 := Aside0.mk (Kd.R_reads' hR6).2.2
  have hst : (convert 23 9 (.slice A6 1 c6)).run Try.prog w5 = .ok (.string ⟨#[97]⟩) w5 := conv_C C6.out (by decide) c6
  have hl1 : [a1].length = 1 := rfl
  rw [hl1]
  clear hcl hcc hR6 hfl
  go_wp2
  go_ret
  exact ⟨rfl, B5.out⟩
end Go.Proofs.Ytldddinebhopcaa.St
namespace Go.Proofs.Ytldddinebhopcaa.St
open Go.RowKit Go.Shelf Go.Proofs.YtldddinebhopcaaW.PrintWords Go.Proofs.YtldddinebhopcaaW.PrintLast Go.Proofs.YtldddinebhopcaaW.PrintMore Go.Proofs.Ytldddinebhopcaa.Bs Go.Proofs.Ytldddinebhopcaa.Fr Go.Proofs.Ytldddinebhopcaa.Oct Go.Proofs.Ytldddinebhopcaa.Sec Go.Proofs.Ytldddinebhopcaa.Rg Go.Proofs.Ytldddinebhopcaa.PStrandPlays
set_option linter.unusedVariables false
set_option linter.unusedSimpArgs false
theorem getD_eq_drop {l k : List Int} {i : Nat} (hi : i < l.length) (hk : l.length = k.length) : (l.drop i = k.drop i) ↔ (rd l (i : Int) = rd k (i : Int) ∧ l.drop (i + 1) = k.drop (i + 1)) := by
  have h1 : l.drop i = rd l (i : Int) :: l.drop (i + 1) := by
    rw [List.drop_eq_getElem_cons hi]; simp [rd, List.getD_eq_getElem?_getD, List.getElem?_eq_getElem hi]
  have hi' : i < k.length := by omega
  have h2 : k.drop i = rd k (i : Int) :: k.drop (i + 1) := by
    rw [List.drop_eq_getElem_cons hi']; simp [rd, List.getD_eq_getElem?_getD, List.getElem?_eq_getElem hi']
  rw [h1, h2, List.cons.injEq]
theorem same_l0 (l k : List Int) (hl : l.length ≤ 1000000) (hk : l.length = k.length) : ∀ (m i j : Nat), i + m = l.length → m + 1 ≤ j → bailiwickref1_Same.l0 j l k (i : Int) = some (decide (l.drop i = k.drop i)) := by
  intro m
  induction m with
  | zero =>
    intro i j hi hj
    obtain ⟨j, rfl⟩ : ∃ j', j = j' + 1 := ⟨j - 1, by omega⟩
    unfold bailiwickref1_Same.l0
    rw [if_neg (by omega), List.drop_of_length_le (by omega), List.drop_of_length_le (by omega)]
    simp
  | succ m ih =>
    intro i j hi hj
    obtain ⟨j, rfl⟩ : ∃ j', j = j' + 1 := ⟨j - 1, by omega⟩
    unfold bailiwickref1_Same.l0
    rw [if_pos (by omega), if_pos (by omega), if_pos (by omega), wrap_1 i (by omega)]
    have hd := getD_eq_drop (i := i) (by omega) hk
    by_cases h : rd l (i : Int) = rd k (i : Int)
    · rw [if_pos h, ih (i + 1) j (by omega) (by omega)]
      congr 1
      rw [decide_eq_decide, hd]
      simp [h]
    · rw [if_neg h]
      congr 1
      symm
      rw [decide_eq_false_iff_not, hd]
      exact fun hh => h hh.1
theorem same_f (l k : List Int) (hl : l.length ≤ 1000000) : ∀ j, l.length + 1 ≤ j → bailiwickref1_Same.f j l k = some (decide (l = k)) := by
  intro j hj
  unfold bailiwickref1_Same.f
  by_cases h : l.length = k.length
  · rw [if_pos (by omega)]
    exact same_l0 l k hl h l.length 0 j (by omega) hj
  · rw [if_neg (by omega)]
    congr 1
    symm
    rw [decide_eq_false_iff_not]
    exact fun hh => h (by rw [hh])
theorem same_any (w : World) (A0 A1 : Option Addr) (c0 c1 : Nat) (l k : List Int) (hl : l.length ≤ 1000000) (h0 : Kd.C (Kd.int .u8) w A0 l.length l) (hc0 : l.length ≤ c0) (h1 : Kd.C (Kd.int .u8) w A1 k.length k) (hc1 : k.length ≤ c1) :
    Calls Try.prog 16 #[.slice A0 l.length c0, .slice A1 k.length c1] w fun e w' => e = .returned (.bool (decide (l = k))) ∧ Below w.heap.size w w' :=
  (bailiwickref1_Same.calls (l.length + 1) A0 c0 l A1 c1 k _ w h0 hc0 h1 hc1 (same_f l k hl _ (Nat.le_refl _))).mono (fun e w' hh => ⟨hh.1, hh.2.below⟩)
theorem copy_l0 (l : List Int) (hl : l.length ≤ 1000000) : ∀ (m i j : Nat), i + m = l.length → m + 1 ≤ j → bailiwickref1_Copy.l0 j l (l.take i) (i : Int) = some l := by
  intro m
  induction m with
  | zero =>
    intro i j hi hj
    obtain ⟨j, rfl⟩ : ∃ j', j = j' + 1 := ⟨j - 1, by omega⟩
    unfold bailiwickref1_Copy.l0
    rw [if_neg (by omega), List.take_of_length_le (by omega)]
  | succ m ih =>
    intro i j hi hj
    obtain ⟨j, rfl⟩ : ∃ j', j = j' + 1 := ⟨j - 1, by omega⟩
    unfold bailiwickref1_Copy.l0
    rw [if_pos (by omega), if_pos (by omega), if_pos (by rw [List.length_take]; omega), wrap_1 i (by omega), ← take_snoc_rd l i (by omega), ih (i + 1) j (by omega) (by omega)]
theorem copy_calls (w : World) (A : Option Addr) (c : Nat) (l : List Int) (hl : l.length ≤ 1000000) (h0 : Kd.C (Kd.int .u8) w A l.length l) (hc0 : l.length ≤ c) :
    Calls Try.prog 19 #[.slice A l.length c] w fun e w' => ∃ v : Value, e = .returned v ∧ Kd.R (Kd.int .u8) 5 w' w.heap.size (fun _ => True) v l ∧ Below w.heap.size w w' :=
  bailiwickref1_Copy.calls (l.length + 1) A c l l w h0 hc0 (copy_l0 l hl l.length 0 _ (by omega) (Nat.le_refl _))
theorem rdL_mem (x : List (List Int)) (i : Nat) (hi : i < x.length) : rd_L2 x (i : Int) = x[i] := by simp [rd_L2, List.getD_eq_getElem?_getD, List.getElem?_eq_getElem hi]
theorem same8_l0 (l k : List (List Int)) (hl : l.length ≤ 1000000) (hs : ∀ x ∈ l, x.length ≤ 1000000) (hk : l.length = k.length) : ∀ (m i j : Nat), i + m = l.length → m + 1000010 ≤ j → bailiwicklaw8_same.l0 j l k (i : Int) = some (decide (l.drop i = k.drop i)) := by
  intro m
  induction m with
  | zero =>
    intro i j hi hj
    obtain ⟨j, rfl⟩ : ∃ j', j = j' + 1 := ⟨j - 1, by omega⟩
    unfold bailiwicklaw8_same.l0
    rw [if_neg (by omega), List.drop_of_length_le (by omega), List.drop_of_length_le (by omega)]
    simp
  | succ m ih =>
    intro i j hi hj
    obtain ⟨j, rfl⟩ : ∃ j', j = j' + 1 := ⟨j - 1, by omega⟩
    unfold bailiwicklaw8_same.l0
    have hi1 : i < l.length := by omega
    have hi2 : i < k.length := by omega
    rw [if_pos (by omega), if_pos (by omega), if_pos (by omega), rdL_mem l i hi1, rdL_mem k i hi2, wrap_1 i (by omega)]
    rw [same_f l[i] k[i] (hs _ (List.getElem_mem hi1)) j (by have := hs _ (List.getElem_mem hi1); omega)]
    rw [List.drop_eq_getElem_cons hi1, List.drop_eq_getElem_cons hi2]
    simp only [Option.bind_some, List.cons.injEq]
    by_cases h : l[i] = k[i]
    · rw [if_pos (by simp [h]), ih (i + 1) j (by omega) (by omega)]
      congr 1
      rw [decide_eq_decide]
      simp [h]
    · rw [if_neg (by simp [h])]
      congr 1
      symm
      rw [decide_eq_false_iff_not]
      exact fun hh => h hh.1
theorem same8_f (l k : List (List Int)) (hl : l.length ≤ 1000000) (hs : ∀ x ∈ l, x.length ≤ 1000000) : bailiwicklaw8_same.f (l.length + 1000010) l k = some (decide (l = k)) := by
  unfold bailiwicklaw8_same.f
  by_cases h : l.length = k.length
  · rw [if_pos (by omega)]
    exact same8_l0 l k hl hs h l.length 0 _ (by omega) (by omega)
  · rw [if_neg (by omega)]
    congr 1
    symm
    rw [decide_eq_false_iff_not]
    exact fun hh => h (by rw [hh])
theorem same8_calls (w : World) (A0 A1 : Option Addr) (c0 c1 : Nat) (l k : List (List Int)) (hl : l.length ≤ 1000000) (hs : ∀ x ∈ l, x.length ≤ 1000000) (h0 : Kd.C (Kd.slice 5 (Kd.int .u8)) w A0 l.length l) (hc0 : l.length ≤ c0) (h1 : Kd.C (Kd.slice 5 (Kd.int .u8)) w A1 k.length k) (hc1 : k.length ≤ c1) :
    Calls Try.prog 20 #[.slice A0 l.length c0, .slice A1 k.length c1] w fun e w' => e = .returned (.bool (decide (l = k))) ∧ Below w.heap.size w w' :=
  (bailiwicklaw8_same.calls _ A0 c0 l A1 c1 k _ w h0 hc0 h1 hc1 (same8_f l k hl hs)).mono (fun e w' hh => ⟨hh.1, hh.2.below⟩)
theorem ints_l0 (l k : List Int) (hl : l.length ≤ 1000000) (hk : l.length = k.length) : ∀ (m i j : Nat), i + m = l.length → m + 1 ≤ j → bailiwicklaw8_ints.l0 j l k (i : Int) = some (decide (l.drop i = k.drop i)) := by
  intro m
  induction m with
  | zero =>
    intro i j hi hj
    obtain ⟨j, rfl⟩ : ∃ j', j = j' + 1 := ⟨j - 1, by omega⟩
    unfold bailiwicklaw8_ints.l0
    rw [if_neg (by omega), List.drop_of_length_le (by omega), List.drop_of_length_le (by omega)]
    simp
  | succ m ih =>
    intro i j hi hj
    obtain ⟨j, rfl⟩ : ∃ j', j = j' + 1 := ⟨j - 1, by omega⟩
    unfold bailiwicklaw8_ints.l0
    rw [if_pos (by omega), if_pos (by omega), if_pos (by omega), wrap_1 i (by omega)]
    have hd := getD_eq_drop (i := i) (by omega) hk
    by_cases h : rd l (i : Int) = rd k (i : Int)
    · rw [if_pos h, ih (i + 1) j (by omega) (by omega)]
      congr 1
      rw [decide_eq_decide, hd]
      simp [h]
    · rw [if_neg h]
      congr 1
      symm
      rw [decide_eq_false_iff_not, hd]
      exact fun hh => h hh.1
theorem ints_calls (w : World) (A0 A1 : Option Addr) (c0 c1 : Nat) (l k : List Int) (hl : l.length ≤ 1000000) (h0 : Kd.C (Kd.int .i64) w A0 l.length l) (hc0 : l.length ≤ c0) (h1 : Kd.C (Kd.int .i64) w A1 k.length k) (hc1 : k.length ≤ c1) :
    Calls Try.prog 35 #[.slice A0 l.length c0, .slice A1 k.length c1] w fun e w' => e = .returned (.bool (decide (l = k))) ∧ Below w.heap.size w w' := by
  refine (bailiwicklaw8_ints.calls (l.length + 1) A0 c0 l A1 c1 k (decide (l = k)) w h0 hc0 h1 hc1 ?_).mono (fun e w' hh => ⟨hh.1, hh.2.below⟩)
  unfold bailiwicklaw8_ints.f
  by_cases h : l.length = k.length
  · rw [if_pos (by omega)]
    exact ints_l0 l k hl h l.length 0 _ (by omega) (Nat.le_refl _)
  · rw [if_neg (by omega)]
    congr 1
    symm
    rw [decide_eq_false_iff_not]
    exact fun hh => h (by rw [hh])
theorem room_l0 (l : List S48) (hl : l.length ≤ 200) : ∀ (m i k : Nat) (x : Int), i + m = l.length → m + 1 ≤ k → ∃ r, bailiwicklaw8_room.l0 k l x (i : Int) = some r ∧ (r = true → ∀ j : Nat, i ≤ j → j < l.length → (rd_T48 l j).f1.length ≤ 1000) := by
  intro m
  induction m with
  | zero =>
    intro i k x hi hk
    obtain ⟨k, rfl⟩ : ∃ k', k = k' + 1 := ⟨k - 1, by omega⟩
    unfold bailiwicklaw8_room.l0
    rw [if_neg (by omega)]
    exact ⟨_, rfl, fun _ j h1 h2 => by omega⟩
  | succ m ih =>
    intro i k x hi hk
    obtain ⟨k, rfl⟩ : ∃ k', k = k' + 1 := ⟨k - 1, by omega⟩
    unfold bailiwicklaw8_room.l0
    rw [if_pos (by omega), if_pos (by omega)]
    by_cases hb : ((rd_T48 l (i : Int)).f1.length : Int) > 1000
    · rw [if_pos hb]
      exact ⟨_, rfl, fun h => by cases h⟩
    · rw [if_neg hb, wrap_1 i (by omega)]
      obtain ⟨r, h1, h2⟩ := ih (i + 1) k (wrap64 (x + ((rd_T48 l (i : Int)).f1.length : Int))) (by omega) (by omega)
      refine ⟨r, h1, fun hr j hj1 hj2 => ?_⟩
      by_cases he : j = i
      · subst he; omega
      · exact h2 hr j (by omega) hj2
theorem room_calls (w : World) (A : Option Addr) (c : Nat) (l : List S48) (h0 : Kd.C k48 w A l.length l) (hc0 : l.length ≤ c) :
    ∃ r : Bool, (r = true → l.length ≤ 200 ∧ ∀ j : Nat, j < l.length → (rd_T48 l j).f1.length ≤ 1000) ∧ Calls Try.prog 22 #[.slice A l.length c] w fun e w' => e = .returned (.bool r) ∧ Below w.heap.size w w' := by
  have hf : ∃ r, bailiwicklaw8_room.f (l.length + 1) l = some r ∧ (r = true → l.length ≤ 200 ∧ ∀ j : Nat, j < l.length → (rd_T48 l j).f1.length ≤ 1000) := by
    unfold bailiwicklaw8_room.f
    by_cases h : l.length ≤ 200
    · rw [if_neg (by omega)]
      obtain ⟨r, h1, h2⟩ := room_l0 l h l.length 0 (l.length + 1) 0 (by omega) (by omega)
      exact ⟨r, h1, fun hr => ⟨h, fun j hj => h2 hr j (by omega) hj⟩⟩
    · rw [if_pos (by omega)]
      exact ⟨_, rfl, fun h => by cases h⟩
  obtain ⟨r, h1, h2⟩ := hf
  exact ⟨r, h2, (bailiwicklaw8_room.calls _ A c l r w h0 hc0 h1).mono (fun e w' hh => ⟨hh.1, hh.2.below⟩)⟩
def wfD (x : S48) : Prop := (Lit.int .i64 x.f0).wf = true ∧ (∀ n ∈ x.f1, (Lit.int .u8 n).wf = true) ∧ True
theorem bytes_wf {l : List Int} (h : ∀ n ∈ l, (Lit.int .u8 n).wf = true) : Byt l := fun x hx => by
  have := h x hx
  simp only [Lit.wf, Bool.and_eq_true, decide_eq_true_eq] at this
  have hmin : IntKind.u8.min = 0 := rfl
  have hmax : IntKind.u8.max = 255 := rfl
  omega
theorem rd_T48_mem {l : List S48} {i : Nat} (hi : i < l.length) : rd_T48 l (i : Int) ∈ l := by
  simp only [rd_T48, Int.toNat_natCast, List.getD_eq_getElem?_getD, List.getElem?_eq_getElem hi, Option.getD_some]
  exact List.getElem_mem hi
end Go.Proofs.Ytldddinebhopcaa.St
