/- ask: the head's part, the client's part, the own part. -/
import Derived.Test.YtpjkbokojlpjoaaAsk11
namespace Go.Proofs.Ytpjkbokojlpjoaa.Ak
open Go.RowKit Go.Proofs.YtpjkbokojlpjoaaW.PrintWords Go.Proofs.YtpjkbokojlpjoaaW.PrintLast Go.Proofs.YtpjkbokojlpjoaaW.PrintMore Go.Proofs.Ytpjkbokojlpjoaa.Bs Go.Proofs.Ytpjkbokojlpjoaa.Fr Go.Proofs.Ytpjkbokojlpjoaa.Oct
set_option linter.unusedVariables false
set_option linter.unusedSimpArgs false

def cut2 (b : List Int) (i k : Nat) : List Int := (b.drop i).take k
theorem cut2_len (b : List Int) (i k : Nat) (h : i + k ≤ b.length) : (cut2 b i k).length = k := by unfold cut2; rw [List.length_take, List.length_drop]; omega
theorem range_bytes {w : World} {ad : Addr} {b : List Int} (hC : Kd.C (Kd.int .u8) w (some ad) b.length b) (i k : Nat) (hi : 0 < i) (h : i + k ≤ b.length) : w.rangeAt ad.block (ad.off + i) (e8 (cut2 b i k)) := fun j v hv => by
  have hj : j < k := by have := (List.getElem?_eq_some_iff.1 hv).1; rwa [encs_length, cut2_len b i k h] at this
  obtain ⟨ad', e, hs⟩ := src_of hC (by omega)
  cases e
  have h1 := hs (i + j) v (by
    unfold e8 cut2 encs at hv
    unfold encs
    rw [List.getElem?_map, List.getElem?_take_of_lt hj, List.getElem?_drop] at hv
    rw [List.getElem?_map]
    exact hv)
  rw [show ad.add (i + j) = ⟨ad.block, ad.off + (i + j), none⟩ from by unfold Addr.add; rw [if_neg (by omega)]] at h1
  rw [Nat.add_assoc]
  exact h1
theorem sap16 (a : Addr) (c : Nat) (w : World) : (Instr.arrayAt 25 (.slice (some a) 16 c)).run Try.prog w = .ok (.pointer (some a)) w := by
  simp [Instr.arrayAt, go_sem]
theorem sap12' (a : Addr) (c : Nat) (w : World) : (Instr.arrayAt 26 (.slice (some a) 12 c)).run Try.prog w = .ok (.pointer (some a)) w := by
  simp [Instr.arrayAt, go_sem]

/-- What the head says is wrong. -/
def headC (b : List Int) : Int := if ¬ rd b 0 = 2 then 1 else if b.length < 24 ∨ 1100 < b.length ∨ ¬ b.length % 4 = 0 then 3 else 0
def m1 (b : List Int) (m : AM) : AM := { m with life := getV b 4 4, cl := cut2 b 8 16 }
theorem m1_ok (b : List Int) (hb : 24 ≤ b.length) {m : AM} (h : m.ok) : (m1 b m).ok := ⟨cut2_len b 8 16 (by omega), h.no, h.wa, h.fa, h.os⟩
set_option maxHeartbeats 1000000 in
set_option maxRecDepth 100000 in
theorem head_len (g : Nat) (A : Option Addr) (c : Nat) (m : AM) (b : List Int) (w : World) (h : RB w g A b.length c m) (hC : Kd.C (Kd.int .u8) w A b.length b) (hl : 2 ≤ b.length) (hb : rd b (0 : Nat) = 2) (hs : b.length < 24 ∨ 1100 < b.length ∨ ¬ b.length % 4 = 0) :
    Calls Try.prog 23 #[.pointer (some ⟨g, 0, none⟩)] w fun e w' => e = thrown 3 ∧ w' = w := by
  have k0 := h.k0
  obtain ⟨ad, e1, _⟩ := at_one hC 0 (by omega) (by omega)
  subst e1
  have c0 := at_zero hC (by omega)
  have hb' : rd b 0 = 2 := hb
  rw [hb'] at c0
  have hn0 : (0 : Int) ≤ 0 ∧ (0 : Int) < (b.length : Int) := ⟨by omega, by omega⟩
  clear h hC hb hb'
  have fin : ∀ (Q : Ending → World → Prop) (w' : World), Q (thrown 3) w' → Q (thrown 3) w' := fun _ _ h => h
  by_cases h24 : (b.length : Int) < 24
  · have hlb := decide_eq_true h24
    go_enter Try.func23, Try.ntmps23
    go_wp2_with fail
    refine (refuse_ok 1 _).mono ?_
    rintro e w' ⟨rfl, rfl⟩
    go_wp2_with fail
    refine (refuse_bad 3 _).mono ?_
    rintro e w' ⟨he, rfl⟩
    unfold thrown at he
    subst he
    exact ⟨rfl, rfl, rfl⟩
  · have hlb := decide_eq_false h24
    by_cases h11 : (b.length : Int) > 1100
    · have hgb := decide_eq_true h11
      go_enter Try.func23, Try.ntmps23
      go_wp2_with fail
      refine (refuse_ok 1 _).mono ?_
      rintro e w' ⟨rfl, rfl⟩
      go_wp2_with fail
      refine (refuse_bad 3 _).mono ?_
      rintro e w' ⟨he, rfl⟩
      unfold thrown at he
      subst he
      exact ⟨rfl, rfl, rfl⟩
    · have hgb := decide_eq_false h11
      have hrem : ¬ ((b.length : Int)) % 4 = 0 := by omega
      have hrt : (((b.length : Int)) % 4 != 0) = true := by simpa using hrem
      go_enter Try.func23, Try.ntmps23
      go_wp2_with fail
      refine (refuse_ok 1 _).mono ?_
      rintro e w' ⟨rfl, rfl⟩
      go_wp2_with fail
      refine (refuse_bad 3 _).mono ?_
      rintro e w' ⟨he, rfl⟩
      unfold thrown at he
      subst he
      exact ⟨rfl, rfl, rfl⟩
set_option maxHeartbeats 1000000 in
set_option maxRecDepth 100000 in
theorem head_good (g : Nat) (A : Option Addr) (c : Nat) (m : AM) (hm : m.ok) (b : List Int) (w : World) (h : RB w g A b.length c m) (hC : Kd.C (Kd.int .u8) w A b.length b) (hc : b.length ≤ c) (hB : Byt b) (hg : ∀ ad, A = some ad → ad.block ≠ g) (hb : rd b (0 : Nat) = 2) (h24 : 24 ≤ b.length) (h11 : b.length ≤ 1100) (h4 : b.length % 4 = 0) :
    Calls Try.prog 23 #[.pointer (some ⟨g, 0, none⟩)] w fun e w' => e = .returned (.tuple #[]) ∧ RB w' g A b.length c (m1 b m) ∧ Fr w w' (fun k => k = g) := by
  have k0 := h.k0
  obtain ⟨ad, e1, _⟩ := at_one hC 0 (by omega) (by omega)
  subst e1
  have c0 := at_zero hC (by omega)
  have hb' : rd b 0 = 2 := hb
  rw [hb'] at c0
  have hn0 : (0 : Int) ≤ 0 ∧ (0 : Int) < (b.length : Int) := ⟨by omega, by omega⟩
  have hlb : decide ((b.length : Int) < 24) = false := decide_eq_false (by omega)
  have hgb : decide ((b.length : Int) > 1100) = false := decide_eq_false (by omega)
  have hrm : ((b.length : Int)) % 4 = 0 := by omega
  have hrt : ((b.length : Int)).tmod 4 = 0 := by rw [Int.tmod_eq_emod_of_nonneg (by omega)]; omega
  have hcc : (24 : Int) ≤ (c : Int) := by omega
  have k2 := h.k2
  have f2 := h.fz 2
  have HH := Aside0.mk h
  have HM := Aside0.mk hm
  have HC := Aside0.mk hC
  have HB := Aside0.mk hB
  have HL := Aside0.mk (And.intro hc (And.intro h24 h11))
  have HV := getV_bound b hB 4 4 (by decide)
  have HW : Aside0 (getV b 4 4 % 4294967296 = getV b 4 4) := ⟨by omega⟩
  have HN : Aside0 (ad.block ≠ g) := ⟨hg ad rfl⟩
  have hs16 := sap16
  clear h hC hb hb' hm hB hc h24 h11 h4 HV hg
  go_enter Try.func23, Try.ntmps23
  go_wp2_with fail
  refine (refuse_ok 1 _).mono ?_
  rintro e w' ⟨rfl, rfl⟩
  go_wp2_with fail
  refine (refuse_ok 3 _).mono ?_
  rintro e w' ⟨rfl, rfl⟩
  clear hlb hgb hrm hrt hn0 c0
  go_wp2_with fail
  refine (get_calls g (some ad) c m b 4 4 (by decide) _ HH.out HC.out HL.out.1 (by have := HL.out.2.2; omega) HB.out).mono ?_
  rintro e w' ⟨rfl, rfl⟩
  go_upto_region 3 with fail
  rw [HW.out]
  have F2 : Aside0 (Fr w' (w'.setCell ⟨g, 2, none⟩ (.int .u32 (getV b 4 4))) (fun k => k = g)) := ⟨Fr.set (F := fun k => k = g) (Fr.refl _ _) (.inl rfl) _⟩
  have R2 := Aside0.mk (HH.out.life_ (getV b 4 4))
  have G2 := Aside0.mk (range_fr (range_bytes HC.out 8 16 (by decide) (by have := HL.out.2.1; omega)) F2.out HN.out)
  clear k0 k2 f2 HC HW
  generalize w'.setCell ⟨g, 2, none⟩ (.int .u32 (getV b 4 4)) = w2 at *
  have k02 := R2.out.k0
  have LC := Aside0.mk (cut2_len b 8 16 (by have := HL.out.2.1; omega))
  go_wp2_with (first
    | (refine wpList_load_mid rfl 25 (.tmp 47) rfl ad.block (ad.off + 8) rfl (e8 (cut2 b 8 16)) _ G2.out Try.underlying25 rfl (by rw [encs_length, LC.out]; exact info25) ?_)
    | (refine wpList_store_mid rfl 25 (.tmp 51) (.tmp 48) rfl g 3 (e8 (cut2 b 8 16)).toArray rfl rfl (by rw [List.size_toArray, encs_length, LC.out]; exact R2.out.there ⟨HM.out.cl, HM.out.no, HM.out.wa, HM.out.fa, HM.out.os⟩ 3 16 (by decide)) (by rw [List.size_toArray, encs_length, LC.out]; exact info25) (all_oneCell_toArray (one_u8 _)) ?_))
  go_end0
  exact ⟨rfl, R2.out.cl_ ⟨HM.out.cl, HM.out.no, HM.out.wa, HM.out.fa, HM.out.os⟩ _ LC.out, F2.out.trans (F2 := fun k => k = g) (Fr.setCells (F := fun k => k = g) (Fr.refl _ _) (.inl rfl) _ _) (fun k hk => .inl hk)⟩
set_option maxHeartbeats 1000000 in
set_option maxRecDepth 100000 in
theorem client_good (s g : Nat) (fm : Int) (A : Option Addr) (n c : Nat) (m : AM) (hm : m.ok) (hB : Byt m.cl) (w : World) (h : RB w g A n c m) (hp : w.heap[g + 1]? = some (.cells #[Value.pointer (some ⟨g, 0, none⟩)] 50 (0, 0))) (hs : w.heap[s]? = some (.cells #[.int .u32 fm] 23 (0, 0))) (h1 : mapB m.cl = true) (h2 : mapV m.cl = fm) :
    Calls Try.prog 21 #[.pointer (some ⟨g + 1, 0, none⟩), .pointer (some ⟨s, 0, none⟩)] w fun e w' => e = .returned (.tuple #[]) ∧ Below w.heap.size w w' := by
  have kp : w.cell? ⟨g + 1, 0, none⟩ = some (Value.pointer (some ⟨g, 0, none⟩)) := blk_cell hp 0
  have R := Aside0.mk h.rcl
  have HS := Aside0.mk hs
  have HM := Aside0.mk hm
  have HB := Aside0.mk hB
  have H1 := Aside0.mk h1
  have H2 := Aside0.mk h2
  clear h hp hs hm hB h1 h2
  go_enter Try.func21, Try.ntmps21
  go_wp2_with (refine wpList_load_mid rfl 25 (.tmp 8) rfl g 3 rfl (e8 m.cl) _ R.out Try.underlying25 rfl (by rw [encs_length, HM.out.cl]; exact info25) ?_)
  refine (Mapped_calls m.cl HM.out.cl HB.out _).mono ?_
  rintro e w1 ⟨rfl, hb1⟩
  have B1 := Aside0.mk hb1
  have ks : w1.cell? ⟨s, 0, none⟩ = some (.int .u32 fm) := blk_cell (blk_below HS.out hb1) 0
  rw [H1.out, H2.out]
  clear hb1 kp
  go_wp2_with fail
  refine (refuse_ok 12 _).mono ?_
  rintro e w2 ⟨rfl, rfl⟩
  go_wp2
  go_end0
  exact ⟨rfl, B1.out⟩
set_option maxHeartbeats 1000000 in
set_option maxRecDepth 100000 in
theorem client_bad (s g : Nat) (fm : Int) (A : Option Addr) (n c : Nat) (m : AM) (hm : m.ok) (hB : Byt m.cl) (w : World) (h : RB w g A n c m) (hp : w.heap[g + 1]? = some (.cells #[Value.pointer (some ⟨g, 0, none⟩)] 50 (0, 0))) (hs : w.heap[s]? = some (.cells #[.int .u32 fm] 23 (0, 0))) (h1 : ¬ (mapB m.cl = true ∧ mapV m.cl = fm)) :
    Calls Try.prog 21 #[.pointer (some ⟨g + 1, 0, none⟩), .pointer (some ⟨s, 0, none⟩)] w fun e w' => e = thrown 12 ∧ Below w.heap.size w w' := by
  have kp : w.cell? ⟨g + 1, 0, none⟩ = some (Value.pointer (some ⟨g, 0, none⟩)) := blk_cell hp 0
  have R := Aside0.mk h.rcl
  have HS := Aside0.mk hs
  have HM := Aside0.mk hm
  have HB := Aside0.mk hB
  obtain ⟨y, hy⟩ : ∃ y, mapB m.cl = y := ⟨_, rfl⟩
  obtain ⟨x, hx⟩ : ∃ x, mapV m.cl = x := ⟨_, rfl⟩
  rw [hy, hx] at h1
  have H1 := Aside0.mk hy
  have H2 := Aside0.mk hx
  clear h hp hs hm hB hy hx
  go_enter Try.func21, Try.ntmps21
  go_wp2_with (refine wpList_load_mid rfl 25 (.tmp 8) rfl g 3 rfl (e8 m.cl) _ R.out Try.underlying25 rfl (by rw [encs_length, HM.out.cl]; exact info25) ?_)
  refine (Mapped_calls m.cl HM.out.cl HB.out _).mono ?_
  rintro e w1 ⟨rfl, hb1⟩
  have B1 := Aside0.mk hb1
  have ks : w1.cell? ⟨s, 0, none⟩ = some (.int .u32 fm) := blk_cell (blk_below HS.out hb1) 0
  rw [H1.out, H2.out]
  clear hb1 kp H1 H2
  cases y with
  | false =>
    clear h1
    go_wp2_with fail
    refine (refuse_bad 12 _).mono ?_
    rintro e w2 ⟨he, rfl⟩
    unfold thrown at he
    subst he
    exact ⟨rfl, rfl, B1.out⟩
  | true =>
    have hn : (x != fm) = true := by simpa using h1
    clear h1
    go_wp2_with fail
    refine (refuse_bad 12 _).mono ?_
    rintro e w2 ⟨he, rfl⟩
    unfold thrown at he
    subst he
    exact ⟨rfl, rfl, B1.out⟩
end Go.Proofs.Ytpjkbokojlpjoaa.Ak
