/- ask: the own part. -/
import Derived.Test.YtpjkbokojlpjoaaAsk12
namespace Go.Proofs.Ytpjkbokojlpjoaa.Ak
open Go.RowKit Go.Proofs.YtpjkbokojlpjoaaW.PrintWords Go.Proofs.YtpjkbokojlpjoaaW.PrintLast Go.Proofs.YtpjkbokojlpjoaaW.PrintMore Go.Proofs.Ytpjkbokojlpjoaa.Bs Go.Proofs.Ytpjkbokojlpjoaa.Fr Go.Proofs.Ytpjkbokojlpjoaa.Oct
set_option linter.unusedVariables false
set_option linter.unusedSimpArgs false

theorem add_block (ad : Addr) (k : Nat) : (ad.add k).block = ad.block := by unfold Addr.add; split <;> rfl
/-- Bytes are read as before where only another block was written. -/
theorem C_fr {w w' : World} {ad : Addr} {n g : Nat} {b : List Int} (h : Kd.C (Kd.int .u8) w (some ad) n b) (k : Fr w w' (fun k => k = g)) (hn : ad.block ≠ g) : Kd.C (Kd.int .u8) w' (some ad) n b := by
  obtain ⟨h1, h2, h3⟩ := h
  refine ⟨h1, h2, fun hp => ?_⟩
  obtain ⟨ad', hA, hc⟩ := h3 hp
  cases hA
  refine ⟨ad, rfl, fun j p hj => ?_⟩
  obtain ⟨c, e1, e2, e3⟩ := hc j p hj
  exact ⟨c, e1, e2, fun i u hu => cell_kept (e3 i u hu) k.2 (by rw [add_block]; exact hn)⟩
theorem set_fr (w : World) (g o : Nat) (v : Value) : Fr w (w.setCell ⟨g, o, none⟩ v) (fun k => k = g) := Fr.set (F := fun k => k = g) (Fr.refl _ _) (.inl rfl) _
theorem sets_fr (w : World) (g o : Nat) (v : List Value) : Fr w (w.setCells g o v) (fun k => k = g) := Fr.setCells (F := fun k => k = g) (Fr.refl _ _) (.inl rfl) _ _
theorem fr_tr {w w1 w2 : World} {g : Nat} (h : Fr w w1 (fun k => k = g)) (k : Fr w1 w2 (fun k => k = g)) : Fr w w2 (fun k => k = g) := h.trans k (fun k hk => .inl hk)
/-- The own part. -/
def m3 (b : List Int) (m : AM) : AM :=
  let m := { m with op := rd b 1 }
  let m := if rd b 1 = 0 then m else { m with no := cut2 b 24 12, pr := getV b 36 1, po := getV b 40 2, wp := getV b 42 2, wa := cut2 b 44 16 }
  if rd b 1 = 2 then { m with fp := getV b 60 2, fa := cut2 b 64 16 } else m
theorem AM.ok.op_ {m : AM} (h : m.ok) (x : Int) : ({ m with op := x } : AM).ok := ⟨h.cl, h.no, h.wa, h.fa, h.os⟩
theorem AM.ok.mid_ {m : AM} (h : m.ok) (x y z : Int) {l k : List Int} (hl : l.length = 12) (hk : k.length = 16) : ({ m with no := l, pr := x, po := y, wp := z, wa := k } : AM).ok := ⟨h.cl, hl, hk, h.fa, h.os⟩
theorem AM.ok.far_ {m : AM} (h : m.ok) (x : Int) {k : List Int} (hk : k.length = 16) : ({ m with fp := x, fa := k } : AM).ok := ⟨h.cl, h.no, h.wa, hk, h.os⟩
theorem sizeM_le (x : Int) : 0 ≤ (sizeM x).1 ∧ (sizeM x).1 ≤ 56 := by
  unfold sizeM
  by_cases h0 : x = 0
  · rw [if_pos h0]; decide
  · rw [if_neg h0]
    by_cases h1 : x = 1
    · rw [if_pos h1]; decide
    · rw [if_neg h1]
      by_cases h2 : x = 2
      · rw [if_pos h2]; decide
      · rw [if_neg h2]; decide
theorem m3_ok (b : List Int) {m : AM} (h : m.ok) (hn : 24 + (sizeM (rd b 1)).1 ≤ b.length) (hs : (sizeM (rd b 1)).2 = true) : (m3 b m).ok := by
  unfold m3
  unfold sizeM at hn hs
  by_cases h0 : rd b 1 = 0
  · simp only [h0, if_pos]
    exact h.op_ 0
  · rw [if_neg h0] at hn hs
    by_cases h1 : rd b 1 = 1
    · simp only [h1, if_pos] at hn ⊢
      exact (h.op_ 1).mid_ _ _ _ (cut2_len _ _ _ (by simp at hn; omega)) (cut2_len _ _ _ (by simp at hn; omega))
    · rw [if_neg h1] at hn hs
      by_cases h2 : rd b 1 = 2
      · simp only [h2, if_pos] at hn ⊢
        exact ((h.op_ 2).mid_ _ _ _ (cut2_len _ _ _ (by simp at hn; omega)) (cut2_len _ _ _ (by simp at hn; omega))).far_ _ (cut2_len _ _ _ (by simp at hn; omega))
      · rw [if_neg h2] at hs
        cases hs
set_option maxHeartbeats 1000000 in
set_option maxRecDepth 100000 in
theorem own_op (g : Nat) (A : Option Addr) (c : Nat) (m : AM) (hm : m.ok) (b : List Int) (w : World) (h : RB w g A b.length c m) (hC : Kd.C (Kd.int .u8) w A b.length b) (hl : 2 ≤ b.length) (hB : Byt b) (hs : (sizeM (rd b 1)).2 = false) :
    Calls Try.prog 24 #[.pointer (some ⟨g, 0, none⟩)] w fun e w' => e = thrown 4 ∧ Fr w w' (fun k => k = g) := by
  have k0 := h.k0
  have k1 := h.kop
  have f1 := h.fz 1
  obtain ⟨ad, e1, c1⟩ := at_one hC 1 (by omega) (by omega)
  subst e1
  have c1' : w.cell? ⟨ad.block, ad.off + 1, none⟩ = some (.int .u8 (rd b 1)) := c1
  have hn1 : (0 : Int) ≤ 1 ∧ (1 : Int) < (b.length : Int) := ⟨by omega, by omega⟩
  have hr : 0 ≤ rd b 1 ∧ rd b 1 ≤ 255 := hB.rd 1
  have hw : wrap64 (rd b 1) = rd b 1 := by unfold wrap64; omega
  have HS := Aside0.mk hs
  clear h hC hB hs c1 hr
  generalize rd b 1 = x at *
  go_enter Try.func24, Try.ntmps24
  go_wp2_with fail
  refine (size_calls x _).mono ?_
  rintro e w' ⟨rfl, rfl⟩
  rw [HS.out]
  go_wp2_with fail
  refine (refuse_bad 4 _).mono ?_
  rintro e w' ⟨he, rfl⟩
  unfold thrown at he
  subst he
  exact ⟨rfl, rfl, set_fr _ _ _ _⟩
set_option maxHeartbeats 1000000 in
set_option maxRecDepth 100000 in
theorem own_len (g : Nat) (A : Option Addr) (c : Nat) (m : AM) (hm : m.ok) (b : List Int) (w : World) (h : RB w g A b.length c m) (hC : Kd.C (Kd.int .u8) w A b.length b) (hl : 2 ≤ b.length) (hB : Byt b) (hs : (sizeM (rd b 1)).2 = true) (hn : (b.length : Int) < 24 + (sizeM (rd b 1)).1) :
    Calls Try.prog 24 #[.pointer (some ⟨g, 0, none⟩)] w fun e w' => e = thrown 3 ∧ Fr w w' (fun k => k = g) := by
  have k0 := h.k0
  have k1 := h.kop
  have f1 := h.fz 1
  obtain ⟨ad, e1, c1⟩ := at_one hC 1 (by omega) (by omega)
  subst e1
  have c1' : w.cell? ⟨ad.block, ad.off + 1, none⟩ = some (.int .u8 (rd b 1)) := c1
  have hn1 : (0 : Int) ≤ 1 ∧ (1 : Int) < (b.length : Int) := ⟨by omega, by omega⟩
  have hr : 0 ≤ rd b 1 ∧ rd b 1 ≤ 255 := hB.rd 1
  have hw : wrap64 (rd b 1) = rd b 1 := by unfold wrap64; omega
  have HS := Aside0.mk hs
  have hz := sizeM_le (rd b 1)
  clear h hC hB hs c1 hr
  generalize rd b 1 = x at *
  obtain ⟨z, hzz⟩ : ∃ z, (sizeM x).1 = z := ⟨_, rfl⟩
  have HZ := Aside0.mk hzz
  rw [hzz] at hz hn
  clear hzz
  have hwz : wrap64 (24 + z) = 24 + z := by unfold wrap64; omega
  have hnb := decide_eq_true hn
  go_enter Try.func24, Try.ntmps24
  go_wp2_with fail
  refine (size_calls x _).mono ?_
  rintro e w' ⟨rfl, rfl⟩
  rw [HS.out, HZ.out]
  go_wp2_with fail
  refine (refuse_ok 4 _).mono ?_
  rintro e w' ⟨rfl, rfl⟩
  go_wp2_with fail
  refine (refuse_bad 3 _).mono ?_
  rintro e w' ⟨he, rfl⟩
  unfold thrown at he
  subst he
  exact ⟨rfl, rfl, set_fr _ _ _ _⟩
set_option maxHeartbeats 2000000 in
set_option maxRecDepth 100000 in
theorem own_0 (g : Nat) (A : Option Addr) (c : Nat) (m : AM) (hm : m.ok) (b : List Int) (w : World) (h : RB w g A b.length c m) (hC : Kd.C (Kd.int .u8) w A b.length b) (hc : b.length ≤ c) (hmx : b.length ≤ 1100) (hB : Byt b) (hg : ∀ ad, A = some ad → ad.block ≠ g) (hx : rd b 1 = 0) (hl : 24 ≤ b.length) :
    Calls Try.prog 24 #[.pointer (some ⟨g, 0, none⟩)] w fun e w' => e = .returned (.tuple #[]) ∧ RB w' g A b.length c (m3 b m) ∧ Fr w w' (fun k => k = g) := by
  have k0 := h.k0
  have k1 := h.kop
  have f1 := h.fz 1
  obtain ⟨ad, e1, c1⟩ := at_one hC 1 (by omega) (by omega)
  subst e1
  have c1' : w.cell? ⟨ad.block, ad.off + 1, none⟩ = some (.int .u8 0) := by rw [← hx]; exact c1
  have hn1 : (0 : Int) ≤ 1 ∧ (1 : Int) < (b.length : Int) := ⟨by omega, by omega⟩
  have hnb : decide ((b.length : Int) < 24) = false := decide_eq_false (by omega)
  have hcc : (2 : Int) ≤ (c : Int) := by omega
  have HX := Aside0.mk hx
  have HN : Aside0 (ad.block ≠ g) := ⟨hg ad rfl⟩
  have HM := Aside0.mk hm
  have HB := Aside0.mk hB
  have HL := Aside0.mk (And.intro hc (And.intro hmx hl))
  have R1 := Aside0.mk (h.op_ 0)
  have F1 := Aside0.mk (set_fr w g 1 (.int .i64 0))
  have C1 := Aside0.mk (C_fr hC F1.out HN.out)
  have O1 := Aside0.mk (HM.out.op_ 0)
  have hs16 := sap16
  have hs12 := sap12'
  clear h hC hB hc hmx hl hg c1 hm hx
  go_enter Try.func24, Try.ntmps24
  go_upto_region 1 with fail
  clear k0 k1 f1 c1' hn1
  generalize w.setCell ⟨g, 1, none⟩ (.int .i64 0) = w1 at *
  have k0 := R1.out.k0
  have k1 : w1.cell? ⟨g, 1, none⟩ = some (.int .i64 0) := R1.out.kop
  go_wp2_with fail
  refine (size_calls 0 _).mono ?_
  rintro e w1 ⟨rfl, rfl⟩
  rw [show (sizeM 0).1 = 0 from rfl, show (sizeM 0).2 = true from rfl]
  go_wp2_with fail
  refine (refuse_ok 4 _).mono ?_
  rintro e w1 ⟨rfl, rfl⟩
  go_wp2_with fail
  refine (refuse_ok 3 _).mono ?_
  rintro e w1 ⟨rfl, rfl⟩
  go_wp2
  go_end0
  exact ⟨rfl, by unfold m3; rw [HX.out]; exact R1.out, F1.out⟩
set_option maxHeartbeats 2000000 in
set_option maxRecDepth 100000 in
theorem own_1 (g : Nat) (A : Option Addr) (c : Nat) (m : AM) (hm : m.ok) (b : List Int) (w : World) (h : RB w g A b.length c m) (hC : Kd.C (Kd.int .u8) w A b.length b) (hc : b.length ≤ c) (hmx : b.length ≤ 1100) (hB : Byt b) (hg : ∀ ad, A = some ad → ad.block ≠ g) (hx : rd b 1 = 1) (hl : 60 ≤ b.length) :
    Calls Try.prog 24 #[.pointer (some ⟨g, 0, none⟩)] w fun e w' => e = .returned (.tuple #[]) ∧ RB w' g A b.length c (m3 b m) ∧ Fr w w' (fun k => k = g) := by
  have k0 := h.k0
  have k1 := h.kop
  have f1 := h.fz 1
  obtain ⟨ad, e1, c1⟩ := at_one hC 1 (by omega) (by omega)
  subst e1
  have c1' : w.cell? ⟨ad.block, ad.off + 1, none⟩ = some (.int .u8 1) := by rw [← hx]; exact c1
  have hn1 : (0 : Int) ≤ 1 ∧ (1 : Int) < (b.length : Int) := ⟨by omega, by omega⟩
  have hnb : decide ((b.length : Int) < 60) = false := decide_eq_false (by omega)
  have hcc : (60 : Int) ≤ (c : Int) := by omega
  have HX := Aside0.mk hx
  have HN : Aside0 (ad.block ≠ g) := ⟨hg ad rfl⟩
  have HM := Aside0.mk hm
  have HB := Aside0.mk hB
  have HL := Aside0.mk (And.intro hc (And.intro hmx hl))
  have R1 := Aside0.mk (h.op_ 1)
  have F1 := Aside0.mk (set_fr w g 1 (.int .i64 1))
  have C1 := Aside0.mk (C_fr hC F1.out HN.out)
  have O1 := Aside0.mk (HM.out.op_ 1)
  have hs16 := sap16
  have hs12 := sap12'
  clear h hC hB hc hmx hl hg c1 hm hx
  go_enter Try.func24, Try.ntmps24
  go_upto_region 1 with fail
  clear k0 k1 f1 c1' hn1
  generalize w.setCell ⟨g, 1, none⟩ (.int .i64 1) = w1 at *
  have k0 := R1.out.k0
  have k1 : w1.cell? ⟨g, 1, none⟩ = some (.int .i64 1) := R1.out.kop
  go_wp2_with fail
  refine (size_calls 1 _).mono ?_
  rintro e w1 ⟨rfl, rfl⟩
  rw [show (sizeM 1).1 = 36 from rfl, show (sizeM 1).2 = true from rfl]
  go_wp2_with fail
  refine (refuse_ok 4 _).mono ?_
  rintro e w1 ⟨rfl, rfl⟩
  go_wp2_with fail
  refine (refuse_ok 3 _).mono ?_
  rintro e w1 ⟨rfl, rfl⟩
  have G1 := Aside0.mk (range_bytes C1.out 24 12 (by decide) (by have := HL.out.2.2; omega))
  have L1 := Aside0.mk (cut2_len b 24 12 (by have := HL.out.2.2; omega))
  go_upto_region 6 with (first
    | (refine wpList_load_mid rfl 26 (.tmp 48) rfl ad.block (ad.off + 24) rfl (e8 (cut2 b 24 12)) _ G1.out Try.underlying26 rfl (by rw [encs_length, L1.out]; exact info26) ?_)
    | (refine wpList_store_mid rfl 26 (.tmp 52) (.tmp 49) rfl g 19 (e8 (cut2 b 24 12)).toArray rfl rfl (by rw [List.size_toArray, encs_length, L1.out]; exact R1.out.there O1.out 19 12 (by decide)) (by rw [List.size_toArray, encs_length, L1.out]; exact info26) (all_oneCell_toArray (one_u8 _)) ?_))
  have R2 := Aside0.mk (R1.out.no_ O1.out (cut2 b 24 12) L1.out)
  have F2 := Aside0.mk (fr_tr F1.out (sets_fr w1 g 19 (e8 (cut2 b 24 12))))
  have C2 := Aside0.mk (C_fr C1.out (sets_fr w1 g 19 (e8 (cut2 b 24 12))) HN.out)
  have O2 : Aside0 (({ m with op := 1, no := cut2 b 24 12 } : AM).ok) := ⟨HM.out.cl, L1.out, HM.out.wa, HM.out.fa, HM.out.os⟩
  show Code.wp _ _ _ _ (w1.setCells g 19 (e8 (cut2 b 24 12)))
  generalize w1.setCells g 19 (e8 (cut2 b 24 12)) = w2 at *
  clear k0 k1 G1 L1 C1 R1 F1 O1
  obtain ⟨k31, k32, k33, _⟩ := kk R2.out O2.out
  have f31 := R2.out.fz 31
  have f32 := R2.out.fz 32
  have f33 := R2.out.fz 33
  have HV1 := getV_bound b HB.out 36 1 (by decide)
  go_wp2_with fail
  refine (get_calls g (some ad) c _ b 36 1 (by decide) _ R2.out C2.out HL.out.1 (by have := HL.out.2.1; omega) HB.out).mono ?_
  rintro e w2 ⟨rfl, rfl⟩
  go_wp2_with fail
  refine (get_calls g (some ad) c _ b 40 2 (by decide) _ R2.out C2.out HL.out.1 (by have := HL.out.2.1; omega) HB.out).mono ?_
  rintro e w2 ⟨rfl, rfl⟩
  go_wp2_with fail
  refine (get_calls g (some ad) c _ b 42 2 (by decide) _ R2.out C2.out HL.out.1 (by have := HL.out.2.1; omega) HB.out).mono ?_
  rintro e w2 ⟨rfl, rfl⟩
  go_upto_region 7 with fail
  clear k31 k32 k33 f31 f32 f33 HV1
  have R3 := Aside0.mk (((R2.out.pr_ O2.out (getV b 36 1)).po_ (m := { m with op := 1, no := cut2 b 24 12, pr := getV b 36 1 }) ⟨HM.out.cl, O2.out.no, HM.out.wa, HM.out.fa, HM.out.os⟩ (getV b 40 2)).wp_ (m := { m with op := 1, no := cut2 b 24 12, pr := getV b 36 1, po := getV b 40 2 }) ⟨HM.out.cl, O2.out.no, HM.out.wa, HM.out.fa, HM.out.os⟩ (getV b 42 2))
  have FX := Aside0.mk (fr_tr (fr_tr (set_fr w2 g 31 (.int .i64 (getV b 36 1))) (set_fr _ g 32 (.int .i64 (getV b 40 2)))) (set_fr _ g 33 (.int .i64 (getV b 42 2))))
  have F3 := Aside0.mk (fr_tr F2.out FX.out)
  have C3 := Aside0.mk (C_fr C2.out FX.out HN.out)
  have O3 : Aside0 (({ m with op := 1, no := cut2 b 24 12, pr := getV b 36 1, po := getV b 40 2, wp := getV b 42 2 } : AM).ok) := ⟨HM.out.cl, O2.out.no, HM.out.wa, HM.out.fa, HM.out.os⟩
  generalize ((w2.setCell ⟨g, 31, none⟩ (.int .i64 (getV b 36 1))).setCell ⟨g, 32, none⟩ (.int .i64 (getV b 40 2))).setCell ⟨g, 33, none⟩ (.int .i64 (getV b 42 2)) = w3 at *
  clear C2 R2 F2 FX O2
  have k0 := R3.out.k0
  have G3 := Aside0.mk (range_bytes C3.out 44 16 (by decide) (by have := HL.out.2.2; omega))
  have L3 := Aside0.mk (cut2_len b 44 16 (by have := HL.out.2.2; omega))
  go_upto_region 8 with (first
    | (refine wpList_load_mid rfl 25 (.tmp 77) rfl ad.block (ad.off + 44) rfl (e8 (cut2 b 44 16)) _ G3.out Try.underlying25 rfl (by rw [encs_length, L3.out]; exact info25) ?_)
    | (refine wpList_store_mid rfl 25 (.tmp 81) (.tmp 78) rfl g 34 (e8 (cut2 b 44 16)).toArray rfl rfl (by rw [List.size_toArray, encs_length, L3.out]; exact R3.out.there O3.out 34 16 (by decide)) (by rw [List.size_toArray, encs_length, L3.out]; exact info25) (all_oneCell_toArray (one_u8 _)) ?_))
  have R4 := Aside0.mk (R3.out.wa_ O3.out (cut2 b 44 16) L3.out)
  have F4 := Aside0.mk (fr_tr F3.out (sets_fr w3 g 34 (e8 (cut2 b 44 16))))
  have C4 := Aside0.mk (C_fr C3.out (sets_fr w3 g 34 (e8 (cut2 b 44 16))) HN.out)
  have O4 : Aside0 (({ m with op := 1, no := cut2 b 24 12, pr := getV b 36 1, po := getV b 40 2, wp := getV b 42 2, wa := cut2 b 44 16 } : AM).ok) := ⟨HM.out.cl, O3.out.no, L3.out, HM.out.fa, HM.out.os⟩
  show Code.wp _ _ _ _ (w3.setCells g 34 (e8 (cut2 b 44 16)))
  generalize w3.setCells g 34 (e8 (cut2 b 44 16)) = w4 at *
  clear k0 G3 L3 C3 R3 F3 O3
  have k1 : w4.cell? ⟨g, 1, none⟩ = some (.int .i64 1) := R4.out.kop
  go_wp2
  go_end0
  exact ⟨rfl, by unfold m3; rw [HX.out]; exact R4.out, F4.out⟩
set_option maxHeartbeats 2000000 in
set_option maxRecDepth 100000 in
theorem own_2 (g : Nat) (A : Option Addr) (c : Nat) (m : AM) (hm : m.ok) (b : List Int) (w : World) (h : RB w g A b.length c m) (hC : Kd.C (Kd.int .u8) w A b.length b) (hc : b.length ≤ c) (hmx : b.length ≤ 1100) (hB : Byt b) (hg : ∀ ad, A = some ad → ad.block ≠ g) (hx : rd b 1 = 2) (hl : 80 ≤ b.length) :
    Calls Try.prog 24 #[.pointer (some ⟨g, 0, none⟩)] w fun e w' => e = .returned (.tuple #[]) ∧ RB w' g A b.length c (m3 b m) ∧ Fr w w' (fun k => k = g) := by
  have k0 := h.k0
  have k1 := h.kop
  have f1 := h.fz 1
  obtain ⟨ad, e1, c1⟩ := at_one hC 1 (by omega) (by omega)
  subst e1
  have c1' : w.cell? ⟨ad.block, ad.off + 1, none⟩ = some (.int .u8 2) := by rw [← hx]; exact c1
  have hn1 : (0 : Int) ≤ 1 ∧ (1 : Int) < (b.length : Int) := ⟨by omega, by omega⟩
  have hnb : decide ((b.length : Int) < 80) = false := decide_eq_false (by omega)
  have hcc : (80 : Int) ≤ (c : Int) := by omega
  have HX := Aside0.mk hx
  have HN : Aside0 (ad.block ≠ g) := ⟨hg ad rfl⟩
  have HM := Aside0.mk hm
  have HB := Aside0.mk hB
  have HL := Aside0.mk (And.intro hc (And.intro hmx hl))
  have R1 := Aside0.mk (h.op_ 2)
  have F1 := Aside0.mk (set_fr w g 1 (.int .i64 2))
  have C1 := Aside0.mk (C_fr hC F1.out HN.out)
  have O1 := Aside0.mk (HM.out.op_ 2)
  have hs16 := sap16
  have hs12 := sap12'
  clear h hC hB hc hmx hl hg c1 hm hx
  go_enter Try.func24, Try.ntmps24
  go_upto_region 1 with fail
  clear k0 k1 f1 c1' hn1
  generalize w.setCell ⟨g, 1, none⟩ (.int .i64 2) = w1 at *
  have k0 := R1.out.k0
  have k1 : w1.cell? ⟨g, 1, none⟩ = some (.int .i64 2) := R1.out.kop
  go_wp2_with fail
  refine (size_calls 2 _).mono ?_
  rintro e w1 ⟨rfl, rfl⟩
  rw [show (sizeM 2).1 = 56 from rfl, show (sizeM 2).2 = true from rfl]
  go_wp2_with fail
  refine (refuse_ok 4 _).mono ?_
  rintro e w1 ⟨rfl, rfl⟩
  go_wp2_with fail
  refine (refuse_ok 3 _).mono ?_
  rintro e w1 ⟨rfl, rfl⟩
  have G1 := Aside0.mk (range_bytes C1.out 24 12 (by decide) (by have := HL.out.2.2; omega))
  have L1 := Aside0.mk (cut2_len b 24 12 (by have := HL.out.2.2; omega))
  go_upto_region 6 with (first
    | (refine wpList_load_mid rfl 26 (.tmp 48) rfl ad.block (ad.off + 24) rfl (e8 (cut2 b 24 12)) _ G1.out Try.underlying26 rfl (by rw [encs_length, L1.out]; exact info26) ?_)
    | (refine wpList_store_mid rfl 26 (.tmp 52) (.tmp 49) rfl g 19 (e8 (cut2 b 24 12)).toArray rfl rfl (by rw [List.size_toArray, encs_length, L1.out]; exact R1.out.there O1.out 19 12 (by decide)) (by rw [List.size_toArray, encs_length, L1.out]; exact info26) (all_oneCell_toArray (one_u8 _)) ?_))
  have R2 := Aside0.mk (R1.out.no_ O1.out (cut2 b 24 12) L1.out)
  have F2 := Aside0.mk (fr_tr F1.out (sets_fr w1 g 19 (e8 (cut2 b 24 12))))
  have C2 := Aside0.mk (C_fr C1.out (sets_fr w1 g 19 (e8 (cut2 b 24 12))) HN.out)
  have O2 : Aside0 (({ m with op := 2, no := cut2 b 24 12 } : AM).ok) := ⟨HM.out.cl, L1.out, HM.out.wa, HM.out.fa, HM.out.os⟩
  show Code.wp _ _ _ _ (w1.setCells g 19 (e8 (cut2 b 24 12)))
  generalize w1.setCells g 19 (e8 (cut2 b 24 12)) = w2 at *
  clear k0 k1 G1 L1 C1 R1 F1 O1
  obtain ⟨k31, k32, k33, _⟩ := kk R2.out O2.out
  have f31 := R2.out.fz 31
  have f32 := R2.out.fz 32
  have f33 := R2.out.fz 33
  have HV1 := getV_bound b HB.out 36 1 (by decide)
  go_wp2_with fail
  refine (get_calls g (some ad) c _ b 36 1 (by decide) _ R2.out C2.out HL.out.1 (by have := HL.out.2.1; omega) HB.out).mono ?_
  rintro e w2 ⟨rfl, rfl⟩
  go_wp2_with fail
  refine (get_calls g (some ad) c _ b 40 2 (by decide) _ R2.out C2.out HL.out.1 (by have := HL.out.2.1; omega) HB.out).mono ?_
  rintro e w2 ⟨rfl, rfl⟩
  go_wp2_with fail
  refine (get_calls g (some ad) c _ b 42 2 (by decide) _ R2.out C2.out HL.out.1 (by have := HL.out.2.1; omega) HB.out).mono ?_
  rintro e w2 ⟨rfl, rfl⟩
  go_upto_region 7 with fail
  clear k31 k32 k33 f31 f32 f33 HV1
  have R3 := Aside0.mk (((R2.out.pr_ O2.out (getV b 36 1)).po_ (m := { m with op := 2, no := cut2 b 24 12, pr := getV b 36 1 }) ⟨HM.out.cl, O2.out.no, HM.out.wa, HM.out.fa, HM.out.os⟩ (getV b 40 2)).wp_ (m := { m with op := 2, no := cut2 b 24 12, pr := getV b 36 1, po := getV b 40 2 }) ⟨HM.out.cl, O2.out.no, HM.out.wa, HM.out.fa, HM.out.os⟩ (getV b 42 2))
  have FX := Aside0.mk (fr_tr (fr_tr (set_fr w2 g 31 (.int .i64 (getV b 36 1))) (set_fr _ g 32 (.int .i64 (getV b 40 2)))) (set_fr _ g 33 (.int .i64 (getV b 42 2))))
  have F3 := Aside0.mk (fr_tr F2.out FX.out)
  have C3 := Aside0.mk (C_fr C2.out FX.out HN.out)
  have O3 : Aside0 (({ m with op := 2, no := cut2 b 24 12, pr := getV b 36 1, po := getV b 40 2, wp := getV b 42 2 } : AM).ok) := ⟨HM.out.cl, O2.out.no, HM.out.wa, HM.out.fa, HM.out.os⟩
  generalize ((w2.setCell ⟨g, 31, none⟩ (.int .i64 (getV b 36 1))).setCell ⟨g, 32, none⟩ (.int .i64 (getV b 40 2))).setCell ⟨g, 33, none⟩ (.int .i64 (getV b 42 2)) = w3 at *
  clear C2 R2 F2 FX O2
  have k0 := R3.out.k0
  have G3 := Aside0.mk (range_bytes C3.out 44 16 (by decide) (by have := HL.out.2.2; omega))
  have L3 := Aside0.mk (cut2_len b 44 16 (by have := HL.out.2.2; omega))
  go_upto_region 8 with (first
    | (refine wpList_load_mid rfl 25 (.tmp 77) rfl ad.block (ad.off + 44) rfl (e8 (cut2 b 44 16)) _ G3.out Try.underlying25 rfl (by rw [encs_length, L3.out]; exact info25) ?_)
    | (refine wpList_store_mid rfl 25 (.tmp 81) (.tmp 78) rfl g 34 (e8 (cut2 b 44 16)).toArray rfl rfl (by rw [List.size_toArray, encs_length, L3.out]; exact R3.out.there O3.out 34 16 (by decide)) (by rw [List.size_toArray, encs_length, L3.out]; exact info25) (all_oneCell_toArray (one_u8 _)) ?_))
  have R4 := Aside0.mk (R3.out.wa_ O3.out (cut2 b 44 16) L3.out)
  have F4 := Aside0.mk (fr_tr F3.out (sets_fr w3 g 34 (e8 (cut2 b 44 16))))
  have C4 := Aside0.mk (C_fr C3.out (sets_fr w3 g 34 (e8 (cut2 b 44 16))) HN.out)
  have O4 : Aside0 (({ m with op := 2, no := cut2 b 24 12, pr := getV b 36 1, po := getV b 40 2, wp := getV b 42 2, wa := cut2 b 44 16 } : AM).ok) := ⟨HM.out.cl, O3.out.no, L3.out, HM.out.fa, HM.out.os⟩
  show Code.wp _ _ _ _ (w3.setCells g 34 (e8 (cut2 b 44 16)))
  generalize w3.setCells g 34 (e8 (cut2 b 44 16)) = w4 at *
  clear k0 G3 L3 C3 R3 F3 O3
  have k1 : w4.cell? ⟨g, 1, none⟩ = some (.int .i64 2) := R4.out.kop
  have k0 := R4.out.k0
  obtain ⟨_, _, _, k50⟩ := kk R4.out O4.out
  have f50 := R4.out.fz 50
  go_wp2_with fail
  refine (get_calls g (some ad) c _ b 60 2 (by decide) _ R4.out C4.out HL.out.1 (by have := HL.out.2.1; omega) HB.out).mono ?_
  rintro e w4 ⟨rfl, rfl⟩
  go_upto_region 10 with fail
  clear k0 k1 k50 f50
  have R5 := Aside0.mk (R4.out.fp_ O4.out (getV b 60 2))
  have F5 := Aside0.mk (fr_tr F4.out (set_fr w4 g 50 (.int .i64 (getV b 60 2))))
  have C5 := Aside0.mk (C_fr C4.out (set_fr w4 g 50 (.int .i64 (getV b 60 2))) HN.out)
  have O5 : Aside0 (({ m with op := 2, no := cut2 b 24 12, pr := getV b 36 1, po := getV b 40 2, wp := getV b 42 2, wa := cut2 b 44 16, fp := getV b 60 2 } : AM).ok) := ⟨HM.out.cl, O4.out.no, O4.out.wa, HM.out.fa, HM.out.os⟩
  generalize w4.setCell ⟨g, 50, none⟩ (.int .i64 (getV b 60 2)) = w5 at *
  clear C4 R4 F4 O4
  have k0 := R5.out.k0
  have G5 := Aside0.mk (range_bytes C5.out 64 16 (by decide) (by have := HL.out.2.2; omega))
  have L5 := Aside0.mk (cut2_len b 64 16 (by have := HL.out.2.2; omega))
  go_wp2_with (first
    | (refine wpList_load_mid rfl 25 (.tmp 100) rfl ad.block (ad.off + 64) rfl (e8 (cut2 b 64 16)) _ G5.out Try.underlying25 rfl (by rw [encs_length, L5.out]; exact info25) ?_)
    | (refine wpList_store_mid rfl 25 (.tmp 104) (.tmp 101) rfl g 51 (e8 (cut2 b 64 16)).toArray rfl rfl (by rw [List.size_toArray, encs_length, L5.out]; exact R5.out.there O5.out 51 16 (by decide)) (by rw [List.size_toArray, encs_length, L5.out]; exact info25) (all_oneCell_toArray (one_u8 _)) ?_))
  go_end0
  exact ⟨rfl, by unfold m3; rw [HX.out]; exact R5.out.fa_ O5.out (cut2 b 64 16) L5.out, fr_tr F5.out (sets_fr _ _ _ _)⟩
end Go.Proofs.Ytpjkbokojlpjoaa.Ak
