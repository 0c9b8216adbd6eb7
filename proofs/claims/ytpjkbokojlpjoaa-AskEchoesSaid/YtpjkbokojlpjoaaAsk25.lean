/- AskEchoes: its walk. -/
import Derived.Test.YtpjkbokojlpjoaaAsk24
namespace Go.Proofs.Ytpjkbokojlpjoaa.Ak
open Go.RowKit Go.Proofs.YtpjkbokojlpjoaaW.PrintWords Go.Proofs.YtpjkbokojlpjoaaW.PrintLast Go.Proofs.YtpjkbokojlpjoaaW.PrintMore Go.Proofs.Ytpjkbokojlpjoaa.Bs Go.Proofs.Ytpjkbokojlpjoaa.Fr Go.Proofs.Ytpjkbokojlpjoaa.Oct
open Go.Proofs.Ytpjkbokojlpjoaa.PAskReads (S45 k45 z45 k45_open k45_openM k45_mk k45_mkM info45 at_T45 rd_T45)
set_option linter.unusedVariables false
set_option linter.unusedSimpArgs false

theorem sumO_take (L : List S45) (i : Nat) (h : i < L.length) : sumO (L.take (i + 1)) = sumO (L.take i) + (4 + wholeN (rd_T45 L i).f1.length) := by
  rw [take_rd45 L i h, sumO_app]
  simp [sumO]
set_option maxHeartbeats 8000000 in
set_option maxRecDepth 100000 in
theorem echoes_walk (W : World) (A : Option Addr) (c : Nat) (b : List Int) (hC : Kd.C (Kd.int .u8) W A b.length b) (hc : b.length ≤ c) (hm : b.length * 1 ≤ 140737488351232) (hw : ∀ n ∈ b, (Lit.int .u8 n).wf = true) (fm : Int) (wf : (Lit.int .u32 fm).wf = true) (oa : Int) (woa : (Lit.int .u32 oa).wf = true) (op : Int) (wop : (Lit.int .i64 op).wf = true) :
    Calls Try.prog 7 #[.slice A b.length c, .int .u32 fm, .agg #[.int .u32 oa, .int .i64 op]] W fun e w' => e = .returned (.bool true) ∧ Below W.heap.size W w' := by
  have hB : Byt b := fun x hx => by
    have h := hw x hx
    have hmin : IntKind.u8.min = 0 := rfl
    have hmax : IntKind.u8.max = 255 := rfl
    simp only [Lit.wf, Bool.and_eq_true, decide_eq_true_eq] at h
    omega
  clear hw wf hm woa wop
  have B0 := Aside0.mk (below_alloc (Below.refl W.heap.size W) (.cells #[.int .u32 oa, .int .i64 op] 42))
  have E0 := Aside0.mk (blk_new W (.cells #[.int .u32 oa, .int .i64 op] 42))
  have HC := Aside0.mk hC
  have HCC := Aside0.mk hc
  have HB := Aside0.mk hB
  have h29 := z29
  clear hC hc hB
  go_enter Try.func7, Try.ntmps7
  go_wp2_with fail
  refine (awake_calls _).mono ?_
  rintro e w1 ⟨rfl, hb1⟩
  have B1 := Aside0.mk (below_step B0.out hb1)
  have E1 := Aside0.mk (blk_below E0.out hb1)
  clear hb1 B0 E0
  by_cases hg : (b.length : Int) > 2000
  · have hgb := decide_eq_true hg
    go_wp2
    go_ret
    exact ⟨rfl, B1.out⟩
  · have hgb := decide_eq_false hg
    go_wp2_with fail
    by_cases hno : b.length < 2 ∨ 128 ≤ rd b 1
    · have hrd : Calls Try.prog 9 #[.slice A b.length c, .int .u32 fm] w1 fun e w' => e = .returned (.tuple #[az.val, .int .i64 0, .bool false]) ∧ Below w1.heap.size w1 w' := by
        rcases hno with h | h
        · exact Read_short A b.length c h fm w1
        · by_cases h2 : b.length < 2
          · exact Read_short A b.length c h2 fm w1
          · exact Read_answer A c b fm w1 (Kd.C_below HC.out B1.out) (by omega) h (HB.out.rd 1).2
      refine hrd.mono ?_
      rintro e w2 ⟨rfl, hb2⟩
      have B2 := Aside0.mk (below_step B1.out hb2)
      clear hb2 hno hrd hg hgb
      have N2 := Aside0.mk (blk_new w2 (.cells zc29 29))
      unfold AM.val
      go_wp2_with (refine wp_fill rfl 29 (.tmp 7) (.tmp 23) rfl w2.heap.size _ 29 (AM.cells az) N2.out rfl rfl (by rw [AM.len az_ok, zc29_size]) (by rw [info29, zc29_size]) (AM.one az_ok) ?_; intro w3 hx_ hf_; have K3 : Aside0 (Below w2.heap.size w2 w3) := ⟨below_fr (below_alloc (Below.refl _ _) (.cells zc29 29)) (by rw [World.size_alloc]; exact Nat.le_succ _) hf_ (fun k hk => by rw [hk]; exact Nat.le_refl _)⟩; clear hx_ hf_)
      go_ret
      exact ⟨rfl, below_step B2.out K3.out⟩
    · have h2 : 2 ≤ b.length := by omega
      have h1 : rd b 1 < 128 := by omega
      refine (Read_calls A c b fm w1 (Kd.C_below HC.out B1.out) h2 HCC.out HB.out h1).mono ?_
      clear h2 h1 hno hg hgb
      rintro e w2 (⟨hne, rfl, hb2⟩ | ⟨hz, L, v, hcut, rfl, hr, hb2⟩)
      · have hnb : (readC b fm != 0) = true := by simpa using hne
        have B2 := Aside0.mk (below_step B1.out hb2)
        clear hb2 hne
        generalize readC b fm = x at *
        have N2 := Aside0.mk (blk_new w2 (.cells zc29 29))
        unfold AM.val
        go_wp2_with (refine wp_fill rfl 29 (.tmp 7) (.tmp 23) rfl w2.heap.size _ 29 (AM.cells az) N2.out rfl rfl (by rw [AM.len az_ok, zc29_size]) (by rw [info29, zc29_size]) (AM.one az_ok) ?_; intro w3 hx_ hf_; have K3 : Aside0 (Below w2.heap.size w2 w3) := ⟨below_fr (below_alloc (Below.refl _ _) (.cells zc29 29)) (by rw [World.size_alloc]; exact Nat.le_succ _) hf_ (fun k hk => by rw [hk]; exact Nat.le_refl _)⟩; clear hx_ hf_)
        go_ret
        exact ⟨rfl, below_step B2.out K3.out⟩
      · have HGD := Aside0.mk (readC_good b fm hz)
        have HHL := Aside0.mk (headC_len b HGD.out.1)
        have B2 := Aside0.mk (below_step B1.out hb2)
        have E2 := Aside0.mk (blk_below E1.out hb2)
        obtain ⟨A1, c1, ev⟩ := Kd.R_slice hr
        subst ev
        have HOK : Aside0 ((m3 b (m1 b az)).ok) := ⟨m3_ok b (m1_ok b HHL.out.2.1 az_ok) (by have := HGD.out.2.2.2.1; omega) HGD.out.2.2.1⟩
        have HKL : Aside0 ((keepL L).length ≤ 1100 ∧ (∀ o ∈ keepL L, o.f1.length ≤ 1100 ∧ o.f0 < 128) ∧ sumO (keepL L) + 24 + (sizeM (rd b 1)).1.toNat ≤ b.length) := ⟨by
          have h11 := HHL.out.2.2.1
          have hat : 24 + (sizeM (rd b 1)).1.toNat ≤ b.length := by have := HGD.out.2.2.2.1; have := sizeM_le (rd b 1); omega
          have hl := cutM_len b _ _ _ _ hcut hat
          have hs := cutM_sum b _ _ _ _ hcut hat
          have hk := keep_sum L
          have hf : (keepL L).length ≤ L.length := List.length_filter_le _ _
          simp [sumO] at hl hs
          refine ⟨by omega, fun o ho => ?_, by omega⟩
          have h1 := cutM_f1 b 1100 (by omega) _ _ _ _ hcut (fun o ho => by cases ho) o (List.mem_filter.1 ho).1
          exact ⟨h1, by simpa using (List.mem_filter.1 ho).2⟩⟩
        have HOF : Aside0 (AM.ok { m3 b (m1 b az) with os := .slice A1 (keepL L).length c1 }) := ⟨⟨HOK.out.cl, HOK.out.no, HOK.out.wa, HOK.out.fa, rfl⟩⟩
        have OKF := Aside0.mk (AM.len HOF.out)
        have HM3 := Aside0.mk (m3_op b (m1 b az))
        have N2 := Aside0.mk (blk_new w2 (.cells zc29 29))
        have R2 := Aside0.mk hr
        clear hz hcut hr hb2 B1 E1
        unfold AM.val
        go_upto_region 6 with (refine wp_fill rfl 29 (.tmp 7) (.tmp 23) rfl w2.heap.size _ 29 (AM.cells { m3 b (m1 b az) with os := .slice A1 (keepL L).length c1 }) N2.out rfl rfl (by rw [OKF.out, zc29_size]) (by rw [info29, zc29_size]) (AM.one HOF.out) ?_; intro w3 hx_ hf_; have P3 : Aside0 (PB w3 w2.heap.size { m3 b (m1 b az) with os := .slice A1 (keepL L).length c1 }) := ⟨hx_⟩; have K3 : Aside0 (Below w2.heap.size w2 w3) := ⟨below_fr (below_alloc (Below.refl _ _) (.cells zc29 29)) (by rw [World.size_alloc]; exact Nat.le_succ _) hf_ (fun k hk => by rw [hk]; exact Nat.le_refl _)⟩; clear hx_ hf_)
        have B3 := Aside0.mk (below_step B2.out K3.out)
        have E3 := Aside0.mk (blk_below E2.out K3.out)
        have C3 := Aside0.mk (Kd.R_reads' (Kd.R_below R2.out K3.out))
        clear B2 E2 R2 K3 N2 h29
        have kop : w3.cell? ⟨w2.heap.size, 0, none⟩ = some (.int .i64 (rd b 1)) := by rw [P3.out.kop]; show some (Value.int .i64 (m3 b (m1 b az)).op) = _; rw [HM3.out.1]
        generalize w2.heap.size = g7 at *
        by_cases h0 : rd b 1 = 0
        · have h0b : (rd b 1 == 0) = true := by simpa using h0
          clear h0
          go_wp2
          go_ret
          exact ⟨rfl, B3.out⟩
        · have h0b : (rd b 1 == 0) = false := by simpa using h0
          have h12 : rd b 1 = 1 ∨ rd b 1 = 2 := by
            have h := HGD.out.2.2.1
            unfold sizeM at h
            rw [if_neg h0] at h
            by_cases h1 : rd b 1 = 1
            · exact .inl h1
            · rw [if_neg h1] at h
              by_cases h2 : rd b 1 = 2
              · exact .inr h2
              · rw [if_neg h2] at h; cases h
          have H12 := Aside0.mk h12
          have HPT := Aside0.mk (m3_parts b h12)
          obtain ⟨T0, hT0⟩ : ∃ T0 : Nat, (if rd b 1 = 2 then 80 else 60) = T0 := ⟨_, rfl⟩
          have HT0 : Aside0 (T0 + sumO (keepL L) ≤ b.length ∧ 60 ≤ b.length ∧ 60 ≤ T0) := ⟨by
            have h := HKL.out.2.2
            unfold sizeM at h
            rcases h12 with h1 | h1 <;> rw [h1] at h hT0 <;> simp at h hT0 <;> omega⟩
          have HGL : Aside0 ((grantG (m3 b (m1 b az)) 5 6 oa op (keepL L)).length = T0 + sumO (keepL L)) := ⟨by rw [grant_len _ HOK.out, HM3.out.1, hT0]⟩
          have HGH := Aside0.mk (grant_head b HB.out HT0.out.2.1 (m3 b (m1 b az)) HOK.out HPT.out.1 HPT.out.2.1 HPT.out.2.2.1 HPT.out.2.2.2 5 6 oa op (keepL L))
          have HT := Aside0.mk hT0
          have GR := Aside0.mk (range_blk (cs := AM.cells { m3 b (m1 b az) with os := .slice A1 (keepL L).length c1 }) P3.out)
          have e0 : w3.cell? ⟨W.heap.size, 0, none⟩ = some (.int .u32 oa) := blk_cell E3.out 0
          have e1 : w3.cell? ⟨W.heap.size, 1, none⟩ = some (.int .i64 op) := blk_cell E3.out 1
          clear h0 h12 hT0
          go_wp2_with (refine wpList_load_mid rfl 29 (.tmp 7) rfl g7 0 rfl (AM.cells { m3 b (m1 b az) with os := .slice A1 (keepL L).length c1 }) _ GR.out Try.underlying29 rfl (by rw [OKF.out]; exact info29) ?_)
          refine (Grant_calls (m3 b (m1 b az)) HOK.out (by rw [HM3.out.1]; exact H12.out) (keepL L) HKL.out.1 (fun o ho => (HKL.out.2.1 o ho).1) 5 6 oa op (by rw [HGL.out]; have h1 := HT0.out; have h2 := HHL.out; omega) A1 c1 w3 C3.out.2.2).mono ?_
          rintro e w4 ⟨v4, rfl, hr4, hb4⟩
          obtain ⟨gx, c4, ev, _, _, _⟩ := Kd.R_form hr4 (by rw [HGL.out]; have := HT0.out; omega)
          subst ev
          generalize grantG (m3 b (m1 b az)) 5 6 oa op (keepL L) = X at *
          have R4 := Aside0.mk (Kd.R_reads' hr4)
          have B4 := Aside0.mk (below_step B3.out hb4)
          have P4 := Aside0.mk (P3.out.below hb4)
          have C4 := Aside0.mk (Kd.C_below C3.out.2.2 hb4)
          have kop4 := pw_cell_below hb4 kop
          clear hr4 hb4 B3 P3 E3 GR kop e0 e1 C3
          have kos : w4.cell? ⟨g7, 66, none⟩ = some (.slice A1 (keepL L).length c1) := P4.out.kos HOF.out
          generalize hKK : keepL L = KL at *
          clear hKK
          rcases H12.out with h1 | h1
          · have h1b : (rd b 1 == 2) = false := by rw [h1]; rfl
            have HST : Aside0 (Value.int .i64 60 = .int .i64 ((T0 + sumO (KL.take 0) : Nat) : Int)) := ⟨by rw [← HT.out, if_neg (by omega)]; rfl⟩
            clear h1
            go_upto_region 13 with fail
            rw [HST.out]
            go_loopg [11, 12] KL.length (fun q v11 v12 wr => ∃ i : Nat, v11 = .int .i64 ((T0 + sumO (KL.take i) : Nat) : Int) ∧ v12 = .int .i64 (i : Int) ∧ Aside0 (i + q = KL.length) ∧ Aside0 (Below w4.heap.size w4 wr))
            case atStart => exact ⟨0, rfl, rfl, ⟨by omega⟩, ⟨Below.refl _ _⟩⟩
            case round =>
              obtain ⟨i, rfl, rfl, Hi, BI⟩ := hrel
              obtain ⟨n11, hn11⟩ : ∃ n, T0 + sumO (KL.take i) = n := ⟨_, rfl⟩
              have HN11 := Aside0.mk hn11
              rw [hn11]
              clear hn11
              have kosi := pw_cell_below BI.out kos
              have HIL : Aside0 ((i : Int) ≤ 1100) := ⟨by have h1 := Hi.out; have h2 := HKL.out.1; omega⟩
              cases gk with
              | zero =>
                have hlt : ¬ ((i : Int) < (KL.length : Int)) := by have := Hi.out; omega
                have hlb := decide_eq_false hlt
                have HXL : Aside0 (X.length = n11) := ⟨by have h1 := HGL.out; have h2 := HN11.out; rw [List.take_of_length_le (by have := Hi.out; omega)] at h2; omega⟩
                have HNB : Aside0 (n11 ≤ b.length ∧ 60 ≤ n11) := ⟨by have h1 := HGL.out; have h2 := HT0.out; have h3 := HXL.out; omega⟩
                go_wp2_with fail
                refine (Answer_calls A c b 4 5 6 wr (Kd.C_below HC.out (below_step B4.out BI.out)) HCC.out (by have := HHL.out; omega) HB.out).mono ?_
                rintro e w5 ⟨v5, rfl, hr5, hb5⟩
                obtain ⟨A5, c5, ev⟩ := Kd.R_slice hr5
                subst ev
                rw [ans_len b 4 5 6 HHL.out.2.1 HHL.out.2.2.1 HHL.out.2.2.2]
                have B5 := Aside0.mk (below_step BI.out hb5)
                have BF := Aside0.mk (below_step B4.out B5.out)
                have CX := Aside0.mk (Kd.C_below R4.out.2.2 B5.out)
                have CB := Aside0.mk (Kd.C_below HC.out BF.out)
                have HCX := Aside0.mk R4.out.2.1
                clear hr5 hb5 kosi hlb hlt kos kop4
                rw [HXL.out] at CX HCX ⊢
                obtain ⟨ad, e1, cb1⟩ := at_one CB.out 1 (by omega) (by have := HT0.out; omega)
                obtain ⟨ad_, e2, cb36⟩ := at_one CB.out 36 (by omega) (by have := HT0.out; omega)
                obtain ⟨gd, e3, cx1⟩ := at_one (b := X) (by rw [HXL.out]; exact CX.out) 1 (by omega) (by have := HNB.out; rw [HXL.out]; omega)
                obtain ⟨gd_, e4, cx36⟩ := at_one (b := X) (by rw [HXL.out]; exact CX.out) 36 (by omega) (by have := HNB.out; rw [HXL.out]; omega)
                subst e1
                obtain rfl := Option.some.inj e2
                obtain rfl := Option.some.inj e3
                obtain rfl := Option.some.inj e4
                clear e2 e3 e4
                have kb1 : w5.cell? ⟨ad.block, ad.off + 1, none⟩ = some (.int .u8 (rd b 1)) := cb1
                have kb36 : w5.cell? ⟨ad.block, ad.off + 36, none⟩ = some (.int .u8 (rd b 36)) := cb36
                have kx1 : w5.cell? ⟨gx, 1, none⟩ = some (.int .u8 (rd X 1)) := cx1
                have kx36 : w5.cell? ⟨gx, 36, none⟩ = some (.int .u8 (rd X 36)) := cx36
                clear cb1 cb36 cx1 cx36
                rw [HGH.out.1] at kx1
                rw [HGH.out.2.2.1] at kx36
                have t24 : (24 : Int).toNat = 24 := rfl
                have t36 : (36 : Int).toNat = 36 := rfl
                have t40 : (40 : Int).toNat = 40 := rfl
                have t42 : (42 : Int).toNat = 42 := rfl
                obtain ⟨BX1, hcB1, hrB1, hlB1⟩ := print_mid_of (P := Try.prog) (Value.int .u8) 0 22 5 .i64 .i64 Try.underlying22 info5i.choose_spec.1 info5i.choose_spec.2 (some ad) c b 24 36 (by omega) (by omega) (by have := HT0.out; omega) HCC.out
                obtain ⟨BX2, hcB2, hrB2, hlB2⟩ := print_mid_of (P := Try.prog) (Value.int .u8) 0 22 5 .i64 .i64 Try.underlying22 info5i.choose_spec.1 info5i.choose_spec.2 (some ad) c b 40 42 (by omega) (by omega) (by have := HT0.out; omega) HCC.out
                obtain ⟨AX1, hcX1, hrX1, hlX1⟩ := print_mid_of (P := Try.prog) (Value.int .u8) 0 22 5 .i64 .i64 Try.underlying22 info5i.choose_spec.1 info5i.choose_spec.2 (some ⟨gx, 0, none⟩) c4 X 24 36 (by omega) (by omega) (by have := HNB.out; rw [HXL.out]; omega) (by rw [HXL.out]; exact HCX.out)
                obtain ⟨AX2, hcX2, hrX2, hlX2⟩ := print_mid_of (P := Try.prog) (Value.int .u8) 0 22 5 .i64 .i64 Try.underlying22 info5i.choose_spec.1 info5i.choose_spec.2 (some ⟨gx, 0, none⟩) c4 X 40 42 (by omega) (by omega) (by have := HNB.out; rw [HXL.out]; omega) (by rw [HXL.out]; exact HCX.out)
                rw [t24, t36] at hcB1 hrB1 hlB1 hcX1 hrX1 hlX1
                rw [t40, t42] at hcB2 hrB2 hlB2 hcX2 hrX2 hlX2
                rw [HGH.out.2.1] at hcX1 hrX1 hlX1
                rw [HGH.out.2.2.2] at hcX2 hrX2 hlX2
                rw [HXL.out] at hcX1 hrX1 hcX2 hrX2
                clear t24 t36 t40 t42
                have hle1 : ((b.take 36).drop 24).length ≤ 1000000 := by have := HHL.out.2.2.1; rw [List.length_drop, List.length_take]; omega
                have hle2 : ((b.take 42).drop 40).length ≤ 1000000 := by have := HHL.out.2.2.1; rw [List.length_drop, List.length_take]; omega
                generalize (b.take 36).drop 24 = l1 at *
                generalize (b.take 42).drop 40 = l2 at *
                have Hl1 := Aside0.mk (And.intro hle1 (And.intro hlX1 hlB1))
                have Hl2 := Aside0.mk (And.intro hle2 (And.intro hlX2 hlB2))
                have CXl1 : Aside0 (Kd.C (Kd.int .u8) w5 AX1 l1.length l1) := ⟨Kd.C_of_reads (d := (0 : Int)) (h1 := fun _ => rfl) (hrX1 w5 (HXL.out ▸ Kd.reads_of_C (d := (0 : Int)) (by rw [HXL.out]; exact CX.out)))⟩
                have CXl2 : Aside0 (Kd.C (Kd.int .u8) w5 AX2 l2.length l2) := ⟨Kd.C_of_reads (d := (0 : Int)) (h1 := fun _ => rfl) (hrX2 w5 (HXL.out ▸ Kd.reads_of_C (d := (0 : Int)) (by rw [HXL.out]; exact CX.out)))⟩
                have CBl1 : Aside0 (Kd.C (Kd.int .u8) w5 BX1 l1.length l1) := ⟨Kd.C_of_reads (d := (0 : Int)) (h1 := fun _ => rfl) (hrB1 w5 (Kd.reads_of_C (d := (0 : Int)) CB.out))⟩
                have CBl2 : Aside0 (Kd.C (Kd.int .u8) w5 BX2 l2.length l2) := ⟨Kd.C_of_reads (d := (0 : Int)) (h1 := fun _ => rfl) (hrB2 w5 (Kd.reads_of_C (d := (0 : Int)) CB.out))⟩
                clear hrX1 hrX2 hrB1 hrB2 hlX1 hlX2 hlB1 hlB2 hle1 hle2
                obtain ⟨y36, hy36⟩ : ∃ y, rd b 36 = y := ⟨_, rfl⟩
                rw [hy36] at kb36 kx36
                clear hy36
                obtain ⟨x1, hx1⟩ : ∃ y, rd b 1 = y := ⟨_, rfl⟩
                rw [hx1] at kb1 kx1
                clear hx1
                obtain ⟨y1, hy1⟩ : ∃ y, Go.bits .or .u8 x1 128 = y := ⟨_, rfl⟩
                rw [hy1] at kx1
                have hb1i : (0 : Int) ≤ 1 ∧ (1 : Int) < (b.length : Int) := ⟨by omega, by have := HT0.out; omega⟩
                have hb36i : (0 : Int) ≤ 36 ∧ (36 : Int) < (b.length : Int) := ⟨by omega, by have := HT0.out; omega⟩
                have hx1i : (0 : Int) ≤ 1 ∧ (1 : Int) < (n11 : Int) := ⟨by omega, by have := HNB.out; omega⟩
                have hx36i : (0 : Int) ≤ 36 ∧ (36 : Int) < (n11 : Int) := ⟨by omega, by have := HNB.out; omega⟩
                have hnb : ((n11 : Int) ≤ (b.length : Int)) := by have := HNB.out; omega
                go_upto_region 19 with fail
                refine start_ (n := 51) (S := fun w' => w'.cell? ⟨gx, 1, none⟩ = some (.int .u8 y1) ∧ w'.cell? ⟨ad.block, ad.off + 1, none⟩ = some (.int .u8 x1) ∧ w'.cell? ⟨gx, 36, none⟩ = some (.int .u8 y36) ∧ w'.cell? ⟨ad.block, ad.off + 36, none⟩ = some (.int .u8 y36)) (ds := []) #[false, false, false, false, false, false, false, false, false, false, false, false, false, false, false, false, false, false, false, false, false, false, false, false, false, false, false, false, false, false, false, false, false, false, false, false, false, false, false, false, false, false, false, false, false, false, false, false, false, false, false] (by kernel_rfl) rfl rfl ⟨kx1, kb1, kx36, kb36⟩ (fun hHeld => ?_)
                refine pure_ (i := 0) (N := some 72) (v := ?_) (a' := ?_) #[true, false, false, false, false, false, false, false, false, false, false, false, false, false, false, false, false, false, false, false, false, false, false, false, false, false, false, false, false, false, false, false, false, false, false, false, false, false, false, false, false, false, false, false, false, false, false, false, false, false, false] rfl rfl (by kernel_rfl) (fun _ _ _ h => h) (Or.inl ⟨by rfl, ?_⟩) ?_ ?_
                rotate_left
                · intro w'
                  go_simp
                  with_reducible rfl
                rotate_left
                · simp only [Act.put, List.setIfInBounds_toArray, List.set_cons_zero, List.set_cons_succ, i64_w, i32_w]
                  rfl
                refine pure_ (i := 1) (N := some 73) (v := ?_) (a' := ?_) #[true, true, false, false, false, false, false, false, false, false, false, false, false, false, false, false, false, false, false, false, false, false, false, false, false, false, false, false, false, false, false, false, false, false, false, false, false, false, false, false, false, false, false, false, false, false, false, false, false, false, false] rfl rfl (by kernel_rfl) (fun _ _ _ h => h) (Or.inl ⟨by rfl, ?_⟩) ?_ ?_
                rotate_left
                · intro w'
                  go_simp
                  with_reducible rfl
                rotate_left
                · simp only [Act.put, List.setIfInBounds_toArray, List.set_cons_zero, List.set_cons_succ, i64_w, i32_w]
                  rfl
                refine pure_ (i := 2) (N := some 74) (v := ?_) (a' := ?_) #[true, true, true, false, false, false, false, false, false, false, false, false, false, false, false, false, false, false, false, false, false, false, false, false, false, false, false, false, false, false, false, false, false, false, false, false, false, false, false, false, false, false, false, false, false, false, false, false, false, false, false] rfl rfl (by kernel_rfl) (fun _ _ _ h => h) (Or.inl ⟨by rfl, ?_⟩) ?_ ?_
                rotate_left
                · intro w'
                  go_simp
                  with_reducible rfl
                rotate_left
                · simp only [Act.put, List.setIfInBounds_toArray, List.set_cons_zero, List.set_cons_succ, i64_w, i32_w]
                  rfl
                refine pure_ (i := 3) (N := some 75) (v := ?_) (a' := ?_) #[true, true, true, true, false, false, false, false, false, false, false, false, false, false, false, false, false, false, false, false, false, false, false, false, false, false, false, false, false, false, false, false, false, false, false, false, false, false, false, false, false, false, false, false, false, false, false, false, false, false, false] rfl rfl (by kernel_rfl) (fun _ _ _ h => h) (Or.inl ⟨by rfl, ?_⟩) ?_ ?_
                rotate_left
                · intro w'
                  go_simp
                  with_reducible rfl
                rotate_left
                · simp only [Act.put, List.setIfInBounds_toArray, List.set_cons_zero, List.set_cons_succ, i64_w, i32_w]
                  rfl
                refine pure_ (i := 4) (N := some 76) (v := ?_) (a' := ?_) #[true, true, true, true, true, false, false, false, false, false, false, false, false, false, false, false, false, false, false, false, false, false, false, false, false, false, false, false, false, false, false, false, false, false, false, false, false, false, false, false, false, false, false, false, false, false, false, false, false, false, false] rfl rfl (by kernel_rfl) (fun _ _ _ h => h) (Or.inl ⟨by rfl, ?_⟩) ?_ ?_
                rotate_left
                · intro w'
                  go_simp
                  with_reducible rfl
                rotate_left
                · simp only [Act.put, List.setIfInBounds_toArray, List.set_cons_zero, List.set_cons_succ, i64_w, i32_w]
                  rfl
                refine pure_ (i := 5) (N := some 77) (v := ?_) (a' := ?_) #[true, true, true, true, true, true, false, false, false, false, false, false, false, false, false, false, false, false, false, false, false, false, false, false, false, false, false, false, false, false, false, false, false, false, false, false, false, false, false, false, false, false, false, false, false, false, false, false, false, false, false] rfl rfl (by kernel_rfl) (fun _ _ _ h => h) (Or.inl ⟨by rfl, ?_⟩) ?_ ?_
                rotate_left
                · intro w'
                  go_simp
                  with_reducible rfl
                rotate_left
                · simp only [Act.put, List.setIfInBounds_toArray, List.set_cons_zero, List.set_cons_succ, i64_w, i32_w]
                  rfl
                refine pure_ (i := 6) (N := some 78) (v := ?_) (a' := ?_) #[true, true, true, true, true, true, true, false, false, false, false, false, false, false, false, false, false, false, false, false, false, false, false, false, false, false, false, false, false, false, false, false, false, false, false, false, false, false, false, false, false, false, false, false, false, false, false, false, false, false, false] rfl rfl (by kernel_rfl) (fun _ _ _ h => h) (Or.inl ⟨by rfl, ?_⟩) ?_ ?_
                rotate_left
                · intro w'
                  go_simp
                  with_reducible rfl
                rotate_left
                · simp only [Act.put, List.setIfInBounds_toArray, List.set_cons_zero, List.set_cons_succ, i64_w, i32_w]
                  rfl
                refine pure_ (i := 7) (N := some 79) (v := ?_) (a' := ?_) #[true, true, true, true, true, true, true, true, false, false, false, false, false, false, false, false, false, false, false, false, false, false, false, false, false, false, false, false, false, false, false, false, false, false, false, false, false, false, false, false, false, false, false, false, false, false, false, false, false, false, false] rfl rfl (by kernel_rfl) (fun _ _ _ h => h) (Or.inl ⟨by rfl, ?_⟩) ?_ ?_
                rotate_left
                · intro w'
                  go_simp
                  with_reducible rfl
                rotate_left
                · simp only [Act.put, List.setIfInBounds_toArray, List.set_cons_zero, List.set_cons_succ, i64_w, i32_w]
                  rfl
                refine pure_ (i := 8) (N := some 80) (v := ?_) (a' := ?_) #[true, true, true, true, true, true, true, true, true, false, false, false, false, false, false, false, false, false, false, false, false, false, false, false, false, false, false, false, false, false, false, false, false, false, false, false, false, false, false, false, false, false, false, false, false, false, false, false, false, false, false] rfl rfl (by kernel_rfl) (fun _ _ _ h => h) (Or.inl ⟨by rfl, ?_⟩) ?_ ?_
                rotate_left
                · intro w'
                  go_simp
                  with_reducible rfl
                rotate_left
                · simp only [Act.put, List.setIfInBounds_toArray, List.set_cons_zero, List.set_cons_succ, i64_w, i32_w]
                  rfl
                refine pure_ (i := 9) (N := some 81) (v := ?_) (a' := ?_) #[true, true, true, true, true, true, true, true, true, true, false, false, false, false, false, false, false, false, false, false, false, false, false, false, false, false, false, false, false, false, false, false, false, false, false, false, false, false, false, false, false, false, false, false, false, false, false, false, false, false, false] rfl rfl (by kernel_rfl) (fun _ _ _ h => h) (Or.inl ⟨by rfl, ?_⟩) ?_ ?_
                rotate_left
                · intro w'
                  go_simp
                  with_reducible rfl
                rotate_left
                · simp only [Act.put, List.setIfInBounds_toArray, List.set_cons_zero, List.set_cons_succ, i64_w, i32_w]
                  rfl
                refine pure_ (i := 10) (N := some 82) (v := ?_) (a' := ?_) #[true, true, true, true, true, true, true, true, true, true, true, false, false, false, false, false, false, false, false, false, false, false, false, false, false, false, false, false, false, false, false, false, false, false, false, false, false, false, false, false, false, false, false, false, false, false, false, false, false, false, false] rfl rfl (by kernel_rfl) (fun _ _ _ h => h) (Or.inl ⟨by rfl, ?_⟩) ?_ ?_
                rotate_left
                · intro w'
                  go_simp
                  with_reducible rfl
                rotate_left
                · simp only [Act.put, List.setIfInBounds_toArray, List.set_cons_zero, List.set_cons_succ, i64_w, i32_w]
                  rfl
                refine pure_ (i := 11) (N := some 83) (v := ?_) (a' := ?_) #[true, true, true, true, true, true, true, true, true, true, true, true, false, false, false, false, false, false, false, false, false, false, false, false, false, false, false, false, false, false, false, false, false, false, false, false, false, false, false, false, false, false, false, false, false, false, false, false, false, false, false] rfl rfl (by kernel_rfl) (fun _ _ _ h => h) (Or.inl ⟨by rfl, ?_⟩) ?_ ?_
                rotate_left
                · intro w'
                  go_simp
                  with_reducible rfl
                rotate_left
                · simp only [Act.put, List.setIfInBounds_toArray, List.set_cons_zero, List.set_cons_succ, i64_w, i32_w]
                  rfl
                refine pure_ (i := 12) (N := some 84) (v := ?_) (a' := ?_) #[true, true, true, true, true, true, true, true, true, true, true, true, true, false, false, false, false, false, false, false, false, false, false, false, false, false, false, false, false, false, false, false, false, false, false, false, false, false, false, false, false, false, false, false, false, false, false, false, false, false, false] rfl rfl (by kernel_rfl) (fun _ _ _ h => h) (Or.inl ⟨by rfl, ?_⟩) ?_ ?_
                rotate_left
                · intro w'
                  go_simp
                  with_reducible rfl
                rotate_left
                · simp only [Act.put, List.setIfInBounds_toArray, List.set_cons_zero, List.set_cons_succ, i64_w, i32_w]
                  rfl
                refine pure_ (i := 14) (N := some 86) (v := ?_) (a' := ?_) #[true, true, true, true, true, true, true, true, true, true, true, true, true, false, true, false, false, false, false, false, false, false, false, false, false, false, false, false, false, false, false, false, false, false, false, false, false, false, false, false, false, false, false, false, false, false, false, false, false, false, false] rfl rfl (by kernel_rfl) (fun _ _ _ h => h) (Or.inl ⟨by rfl, ?_⟩) ?_ ?_
                rotate_left
                · intro w'
                  go_simp
                  with_reducible rfl
                rotate_left
                · simp only [Act.put, List.setIfInBounds_toArray, List.set_cons_zero, List.set_cons_succ, i64_w, i32_w]
                  rfl
                refine pure_ (i := 15) (N := some 87) (v := ?_) (a' := ?_) #[true, true, true, true, true, true, true, true, true, true, true, true, true, false, true, true, false, false, false, false, false, false, false, false, false, false, false, false, false, false, false, false, false, false, false, false, false, false, false, false, false, false, false, false, false, false, false, false, false, false, false] rfl rfl (by kernel_rfl) (fun _ _ _ h => h) (Or.inl ⟨by rfl, ?_⟩) ?_ ?_
                rotate_left
                · intro w'
                  go_simp
                  with_reducible rfl
                rotate_left
                · simp only [Act.put, List.setIfInBounds_toArray, List.set_cons_zero, List.set_cons_succ, i64_w, i32_w]
                  rfl
                refine take_ (i := 13) (N := some 85) (v := ?_) (a' := ?_) #[true, true, true, true, true, true, true, true, true, true, true, true, true, true, true, true, false, false, false, false, false, false, false, false, false, false, false, false, false, false, false, false, false, false, false, false, false, false, false, false, false, false, false, false, false, false, false, false, false, false, false] rfl rfl (by kernel_rfl) (fun _ _ _ h => h) (Or.inl ⟨by rfl, ?_⟩) hHeld ?_ ?_
                rotate_left
                · rintro w' ⟨s0, s1, s2, s3⟩
                  go_simp
                  with_reducible rfl
                rotate_left
                · simp only [Act.put, List.setIfInBounds_toArray, List.set_cons_zero, List.set_cons_succ, i64_w, i32_w]
                  rfl
                refine take_ (i := 16) (N := some 88) (v := ?_) (a' := ?_) #[true, true, true, true, true, true, true, true, true, true, true, true, true, true, true, true, true, false, false, false, false, false, false, false, false, false, false, false, false, false, false, false, false, false, false, false, false, false, false, false, false, false, false, false, false, false, false, false, false, false, false] rfl rfl (by kernel_rfl) (fun _ _ _ h => h) (Or.inl ⟨by rfl, ?_⟩) hHeld ?_ ?_
                rotate_left
                · rintro w' ⟨s0, s1, s2, s3⟩
                  go_simp
                  with_reducible rfl
                rotate_left
                · simp only [Act.put, List.setIfInBounds_toArray, List.set_cons_zero, List.set_cons_succ, i64_w, i32_w]
                  rfl
                refine pure_ (i := 17) (N := some 89) (v := ?_) (a' := ?_) #[true, true, true, true, true, true, true, true, true, true, true, true, true, true, true, true, true, true, false, false, false, false, false, false, false, false, false, false, false, false, false, false, false, false, false, false, false, false, false, false, false, false, false, false, false, false, false, false, false, false, false] rfl rfl (by kernel_rfl) (fun _ _ _ h => h) (Or.inl ⟨by rfl, ?_⟩) ?_ ?_
                rotate_left
                · intro w'
                  go_simp
                  with_reducible rfl
                rotate_left
                · simp only [Act.put, List.setIfInBounds_toArray, List.set_cons_zero, List.set_cons_succ, i64_w, i32_w]
                  rfl
                refine pure_ (i := 18) (N := some 90) (v := ?_) (a' := ?_) #[true, true, true, true, true, true, true, true, true, true, true, true, true, true, true, true, true, true, true, false, false, false, false, false, false, false, false, false, false, false, false, false, false, false, false, false, false, false, false, false, false, false, false, false, false, false, false, false, false, false, false] rfl rfl (by kernel_rfl) (fun _ _ _ h => h) (Or.inl ⟨by rfl, ?_⟩) ?_ ?_
                rotate_left
                · intro w'
                  go_simp
                  with_reducible rfl
                rotate_left
                · simp only [Act.put, List.setIfInBounds_toArray, List.set_cons_zero, List.set_cons_succ, i64_w, i32_w]
                  rfl
                refine pure_ (i := 19) (N := some 91) (v := ?_) (a' := ?_) #[true, true, true, true, true, true, true, true, true, true, true, true, true, true, true, true, true, true, true, true, false, false, false, false, false, false, false, false, false, false, false, false, false, false, false, false, false, false, false, false, false, false, false, false, false, false, false, false, false, false, false] rfl rfl (by kernel_rfl) (fun _ _ _ h => h) (Or.inl ⟨by rfl, ?_⟩) ?_ ?_
                rotate_left
                · intro w'
                  go_simp
                  with_reducible rfl
                rotate_left
                · simp only [Act.put, List.setIfInBounds_toArray, List.set_cons_zero, List.set_cons_succ, i64_w, i32_w]
                  rfl
                refine pure_ (i := 20) (N := some 92) (v := ?_) (a' := ?_) #[true, true, true, true, true, true, true, true, true, true, true, true, true, true, true, true, true, true, true, true, true, false, false, false, false, false, false, false, false, false, false, false, false, false, false, false, false, false, false, false, false, false, false, false, false, false, false, false, false, false, false] rfl rfl (by kernel_rfl) (fun _ _ _ h => h) (Or.inl ⟨by rfl, ?_⟩) ?_ ?_
                rotate_left
                · intro w'
                  go_simp
                  with_reducible rfl
                rotate_left
                · simp only [Act.put, List.setIfInBounds_toArray, List.set_cons_zero, List.set_cons_succ, i64_w, i32_w]
                  rfl
                refine pure_ (i := 21) (N := some 93) (v := ?_) (a' := ?_) #[true, true, true, true, true, true, true, true, true, true, true, true, true, true, true, true, true, true, true, true, true, true, false, false, false, false, false, false, false, false, false, false, false, false, false, false, false, false, false, false, false, false, false, false, false, false, false, false, false, false, false] rfl rfl (by kernel_rfl) (fun _ _ _ h => h) (Or.inl ⟨by rfl, ?_⟩) ?_ ?_
                rotate_left
                · intro w'
                  go_simp
                  with_reducible rfl
                rotate_left
                · simp only [Act.put, List.setIfInBounds_toArray, List.set_cons_zero, List.set_cons_succ, i64_w, i32_w]
                  rfl
                refine pure_ (i := 22) (N := some 94) (v := ?_) (a' := ?_) #[true, true, true, true, true, true, true, true, true, true, true, true, true, true, true, true, true, true, true, true, true, true, true, false, false, false, false, false, false, false, false, false, false, false, false, false, false, false, false, false, false, false, false, false, false, false, false, false, false, false, false] rfl rfl (by kernel_rfl) (fun _ _ _ h => h) (Or.inl ⟨by rfl, ?_⟩) ?_ ?_
                rotate_left
                · intro w'
                  go_simp
                  with_reducible rfl
                rotate_left
                · simp only [Act.put, List.setIfInBounds_toArray, List.set_cons_zero, List.set_cons_succ, i64_w, i32_w]
                  rfl
                refine pure_ (i := 23) (N := some 95) (v := ?_) (a' := ?_) #[true, true, true, true, true, true, true, true, true, true, true, true, true, true, true, true, true, true, true, true, true, true, true, true, false, false, false, false, false, false, false, false, false, false, false, false, false, false, false, false, false, false, false, false, false, false, false, false, false, false, false] rfl rfl (by kernel_rfl) (fun _ _ _ h => h) (Or.inl ⟨by rfl, ?_⟩) ?_ ?_
                rotate_left
                · intro w'
                  go_simp
                  with_reducible rfl
                rotate_left
                · simp only [Act.put, List.setIfInBounds_toArray, List.set_cons_zero, List.set_cons_succ, i64_w, i32_w]
                  rfl
                refine pure_ (i := 24) (N := some 96) (v := ?_) (a' := ?_) #[true, true, true, true, true, true, true, true, true, true, true, true, true, true, true, true, true, true, true, true, true, true, true, true, true, false, false, false, false, false, false, false, false, false, false, false, false, false, false, false, false, false, false, false, false, false, false, false, false, false, false] rfl rfl (by kernel_rfl) (fun _ _ _ h => h) (Or.inl ⟨by rfl, ?_⟩) ?_ ?_
                rotate_left
                · intro w'
                  go_simp
                  with_reducible rfl
                rotate_left
                · simp only [Act.put, List.setIfInBounds_toArray, List.set_cons_zero, List.set_cons_succ, i64_w, i32_w]
                  rfl
                refine one_ (i := 25) (N := some 97) #[true, true, true, true, true, true, true, true, true, true, true, true, true, true, true, true, true, true, true, true, true, true, true, true, true, true, false, false, false, false, false, false, false, false, false, false, false, false, false, false, false, false, false, false, false, false, false, false, false, false, false] rfl rfl (by kernel_rfl) (by decide) (fun K hK => ?_)
                refine goes_ Try.func16 (by kernel_rfl) rfl #[.slice AX1 l1.length (c4 - 24), .slice BX1 l1.length (c - 24)] (by rfl) rfl rfl (by simp only [List.map_toArray, List.map_cons, List.map_nil]; rfl) ?_
                with_reducible refine (same_calls _ AX1 BX1 (c4 - 24) (c - 24) l1.length l1 (by have := Hl1.out; omega) rfl (Kd.C_below CXl1.out (Below.refl _ _).drew) (by have := Hl1.out; omega) (Kd.C_below CBl1.out (Below.refl _ _).drew) (by have := Hl1.out; omega)).mono ?_
                rintro e wP ⟨rfl, hbwP⟩
                refine ⟨_, rfl, ?_⟩
                have KP : Below w5.heap.size w5 wP := below_step (Below.refl _ _).drew hbwP
                refine hK.out _ _ ⟨(pw_cell_below KP kx1), (pw_cell_below KP kb1), (pw_cell_below KP kx36), (pw_cell_below KP kb36)⟩ (fun hHeld => ?_)
                clear hK K
                refine norm_ (a' := ?_) ?_ ?_
                rotate_left
                · show Act.put _ (some 97) _ = _
                  simp only [Act.put, List.setIfInBounds_toArray, List.set_cons_zero, List.set_cons_succ, i64_w, i32_w]
                  rfl
                refine pure_ (i := 26) (N := some 98) (v := ?_) (a' := ?_) #[true, true, true, true, true, true, true, true, true, true, true, true, true, true, true, true, true, true, true, true, true, true, true, true, true, true, true, false, false, false, false, false, false, false, false, false, false, false, false, false, false, false, false, false, false, false, false, false, false, false, false] rfl rfl (by kernel_rfl) (fun _ _ _ h => h) (Or.inl ⟨by rfl, ?_⟩) ?_ ?_
                rotate_left
                · intro w'
                  go_simp
                  with_reducible rfl
                rotate_left
                · simp only [Act.put, List.setIfInBounds_toArray, List.set_cons_zero, List.set_cons_succ, i64_w, i32_w]
                  rfl
                refine pure_ (i := 27) (N := some 99) (v := ?_) (a' := ?_) #[true, true, true, true, true, true, true, true, true, true, true, true, true, true, true, true, true, true, true, true, true, true, true, true, true, true, true, true, false, false, false, false, false, false, false, false, false, false, false, false, false, false, false, false, false, false, false, false, false, false, false] rfl rfl (by kernel_rfl) (fun _ _ _ h => h) (Or.inl ⟨by rfl, ?_⟩) ?_ ?_
                rotate_left
                · intro w'
                  go_simp
                  with_reducible rfl
                rotate_left
                · simp only [Act.put, List.setIfInBounds_toArray, List.set_cons_zero, List.set_cons_succ, i64_w, i32_w]
                  rfl
                refine pure_ (i := 28) (N := some 100) (v := ?_) (a' := ?_) #[true, true, true, true, true, true, true, true, true, true, true, true, true, true, true, true, true, true, true, true, true, true, true, true, true, true, true, true, true, false, false, false, false, false, false, false, false, false, false, false, false, false, false, false, false, false, false, false, false, false, false] rfl rfl (by kernel_rfl) (fun _ _ _ h => h) (Or.inl ⟨by rfl, ?_⟩) ?_ ?_
                rotate_left
                · intro w'
                  go_simp
                  with_reducible rfl
                rotate_left
                · simp only [Act.put, List.setIfInBounds_toArray, List.set_cons_zero, List.set_cons_succ, i64_w, i32_w]
                  rfl
                refine pure_ (i := 29) (N := some 101) (v := ?_) (a' := ?_) #[true, true, true, true, true, true, true, true, true, true, true, true, true, true, true, true, true, true, true, true, true, true, true, true, true, true, true, true, true, true, false, false, false, false, false, false, false, false, false, false, false, false, false, false, false, false, false, false, false, false, false] rfl rfl (by kernel_rfl) (fun _ _ _ h => h) (Or.inl ⟨by rfl, ?_⟩) ?_ ?_
                rotate_left
                · intro w'
                  go_simp
                  with_reducible rfl
                rotate_left
                · simp only [Act.put, List.setIfInBounds_toArray, List.set_cons_zero, List.set_cons_succ, i64_w, i32_w]
                  rfl
                refine pure_ (i := 31) (N := some 103) (v := ?_) (a' := ?_) #[true, true, true, true, true, true, true, true, true, true, true, true, true, true, true, true, true, true, true, true, true, true, true, true, true, true, true, true, true, true, false, true, false, false, false, false, false, false, false, false, false, false, false, false, false, false, false, false, false, false, false] rfl rfl (by kernel_rfl) (fun _ _ _ h => h) (Or.inl ⟨by rfl, ?_⟩) ?_ ?_
                rotate_left
                · intro w'
                  go_simp
                  with_reducible rfl
                rotate_left
                · simp only [Act.put, List.setIfInBounds_toArray, List.set_cons_zero, List.set_cons_succ, i64_w, i32_w]
                  rfl
                refine pure_ (i := 32) (N := some 104) (v := ?_) (a' := ?_) #[true, true, true, true, true, true, true, true, true, true, true, true, true, true, true, true, true, true, true, true, true, true, true, true, true, true, true, true, true, true, false, true, true, false, false, false, false, false, false, false, false, false, false, false, false, false, false, false, false, false, false] rfl rfl (by kernel_rfl) (fun _ _ _ h => h) (Or.inl ⟨by rfl, ?_⟩) ?_ ?_
                rotate_left
                · intro w'
                  go_simp
                  with_reducible rfl
                rotate_left
                · simp only [Act.put, List.setIfInBounds_toArray, List.set_cons_zero, List.set_cons_succ, i64_w, i32_w]
                  rfl
                refine take_ (i := 30) (N := some 102) (v := ?_) (a' := ?_) #[true, true, true, true, true, true, true, true, true, true, true, true, true, true, true, true, true, true, true, true, true, true, true, true, true, true, true, true, true, true, true, true, true, false, false, false, false, false, false, false, false, false, false, false, false, false, false, false, false, false, false] rfl rfl (by kernel_rfl) (fun _ _ _ h => h) (Or.inl ⟨by rfl, ?_⟩) hHeld ?_ ?_
                rotate_left
                · rintro w' ⟨s0, s1, s2, s3⟩
                  go_simp
                  with_reducible rfl
                rotate_left
                · simp only [Act.put, List.setIfInBounds_toArray, List.set_cons_zero, List.set_cons_succ, i64_w, i32_w]
                  rfl
                refine take_ (i := 33) (N := some 105) (v := ?_) (a' := ?_) #[true, true, true, true, true, true, true, true, true, true, true, true, true, true, true, true, true, true, true, true, true, true, true, true, true, true, true, true, true, true, true, true, true, true, false, false, false, false, false, false, false, false, false, false, false, false, false, false, false, false, false] rfl rfl (by kernel_rfl) (fun _ _ _ h => h) (Or.inl ⟨by rfl, ?_⟩) hHeld ?_ ?_
                rotate_left
                · rintro w' ⟨s0, s1, s2, s3⟩
                  go_simp
                  with_reducible rfl
                rotate_left
                · simp only [Act.put, List.setIfInBounds_toArray, List.set_cons_zero, List.set_cons_succ, i64_w, i32_w]
                  rfl
                refine pure_ (i := 34) (N := some 106) (v := ?_) (a' := ?_) #[true, true, true, true, true, true, true, true, true, true, true, true, true, true, true, true, true, true, true, true, true, true, true, true, true, true, true, true, true, true, true, true, true, true, true, false, false, false, false, false, false, false, false, false, false, false, false, false, false, false, false] rfl rfl (by kernel_rfl) (fun _ _ _ h => h) (Or.inl ⟨by rfl, ?_⟩) ?_ ?_
                rotate_left
                · intro w'
                  go_simp
                  with_reducible rfl
                rotate_left
                · simp only [Act.put, List.setIfInBounds_toArray, List.set_cons_zero, List.set_cons_succ, i64_w, i32_w]
                  rfl
                refine pure_ (i := 35) (N := some 107) (v := ?_) (a' := ?_) #[true, true, true, true, true, true, true, true, true, true, true, true, true, true, true, true, true, true, true, true, true, true, true, true, true, true, true, true, true, true, true, true, true, true, true, true, false, false, false, false, false, false, false, false, false, false, false, false, false, false, false] rfl rfl (by kernel_rfl) (fun _ _ _ h => h) (Or.inl ⟨by rfl, ?_⟩) ?_ ?_
                rotate_left
                · intro w'
                  go_simp
                  with_reducible rfl
                rotate_left
                · simp only [Act.put, List.setIfInBounds_toArray, List.set_cons_zero, List.set_cons_succ, i64_w, i32_w]
                  rfl
                refine pure_ (i := 36) (N := some 108) (v := ?_) (a' := ?_) #[true, true, true, true, true, true, true, true, true, true, true, true, true, true, true, true, true, true, true, true, true, true, true, true, true, true, true, true, true, true, true, true, true, true, true, true, true, false, false, false, false, false, false, false, false, false, false, false, false, false, false] rfl rfl (by kernel_rfl) (fun _ _ _ h => h) (Or.inl ⟨by rfl, ?_⟩) ?_ ?_
                rotate_left
                · intro w'
                  go_simp
                  with_reducible rfl
                rotate_left
                · simp only [Act.put, List.setIfInBounds_toArray, List.set_cons_zero, List.set_cons_succ, i64_w, i32_w]
                  rfl
                refine pure_ (i := 37) (N := some 109) (v := ?_) (a' := ?_) #[true, true, true, true, true, true, true, true, true, true, true, true, true, true, true, true, true, true, true, true, true, true, true, true, true, true, true, true, true, true, true, true, true, true, true, true, true, true, false, false, false, false, false, false, false, false, false, false, false, false, false] rfl rfl (by kernel_rfl) (fun _ _ _ h => h) (Or.inl ⟨by rfl, ?_⟩) ?_ ?_
                rotate_left
                · intro w'
                  go_simp
                  with_reducible rfl
                rotate_left
                · simp only [Act.put, List.setIfInBounds_toArray, List.set_cons_zero, List.set_cons_succ, i64_w, i32_w]
                  rfl
                refine pure_ (i := 38) (N := some 110) (v := ?_) (a' := ?_) #[true, true, true, true, true, true, true, true, true, true, true, true, true, true, true, true, true, true, true, true, true, true, true, true, true, true, true, true, true, true, true, true, true, true, true, true, true, true, true, false, false, false, false, false, false, false, false, false, false, false, false] rfl rfl (by kernel_rfl) (fun _ _ _ h => h) (Or.inl ⟨by rfl, ?_⟩) ?_ ?_
                rotate_left
                · intro w'
                  go_simp
                  with_reducible rfl
                rotate_left
                · simp only [Act.put, List.setIfInBounds_toArray, List.set_cons_zero, List.set_cons_succ, i64_w, i32_w]
                  rfl
                refine pure_ (i := 39) (N := some 111) (v := ?_) (a' := ?_) #[true, true, true, true, true, true, true, true, true, true, true, true, true, true, true, true, true, true, true, true, true, true, true, true, true, true, true, true, true, true, true, true, true, true, true, true, true, true, true, true, false, false, false, false, false, false, false, false, false, false, false] rfl rfl (by kernel_rfl) (fun _ _ _ h => h) (Or.inl ⟨by rfl, ?_⟩) ?_ ?_
                rotate_left
                · intro w'
                  go_simp
                  with_reducible rfl
                rotate_left
                · simp only [Act.put, List.setIfInBounds_toArray, List.set_cons_zero, List.set_cons_succ, i64_w, i32_w]
                  rfl
                refine pure_ (i := 40) (N := some 112) (v := ?_) (a' := ?_) #[true, true, true, true, true, true, true, true, true, true, true, true, true, true, true, true, true, true, true, true, true, true, true, true, true, true, true, true, true, true, true, true, true, true, true, true, true, true, true, true, true, false, false, false, false, false, false, false, false, false, false] rfl rfl (by kernel_rfl) (fun _ _ _ h => h) (Or.inl ⟨by rfl, ?_⟩) ?_ ?_
                rotate_left
                · intro w'
                  go_simp
                  with_reducible rfl
                rotate_left
                · simp only [Act.put, List.setIfInBounds_toArray, List.set_cons_zero, List.set_cons_succ, i64_w, i32_w]
                  rfl
                refine one_ (i := 41) (N := some 113) #[true, true, true, true, true, true, true, true, true, true, true, true, true, true, true, true, true, true, true, true, true, true, true, true, true, true, true, true, true, true, true, true, true, true, true, true, true, true, true, true, true, true, false, false, false, false, false, false, false, false, false] rfl rfl (by kernel_rfl) (by decide) (fun K hK => ?_)
                refine goes_ Try.func16 (by kernel_rfl) rfl #[.slice AX2 l2.length (c4 - 40), .slice BX2 l2.length (c - 40)] (by rfl) rfl rfl (by simp only [List.map_toArray, List.map_cons, List.map_nil]; rfl) ?_
                with_reducible refine (same_calls _ AX2 BX2 (c4 - 40) (c - 40) l2.length l2 (by have := Hl2.out; omega) rfl (Kd.C_below CXl2.out KP) (by have := Hl2.out; omega) (Kd.C_below CBl2.out KP) (by have := Hl2.out; omega)).mono ?_
                rintro e wQ ⟨rfl, hbwQ⟩
                refine ⟨_, rfl, ?_⟩
                have KQ : Aside0 (Below w5.heap.size w5 wQ) := ⟨below_step KP hbwQ⟩
                refine hK.out _ _ ⟨(pw_cell_below KQ.out kx1), (pw_cell_below KQ.out kb1), (pw_cell_below KQ.out kx36), (pw_cell_below KQ.out kb36)⟩ (fun hHeld => ?_)
                clear hK K
                refine norm_ (a' := ?_) ?_ ?_
                rotate_left
                · show Act.put _ (some 113) _ = _
                  simp only [Act.put, List.setIfInBounds_toArray, List.set_cons_zero, List.set_cons_succ, i64_w, i32_w]
                  rfl
                refine pure_ (i := 42) (N := some 114) (v := ?_) (a' := ?_) #[true, true, true, true, true, true, true, true, true, true, true, true, true, true, true, true, true, true, true, true, true, true, true, true, true, true, true, true, true, true, true, true, true, true, true, true, true, true, true, true, true, true, true, false, false, false, false, false, false, false, false] rfl rfl (by kernel_rfl) (fun _ _ _ h => h) (Or.inl ⟨by rfl, ?_⟩) ?_ ?_
                rotate_left
                · intro w'
                  go_simp
                  with_reducible rfl
                rotate_left
                · simp only [Act.put, List.setIfInBounds_toArray, List.set_cons_zero, List.set_cons_succ, i64_w, i32_w]
                  rfl
                refine pure_ (i := 43) (N := some 115) (v := ?_) (a' := ?_) #[true, true, true, true, true, true, true, true, true, true, true, true, true, true, true, true, true, true, true, true, true, true, true, true, true, true, true, true, true, true, true, true, true, true, true, true, true, true, true, true, true, true, true, true, false, false, false, false, false, false, false] rfl rfl (by kernel_rfl) (fun _ _ _ h => h) (Or.inl ⟨by rfl, ?_⟩) ?_ ?_
                rotate_left
                · intro w'
                  go_simp
                  with_reducible rfl
                rotate_left
                · simp only [Act.put, List.setIfInBounds_toArray, List.set_cons_zero, List.set_cons_succ, i64_w, i32_w]
                  rfl
                refine pure_ (i := 44) (N := some 116) (v := ?_) (a' := ?_) #[true, true, true, true, true, true, true, true, true, true, true, true, true, true, true, true, true, true, true, true, true, true, true, true, true, true, true, true, true, true, true, true, true, true, true, true, true, true, true, true, true, true, true, true, true, false, false, false, false, false, false] rfl rfl (by kernel_rfl) (fun _ _ _ h => h) (Or.inl ⟨by rfl, ?_⟩) ?_ ?_
                rotate_left
                · intro w'
                  go_simp
                  with_reducible rfl
                rotate_left
                · simp only [Act.put, List.setIfInBounds_toArray, List.set_cons_zero, List.set_cons_succ, i64_w, i32_w]
                  rfl
                refine pure_ (i := 45) (N := some 117) (v := ?_) (a' := ?_) #[true, true, true, true, true, true, true, true, true, true, true, true, true, true, true, true, true, true, true, true, true, true, true, true, true, true, true, true, true, true, true, true, true, true, true, true, true, true, true, true, true, true, true, true, true, true, false, false, false, false, false] rfl rfl (by kernel_rfl) (fun _ _ _ h => h) (Or.inl ⟨by rfl, ?_⟩) ?_ ?_
                rotate_left
                · intro w'
                  go_simp
                  with_reducible rfl
                rotate_left
                · simp only [Act.put, List.setIfInBounds_toArray, List.set_cons_zero, List.set_cons_succ, i64_w, i32_w]
                  rfl
                refine pure_ (i := 46) (N := some 118) (v := ?_) (a' := ?_) #[true, true, true, true, true, true, true, true, true, true, true, true, true, true, true, true, true, true, true, true, true, true, true, true, true, true, true, true, true, true, true, true, true, true, true, true, true, true, true, true, true, true, true, true, true, true, true, false, false, false, false] rfl rfl (by kernel_rfl) (fun _ _ _ h => h) (Or.inl ⟨by rfl, ?_⟩) ?_ ?_
                rotate_left
                · intro w'
                  go_simp
                  with_reducible rfl
                rotate_left
                · simp only [Act.put, List.setIfInBounds_toArray, List.set_cons_zero, List.set_cons_succ, i64_w, i32_w]
                  rfl
                refine pure_ (i := 47) (N := some 119) (v := ?_) (a' := ?_) #[true, true, true, true, true, true, true, true, true, true, true, true, true, true, true, true, true, true, true, true, true, true, true, true, true, true, true, true, true, true, true, true, true, true, true, true, true, true, true, true, true, true, true, true, true, true, true, true, false, false, false] rfl rfl (by kernel_rfl) (fun _ _ _ h => h) (Or.inl ⟨by rfl, ?_⟩) ?_ ?_
                rotate_left
                · intro w'
                  go_simp
                  with_reducible rfl
                rotate_left
                · simp only [Act.put, List.setIfInBounds_toArray, List.set_cons_zero, List.set_cons_succ, i64_w, i32_w]
                  rfl
                refine pure_ (i := 48) (N := some 120) (v := ?_) (a' := ?_) #[true, true, true, true, true, true, true, true, true, true, true, true, true, true, true, true, true, true, true, true, true, true, true, true, true, true, true, true, true, true, true, true, true, true, true, true, true, true, true, true, true, true, true, true, true, true, true, true, true, false, false] rfl rfl (by kernel_rfl) (fun _ _ _ h => h) (Or.inl ⟨by rfl, ?_⟩) ?_ ?_
                rotate_left
                · intro w'
                  go_simp
                  with_reducible rfl
                rotate_left
                · simp only [Act.put, List.setIfInBounds_toArray, List.set_cons_zero, List.set_cons_succ, i64_w, i32_w]
                  rfl
                refine pure_ (i := 49) (N := some 121) (v := ?_) (a' := ?_) #[true, true, true, true, true, true, true, true, true, true, true, true, true, true, true, true, true, true, true, true, true, true, true, true, true, true, true, true, true, true, true, true, true, true, true, true, true, true, true, true, true, true, true, true, true, true, true, true, true, true, false] rfl rfl (by kernel_rfl) (fun _ _ _ h => h) (Or.inl ⟨by rfl, ?_⟩) ?_ ?_
                rotate_left
                · intro w'
                  go_simp
                  with_reducible rfl
                rotate_left
                · simp only [Act.put, List.setIfInBounds_toArray, List.set_cons_zero, List.set_cons_succ, i64_w, i32_w]
                  rfl
                refine pure_ (i := 50) (N := some 6) (v := ?_) (a' := ?_) #[true, true, true, true, true, true, true, true, true, true, true, true, true, true, true, true, true, true, true, true, true, true, true, true, true, true, true, true, true, true, true, true, true, true, true, true, true, true, true, true, true, true, true, true, true, true, true, true, true, true, true] rfl rfl (by kernel_rfl) (fun _ _ _ h => h) (Or.inl ⟨by rfl, ?_⟩) ?_ ?_
                rotate_left
                · intro w'
                  go_simp
                  with_reducible rfl
                rotate_left
                · simp only [Act.put, List.setIfInBounds_toArray, List.set_cons_zero, List.set_cons_succ, i64_w, i32_w]
                  rfl
                refine done_ (by kernel_rfl) ?_
                go_wp2
                go_ret
                exact ⟨rfl, below_step BF.out KQ.out⟩
              | succ q =>
                have hlt : (i : Int) < (KL.length : Int) := by have := Hi.out; omega
                have hlb := decide_eq_true hlt
                have hi0 : (0 : Int) ≤ i ∧ (i : Int) < (KL.length : Int) := ⟨by omega, hlt⟩
                obtain ⟨adL, A5, c5, e1, ka1, kb1, lb, cb⟩ := at_T45 C4.out (i : Int) (by omega) hlt
                have ka := pw_cell_below BI.out ka1
                have kb := pw_cell_below BI.out kb1
                clear ka1 kb1 lb cb
                subst e1
                rw [Int.toNat_natCast] at ka kb
                have HS2 := Aside0.mk (sumO_take KL i (by have := Hi.out; omega))
                have HMM : Aside0 (rd_T45 KL i ∈ KL) := ⟨by
                  unfold rd_T45
                  have hi' : i < KL.length := by omega
                  simp [List.getD_eq_getElem?_getD, List.getElem?_eq_getElem hi']⟩
                have HOO := Aside0.mk (HKL.out.2.1 _ HMM.out)
                obtain ⟨o, hoo⟩ : ∃ o, rd_T45 KL i = o := ⟨_, rfl⟩
                rw [hoo] at ka kb HS2 HOO
                clear hoo HMM
                obtain ⟨xf, hxf⟩ : ∃ x, o.f0 = x := ⟨_, rfl⟩
                obtain ⟨m, hm⟩ : ∃ m, o.f1.length = m := ⟨_, rfl⟩
                rw [hxf] at ka HOO
                rw [hm] at kb HS2 HOO
                clear hxf hm
                have hc : ¬ xf ≥ 128 := by have := HOO.out.2; omega
                have hcb : decide (128 ≤ xf) = false := decide_eq_false hc
                have hml : 0 ≤ (m : Int) ∧ (m : Int) ≤ 1100 := by have := HOO.out.1; omega
                have hil : 0 ≤ (i : Int) ∧ (i : Int) ≤ 1100 := by have := HIL.out; omega
                have hnl : 0 ≤ (n11 : Int) ∧ (n11 : Int) ≤ 2000 := by
                  have h1 := HN11.out
                  have h2 := HHL.out.2.2.1
                  have h3 := HT0.out.1
                  have h4 : sumO (KL.take i) + sumO (KL.drop i) = sumO KL := by rw [← sumO_app, List.take_append_drop]
                  omega
                clear hc
                go_wp2
                go_roundg q
                case measure => omega
                case rel => exact ⟨i + 1, by refine congrArg _ ?_; have h1 := HN11.out; have h2 := HS2.out; unfold wholeN at h2; omega, by go_num, ⟨by have := Hi.out; omega⟩, BI⟩
          · have h1b : (rd b 1 == 2) = true := by rw [h1]; rfl
            have HST : Aside0 (Value.int .i64 80 = .int .i64 ((T0 + sumO (KL.take 0) : Nat) : Int)) := ⟨by rw [← HT.out, if_pos h1]; rfl⟩
            clear h1
            go_upto_region 13 with fail
            rw [HST.out]
            go_loopg [11, 12] KL.length (fun q v11 v12 wr => ∃ i : Nat, v11 = .int .i64 ((T0 + sumO (KL.take i) : Nat) : Int) ∧ v12 = .int .i64 (i : Int) ∧ Aside0 (i + q = KL.length) ∧ Aside0 (Below w4.heap.size w4 wr))
            case atStart => exact ⟨0, rfl, rfl, ⟨by omega⟩, ⟨Below.refl _ _⟩⟩
            case round =>
              obtain ⟨i, rfl, rfl, Hi, BI⟩ := hrel
              obtain ⟨n11, hn11⟩ : ∃ n, T0 + sumO (KL.take i) = n := ⟨_, rfl⟩
              have HN11 := Aside0.mk hn11
              rw [hn11]
              clear hn11
              have kosi := pw_cell_below BI.out kos
              have HIL : Aside0 ((i : Int) ≤ 1100) := ⟨by have h1 := Hi.out; have h2 := HKL.out.1; omega⟩
              cases gk with
              | zero =>
                have hlt : ¬ ((i : Int) < (KL.length : Int)) := by have := Hi.out; omega
                have hlb := decide_eq_false hlt
                have HXL : Aside0 (X.length = n11) := ⟨by have h1 := HGL.out; have h2 := HN11.out; rw [List.take_of_length_le (by have := Hi.out; omega)] at h2; omega⟩
                have HNB : Aside0 (n11 ≤ b.length ∧ 60 ≤ n11) := ⟨by have h1 := HGL.out; have h2 := HT0.out; have h3 := HXL.out; omega⟩
                go_wp2_with fail
                refine (Answer_calls A c b 4 5 6 wr (Kd.C_below HC.out (below_step B4.out BI.out)) HCC.out (by have := HHL.out; omega) HB.out).mono ?_
                rintro e w5 ⟨v5, rfl, hr5, hb5⟩
                obtain ⟨A5, c5, ev⟩ := Kd.R_slice hr5
                subst ev
                rw [ans_len b 4 5 6 HHL.out.2.1 HHL.out.2.2.1 HHL.out.2.2.2]
                have B5 := Aside0.mk (below_step BI.out hb5)
                have BF := Aside0.mk (below_step B4.out B5.out)
                have CX := Aside0.mk (Kd.C_below R4.out.2.2 B5.out)
                have CB := Aside0.mk (Kd.C_below HC.out BF.out)
                have HCX := Aside0.mk R4.out.2.1
                clear hr5 hb5 kosi hlb hlt kos kop4
                rw [HXL.out] at CX HCX ⊢
                obtain ⟨ad, e1, cb1⟩ := at_one CB.out 1 (by omega) (by have := HT0.out; omega)
                obtain ⟨ad_, e2, cb36⟩ := at_one CB.out 36 (by omega) (by have := HT0.out; omega)
                obtain ⟨gd, e3, cx1⟩ := at_one (b := X) (by rw [HXL.out]; exact CX.out) 1 (by omega) (by have := HNB.out; rw [HXL.out]; omega)
                obtain ⟨gd_, e4, cx36⟩ := at_one (b := X) (by rw [HXL.out]; exact CX.out) 36 (by omega) (by have := HNB.out; rw [HXL.out]; omega)
                subst e1
                obtain rfl := Option.some.inj e2
                obtain rfl := Option.some.inj e3
                obtain rfl := Option.some.inj e4
                clear e2 e3 e4
                have kb1 : w5.cell? ⟨ad.block, ad.off + 1, none⟩ = some (.int .u8 (rd b 1)) := cb1
                have kb36 : w5.cell? ⟨ad.block, ad.off + 36, none⟩ = some (.int .u8 (rd b 36)) := cb36
                have kx1 : w5.cell? ⟨gx, 1, none⟩ = some (.int .u8 (rd X 1)) := cx1
                have kx36 : w5.cell? ⟨gx, 36, none⟩ = some (.int .u8 (rd X 36)) := cx36
                clear cb1 cb36 cx1 cx36
                rw [HGH.out.1] at kx1
                rw [HGH.out.2.2.1] at kx36
                have t24 : (24 : Int).toNat = 24 := rfl
                have t36 : (36 : Int).toNat = 36 := rfl
                have t40 : (40 : Int).toNat = 40 := rfl
                have t42 : (42 : Int).toNat = 42 := rfl
                obtain ⟨BX1, hcB1, hrB1, hlB1⟩ := print_mid_of (P := Try.prog) (Value.int .u8) 0 22 5 .i64 .i64 Try.underlying22 info5i.choose_spec.1 info5i.choose_spec.2 (some ad) c b 24 36 (by omega) (by omega) (by have := HT0.out; omega) HCC.out
                obtain ⟨BX2, hcB2, hrB2, hlB2⟩ := print_mid_of (P := Try.prog) (Value.int .u8) 0 22 5 .i64 .i64 Try.underlying22 info5i.choose_spec.1 info5i.choose_spec.2 (some ad) c b 40 42 (by omega) (by omega) (by have := HT0.out; omega) HCC.out
                obtain ⟨AX1, hcX1, hrX1, hlX1⟩ := print_mid_of (P := Try.prog) (Value.int .u8) 0 22 5 .i64 .i64 Try.underlying22 info5i.choose_spec.1 info5i.choose_spec.2 (some ⟨gx, 0, none⟩) c4 X 24 36 (by omega) (by omega) (by have := HNB.out; rw [HXL.out]; omega) (by rw [HXL.out]; exact HCX.out)
                obtain ⟨AX2, hcX2, hrX2, hlX2⟩ := print_mid_of (P := Try.prog) (Value.int .u8) 0 22 5 .i64 .i64 Try.underlying22 info5i.choose_spec.1 info5i.choose_spec.2 (some ⟨gx, 0, none⟩) c4 X 40 42 (by omega) (by omega) (by have := HNB.out; rw [HXL.out]; omega) (by rw [HXL.out]; exact HCX.out)
                rw [t24, t36] at hcB1 hrB1 hlB1 hcX1 hrX1 hlX1
                rw [t40, t42] at hcB2 hrB2 hlB2 hcX2 hrX2 hlX2
                rw [HGH.out.2.1] at hcX1 hrX1 hlX1
                rw [HGH.out.2.2.2] at hcX2 hrX2 hlX2
                rw [HXL.out] at hcX1 hrX1 hcX2 hrX2
                clear t24 t36 t40 t42
                have hle1 : ((b.take 36).drop 24).length ≤ 1000000 := by have := HHL.out.2.2.1; rw [List.length_drop, List.length_take]; omega
                have hle2 : ((b.take 42).drop 40).length ≤ 1000000 := by have := HHL.out.2.2.1; rw [List.length_drop, List.length_take]; omega
                generalize (b.take 36).drop 24 = l1 at *
                generalize (b.take 42).drop 40 = l2 at *
                have Hl1 := Aside0.mk (And.intro hle1 (And.intro hlX1 hlB1))
                have Hl2 := Aside0.mk (And.intro hle2 (And.intro hlX2 hlB2))
                have CXl1 : Aside0 (Kd.C (Kd.int .u8) w5 AX1 l1.length l1) := ⟨Kd.C_of_reads (d := (0 : Int)) (h1 := fun _ => rfl) (hrX1 w5 (HXL.out ▸ Kd.reads_of_C (d := (0 : Int)) (by rw [HXL.out]; exact CX.out)))⟩
                have CXl2 : Aside0 (Kd.C (Kd.int .u8) w5 AX2 l2.length l2) := ⟨Kd.C_of_reads (d := (0 : Int)) (h1 := fun _ => rfl) (hrX2 w5 (HXL.out ▸ Kd.reads_of_C (d := (0 : Int)) (by rw [HXL.out]; exact CX.out)))⟩
                have CBl1 : Aside0 (Kd.C (Kd.int .u8) w5 BX1 l1.length l1) := ⟨Kd.C_of_reads (d := (0 : Int)) (h1 := fun _ => rfl) (hrB1 w5 (Kd.reads_of_C (d := (0 : Int)) CB.out))⟩
                have CBl2 : Aside0 (Kd.C (Kd.int .u8) w5 BX2 l2.length l2) := ⟨Kd.C_of_reads (d := (0 : Int)) (h1 := fun _ => rfl) (hrB2 w5 (Kd.reads_of_C (d := (0 : Int)) CB.out))⟩
                clear hrX1 hrX2 hrB1 hrB2 hlX1 hlX2 hlB1 hlB2 hle1 hle2
                obtain ⟨y36, hy36⟩ : ∃ y, rd b 36 = y := ⟨_, rfl⟩
                rw [hy36] at kb36 kx36
                clear hy36
                obtain ⟨x1, hx1⟩ : ∃ y, rd b 1 = y := ⟨_, rfl⟩
                rw [hx1] at kb1 kx1
                clear hx1
                obtain ⟨y1, hy1⟩ : ∃ y, Go.bits .or .u8 x1 128 = y := ⟨_, rfl⟩
                rw [hy1] at kx1
                have hb1i : (0 : Int) ≤ 1 ∧ (1 : Int) < (b.length : Int) := ⟨by omega, by have := HT0.out; omega⟩
                have hb36i : (0 : Int) ≤ 36 ∧ (36 : Int) < (b.length : Int) := ⟨by omega, by have := HT0.out; omega⟩
                have hx1i : (0 : Int) ≤ 1 ∧ (1 : Int) < (n11 : Int) := ⟨by omega, by have := HNB.out; omega⟩
                have hx36i : (0 : Int) ≤ 36 ∧ (36 : Int) < (n11 : Int) := ⟨by omega, by have := HNB.out; omega⟩
                have hnb : ((n11 : Int) ≤ (b.length : Int)) := by have := HNB.out; omega
                go_upto_region 19 with fail
                refine start_ (n := 51) (S := fun w' => w'.cell? ⟨gx, 1, none⟩ = some (.int .u8 y1) ∧ w'.cell? ⟨ad.block, ad.off + 1, none⟩ = some (.int .u8 x1) ∧ w'.cell? ⟨gx, 36, none⟩ = some (.int .u8 y36) ∧ w'.cell? ⟨ad.block, ad.off + 36, none⟩ = some (.int .u8 y36)) (ds := []) #[false, false, false, false, false, false, false, false, false, false, false, false, false, false, false, false, false, false, false, false, false, false, false, false, false, false, false, false, false, false, false, false, false, false, false, false, false, false, false, false, false, false, false, false, false, false, false, false, false, false, false] (by kernel_rfl) rfl rfl ⟨kx1, kb1, kx36, kb36⟩ (fun hHeld => ?_)
                refine pure_ (i := 0) (N := some 72) (v := ?_) (a' := ?_) #[true, false, false, false, false, false, false, false, false, false, false, false, false, false, false, false, false, false, false, false, false, false, false, false, false, false, false, false, false, false, false, false, false, false, false, false, false, false, false, false, false, false, false, false, false, false, false, false, false, false, false] rfl rfl (by kernel_rfl) (fun _ _ _ h => h) (Or.inl ⟨by rfl, ?_⟩) ?_ ?_
                rotate_left
                · intro w'
                  go_simp
                  with_reducible rfl
                rotate_left
                · simp only [Act.put, List.setIfInBounds_toArray, List.set_cons_zero, List.set_cons_succ, i64_w, i32_w]
                  rfl
                refine pure_ (i := 1) (N := some 73) (v := ?_) (a' := ?_) #[true, true, false, false, false, false, false, false, false, false, false, false, false, false, false, false, false, false, false, false, false, false, false, false, false, false, false, false, false, false, false, false, false, false, false, false, false, false, false, false, false, false, false, false, false, false, false, false, false, false, false] rfl rfl (by kernel_rfl) (fun _ _ _ h => h) (Or.inl ⟨by rfl, ?_⟩) ?_ ?_
                rotate_left
                · intro w'
                  go_simp
                  with_reducible rfl
                rotate_left
                · simp only [Act.put, List.setIfInBounds_toArray, List.set_cons_zero, List.set_cons_succ, i64_w, i32_w]
                  rfl
                refine pure_ (i := 2) (N := some 74) (v := ?_) (a' := ?_) #[true, true, true, false, false, false, false, false, false, false, false, false, false, false, false, false, false, false, false, false, false, false, false, false, false, false, false, false, false, false, false, false, false, false, false, false, false, false, false, false, false, false, false, false, false, false, false, false, false, false, false] rfl rfl (by kernel_rfl) (fun _ _ _ h => h) (Or.inl ⟨by rfl, ?_⟩) ?_ ?_
                rotate_left
                · intro w'
                  go_simp
                  with_reducible rfl
                rotate_left
                · simp only [Act.put, List.setIfInBounds_toArray, List.set_cons_zero, List.set_cons_succ, i64_w, i32_w]
                  rfl
                refine pure_ (i := 3) (N := some 75) (v := ?_) (a' := ?_) #[true, true, true, true, false, false, false, false, false, false, false, false, false, false, false, false, false, false, false, false, false, false, false, false, false, false, false, false, false, false, false, false, false, false, false, false, false, false, false, false, false, false, false, false, false, false, false, false, false, false, false] rfl rfl (by kernel_rfl) (fun _ _ _ h => h) (Or.inl ⟨by rfl, ?_⟩) ?_ ?_
                rotate_left
                · intro w'
                  go_simp
                  with_reducible rfl
                rotate_left
                · simp only [Act.put, List.setIfInBounds_toArray, List.set_cons_zero, List.set_cons_succ, i64_w, i32_w]
                  rfl
                refine pure_ (i := 4) (N := some 76) (v := ?_) (a' := ?_) #[true, true, true, true, true, false, false, false, false, false, false, false, false, false, false, false, false, false, false, false, false, false, false, false, false, false, false, false, false, false, false, false, false, false, false, false, false, false, false, false, false, false, false, false, false, false, false, false, false, false, false] rfl rfl (by kernel_rfl) (fun _ _ _ h => h) (Or.inl ⟨by rfl, ?_⟩) ?_ ?_
                rotate_left
                · intro w'
                  go_simp
                  with_reducible rfl
                rotate_left
                · simp only [Act.put, List.setIfInBounds_toArray, List.set_cons_zero, List.set_cons_succ, i64_w, i32_w]
                  rfl
                refine pure_ (i := 5) (N := some 77) (v := ?_) (a' := ?_) #[true, true, true, true, true, true, false, false, false, false, false, false, false, false, false, false, false, false, false, false, false, false, false, false, false, false, false, false, false, false, false, false, false, false, false, false, false, false, false, false, false, false, false, false, false, false, false, false, false, false, false] rfl rfl (by kernel_rfl) (fun _ _ _ h => h) (Or.inl ⟨by rfl, ?_⟩) ?_ ?_
                rotate_left
                · intro w'
                  go_simp
                  with_reducible rfl
                rotate_left
                · simp only [Act.put, List.setIfInBounds_toArray, List.set_cons_zero, List.set_cons_succ, i64_w, i32_w]
                  rfl
                refine pure_ (i := 6) (N := some 78) (v := ?_) (a' := ?_) #[true, true, true, true, true, true, true, false, false, false, false, false, false, false, false, false, false, false, false, false, false, false, false, false, false, false, false, false, false, false, false, false, false, false, false, false, false, false, false, false, false, false, false, false, false, false, false, false, false, false, false] rfl rfl (by kernel_rfl) (fun _ _ _ h => h) (Or.inl ⟨by rfl, ?_⟩) ?_ ?_
                rotate_left
                · intro w'
                  go_simp
                  with_reducible rfl
                rotate_left
                · simp only [Act.put, List.setIfInBounds_toArray, List.set_cons_zero, List.set_cons_succ, i64_w, i32_w]
                  rfl
                refine pure_ (i := 7) (N := some 79) (v := ?_) (a' := ?_) #[true, true, true, true, true, true, true, true, false, false, false, false, false, false, false, false, false, false, false, false, false, false, false, false, false, false, false, false, false, false, false, false, false, false, false, false, false, false, false, false, false, false, false, false, false, false, false, false, false, false, false] rfl rfl (by kernel_rfl) (fun _ _ _ h => h) (Or.inl ⟨by rfl, ?_⟩) ?_ ?_
                rotate_left
                · intro w'
                  go_simp
                  with_reducible rfl
                rotate_left
                · simp only [Act.put, List.setIfInBounds_toArray, List.set_cons_zero, List.set_cons_succ, i64_w, i32_w]
                  rfl
                refine pure_ (i := 8) (N := some 80) (v := ?_) (a' := ?_) #[true, true, true, true, true, true, true, true, true, false, false, false, false, false, false, false, false, false, false, false, false, false, false, false, false, false, false, false, false, false, false, false, false, false, false, false, false, false, false, false, false, false, false, false, false, false, false, false, false, false, false] rfl rfl (by kernel_rfl) (fun _ _ _ h => h) (Or.inl ⟨by rfl, ?_⟩) ?_ ?_
                rotate_left
                · intro w'
                  go_simp
                  with_reducible rfl
                rotate_left
                · simp only [Act.put, List.setIfInBounds_toArray, List.set_cons_zero, List.set_cons_succ, i64_w, i32_w]
                  rfl
                refine pure_ (i := 9) (N := some 81) (v := ?_) (a' := ?_) #[true, true, true, true, true, true, true, true, true, true, false, false, false, false, false, false, false, false, false, false, false, false, false, false, false, false, false, false, false, false, false, false, false, false, false, false, false, false, false, false, false, false, false, false, false, false, false, false, false, false, false] rfl rfl (by kernel_rfl) (fun _ _ _ h => h) (Or.inl ⟨by rfl, ?_⟩) ?_ ?_
                rotate_left
                · intro w'
                  go_simp
                  with_reducible rfl
                rotate_left
                · simp only [Act.put, List.setIfInBounds_toArray, List.set_cons_zero, List.set_cons_succ, i64_w, i32_w]
                  rfl
                refine pure_ (i := 10) (N := some 82) (v := ?_) (a' := ?_) #[true, true, true, true, true, true, true, true, true, true, true, false, false, false, false, false, false, false, false, false, false, false, false, false, false, false, false, false, false, false, false, false, false, false, false, false, false, false, false, false, false, false, false, false, false, false, false, false, false, false, false] rfl rfl (by kernel_rfl) (fun _ _ _ h => h) (Or.inl ⟨by rfl, ?_⟩) ?_ ?_
                rotate_left
                · intro w'
                  go_simp
                  with_reducible rfl
                rotate_left
                · simp only [Act.put, List.setIfInBounds_toArray, List.set_cons_zero, List.set_cons_succ, i64_w, i32_w]
                  rfl
                refine pure_ (i := 11) (N := some 83) (v := ?_) (a' := ?_) #[true, true, true, true, true, true, true, true, true, true, true, true, false, false, false, false, false, false, false, false, false, false, false, false, false, false, false, false, false, false, false, false, false, false, false, false, false, false, false, false, false, false, false, false, false, false, false, false, false, false, false] rfl rfl (by kernel_rfl) (fun _ _ _ h => h) (Or.inl ⟨by rfl, ?_⟩) ?_ ?_
                rotate_left
                · intro w'
                  go_simp
                  with_reducible rfl
                rotate_left
                · simp only [Act.put, List.setIfInBounds_toArray, List.set_cons_zero, List.set_cons_succ, i64_w, i32_w]
                  rfl
                refine pure_ (i := 12) (N := some 84) (v := ?_) (a' := ?_) #[true, true, true, true, true, true, true, true, true, true, true, true, true, false, false, false, false, false, false, false, false, false, false, false, false, false, false, false, false, false, false, false, false, false, false, false, false, false, false, false, false, false, false, false, false, false, false, false, false, false, false] rfl rfl (by kernel_rfl) (fun _ _ _ h => h) (Or.inl ⟨by rfl, ?_⟩) ?_ ?_
                rotate_left
                · intro w'
                  go_simp
                  with_reducible rfl
                rotate_left
                · simp only [Act.put, List.setIfInBounds_toArray, List.set_cons_zero, List.set_cons_succ, i64_w, i32_w]
                  rfl
                refine pure_ (i := 14) (N := some 86) (v := ?_) (a' := ?_) #[true, true, true, true, true, true, true, true, true, true, true, true, true, false, true, false, false, false, false, false, false, false, false, false, false, false, false, false, false, false, false, false, false, false, false, false, false, false, false, false, false, false, false, false, false, false, false, false, false, false, false] rfl rfl (by kernel_rfl) (fun _ _ _ h => h) (Or.inl ⟨by rfl, ?_⟩) ?_ ?_
                rotate_left
                · intro w'
                  go_simp
                  with_reducible rfl
                rotate_left
                · simp only [Act.put, List.setIfInBounds_toArray, List.set_cons_zero, List.set_cons_succ, i64_w, i32_w]
                  rfl
                refine pure_ (i := 15) (N := some 87) (v := ?_) (a' := ?_) #[true, true, true, true, true, true, true, true, true, true, true, true, true, false, true, true, false, false, false, false, false, false, false, false, false, false, false, false, false, false, false, false, false, false, false, false, false, false, false, false, false, false, false, false, false, false, false, false, false, false, false] rfl rfl (by kernel_rfl) (fun _ _ _ h => h) (Or.inl ⟨by rfl, ?_⟩) ?_ ?_
                rotate_left
                · intro w'
                  go_simp
                  with_reducible rfl
                rotate_left
                · simp only [Act.put, List.setIfInBounds_toArray, List.set_cons_zero, List.set_cons_succ, i64_w, i32_w]
                  rfl
                refine take_ (i := 13) (N := some 85) (v := ?_) (a' := ?_) #[true, true, true, true, true, true, true, true, true, true, true, true, true, true, true, true, false, false, false, false, false, false, false, false, false, false, false, false, false, false, false, false, false, false, false, false, false, false, false, false, false, false, false, false, false, false, false, false, false, false, false] rfl rfl (by kernel_rfl) (fun _ _ _ h => h) (Or.inl ⟨by rfl, ?_⟩) hHeld ?_ ?_
                rotate_left
                · rintro w' ⟨s0, s1, s2, s3⟩
                  go_simp
                  with_reducible rfl
                rotate_left
                · simp only [Act.put, List.setIfInBounds_toArray, List.set_cons_zero, List.set_cons_succ, i64_w, i32_w]
                  rfl
                refine take_ (i := 16) (N := some 88) (v := ?_) (a' := ?_) #[true, true, true, true, true, true, true, true, true, true, true, true, true, true, true, true, true, false, false, false, false, false, false, false, false, false, false, false, false, false, false, false, false, false, false, false, false, false, false, false, false, false, false, false, false, false, false, false, false, false, false] rfl rfl (by kernel_rfl) (fun _ _ _ h => h) (Or.inl ⟨by rfl, ?_⟩) hHeld ?_ ?_
                rotate_left
                · rintro w' ⟨s0, s1, s2, s3⟩
                  go_simp
                  with_reducible rfl
                rotate_left
                · simp only [Act.put, List.setIfInBounds_toArray, List.set_cons_zero, List.set_cons_succ, i64_w, i32_w]
                  rfl
                refine pure_ (i := 17) (N := some 89) (v := ?_) (a' := ?_) #[true, true, true, true, true, true, true, true, true, true, true, true, true, true, true, true, true, true, false, false, false, false, false, false, false, false, false, false, false, false, false, false, false, false, false, false, false, false, false, false, false, false, false, false, false, false, false, false, false, false, false] rfl rfl (by kernel_rfl) (fun _ _ _ h => h) (Or.inl ⟨by rfl, ?_⟩) ?_ ?_
                rotate_left
                · intro w'
                  go_simp
                  with_reducible rfl
                rotate_left
                · simp only [Act.put, List.setIfInBounds_toArray, List.set_cons_zero, List.set_cons_succ, i64_w, i32_w]
                  rfl
                refine pure_ (i := 18) (N := some 90) (v := ?_) (a' := ?_) #[true, true, true, true, true, true, true, true, true, true, true, true, true, true, true, true, true, true, true, false, false, false, false, false, false, false, false, false, false, false, false, false, false, false, false, false, false, false, false, false, false, false, false, false, false, false, false, false, false, false, false] rfl rfl (by kernel_rfl) (fun _ _ _ h => h) (Or.inl ⟨by rfl, ?_⟩) ?_ ?_
                rotate_left
                · intro w'
                  go_simp
                  with_reducible rfl
                rotate_left
                · simp only [Act.put, List.setIfInBounds_toArray, List.set_cons_zero, List.set_cons_succ, i64_w, i32_w]
                  rfl
                refine pure_ (i := 19) (N := some 91) (v := ?_) (a' := ?_) #[true, true, true, true, true, true, true, true, true, true, true, true, true, true, true, true, true, true, true, true, false, false, false, false, false, false, false, false, false, false, false, false, false, false, false, false, false, false, false, false, false, false, false, false, false, false, false, false, false, false, false] rfl rfl (by kernel_rfl) (fun _ _ _ h => h) (Or.inl ⟨by rfl, ?_⟩) ?_ ?_
                rotate_left
                · intro w'
                  go_simp
                  with_reducible rfl
                rotate_left
                · simp only [Act.put, List.setIfInBounds_toArray, List.set_cons_zero, List.set_cons_succ, i64_w, i32_w]
                  rfl
                refine pure_ (i := 20) (N := some 92) (v := ?_) (a' := ?_) #[true, true, true, true, true, true, true, true, true, true, true, true, true, true, true, true, true, true, true, true, true, false, false, false, false, false, false, false, false, false, false, false, false, false, false, false, false, false, false, false, false, false, false, false, false, false, false, false, false, false, false] rfl rfl (by kernel_rfl) (fun _ _ _ h => h) (Or.inl ⟨by rfl, ?_⟩) ?_ ?_
                rotate_left
                · intro w'
                  go_simp
                  with_reducible rfl
                rotate_left
                · simp only [Act.put, List.setIfInBounds_toArray, List.set_cons_zero, List.set_cons_succ, i64_w, i32_w]
                  rfl
                refine pure_ (i := 21) (N := some 93) (v := ?_) (a' := ?_) #[true, true, true, true, true, true, true, true, true, true, true, true, true, true, true, true, true, true, true, true, true, true, false, false, false, false, false, false, false, false, false, false, false, false, false, false, false, false, false, false, false, false, false, false, false, false, false, false, false, false, false] rfl rfl (by kernel_rfl) (fun _ _ _ h => h) (Or.inl ⟨by rfl, ?_⟩) ?_ ?_
                rotate_left
                · intro w'
                  go_simp
                  with_reducible rfl
                rotate_left
                · simp only [Act.put, List.setIfInBounds_toArray, List.set_cons_zero, List.set_cons_succ, i64_w, i32_w]
                  rfl
                refine pure_ (i := 22) (N := some 94) (v := ?_) (a' := ?_) #[true, true, true, true, true, true, true, true, true, true, true, true, true, true, true, true, true, true, true, true, true, true, true, false, false, false, false, false, false, false, false, false, false, false, false, false, false, false, false, false, false, false, false, false, false, false, false, false, false, false, false] rfl rfl (by kernel_rfl) (fun _ _ _ h => h) (Or.inl ⟨by rfl, ?_⟩) ?_ ?_
                rotate_left
                · intro w'
                  go_simp
                  with_reducible rfl
                rotate_left
                · simp only [Act.put, List.setIfInBounds_toArray, List.set_cons_zero, List.set_cons_succ, i64_w, i32_w]
                  rfl
                refine pure_ (i := 23) (N := some 95) (v := ?_) (a' := ?_) #[true, true, true, true, true, true, true, true, true, true, true, true, true, true, true, true, true, true, true, true, true, true, true, true, false, false, false, false, false, false, false, false, false, false, false, false, false, false, false, false, false, false, false, false, false, false, false, false, false, false, false] rfl rfl (by kernel_rfl) (fun _ _ _ h => h) (Or.inl ⟨by rfl, ?_⟩) ?_ ?_
                rotate_left
                · intro w'
                  go_simp
                  with_reducible rfl
                rotate_left
                · simp only [Act.put, List.setIfInBounds_toArray, List.set_cons_zero, List.set_cons_succ, i64_w, i32_w]
                  rfl
                refine pure_ (i := 24) (N := some 96) (v := ?_) (a' := ?_) #[true, true, true, true, true, true, true, true, true, true, true, true, true, true, true, true, true, true, true, true, true, true, true, true, true, false, false, false, false, false, false, false, false, false, false, false, false, false, false, false, false, false, false, false, false, false, false, false, false, false, false] rfl rfl (by kernel_rfl) (fun _ _ _ h => h) (Or.inl ⟨by rfl, ?_⟩) ?_ ?_
                rotate_left
                · intro w'
                  go_simp
                  with_reducible rfl
                rotate_left
                · simp only [Act.put, List.setIfInBounds_toArray, List.set_cons_zero, List.set_cons_succ, i64_w, i32_w]
                  rfl
                refine one_ (i := 25) (N := some 97) #[true, true, true, true, true, true, true, true, true, true, true, true, true, true, true, true, true, true, true, true, true, true, true, true, true, true, false, false, false, false, false, false, false, false, false, false, false, false, false, false, false, false, false, false, false, false, false, false, false, false, false] rfl rfl (by kernel_rfl) (by decide) (fun K hK => ?_)
                refine goes_ Try.func16 (by kernel_rfl) rfl #[.slice AX1 l1.length (c4 - 24), .slice BX1 l1.length (c - 24)] (by rfl) rfl rfl (by simp only [List.map_toArray, List.map_cons, List.map_nil]; rfl) ?_
                with_reducible refine (same_calls _ AX1 BX1 (c4 - 24) (c - 24) l1.length l1 (by have := Hl1.out; omega) rfl (Kd.C_below CXl1.out (Below.refl _ _).drew) (by have := Hl1.out; omega) (Kd.C_below CBl1.out (Below.refl _ _).drew) (by have := Hl1.out; omega)).mono ?_
                rintro e wP ⟨rfl, hbwP⟩
                refine ⟨_, rfl, ?_⟩
                have KP : Below w5.heap.size w5 wP := below_step (Below.refl _ _).drew hbwP
                refine hK.out _ _ ⟨(pw_cell_below KP kx1), (pw_cell_below KP kb1), (pw_cell_below KP kx36), (pw_cell_below KP kb36)⟩ (fun hHeld => ?_)
                clear hK K
                refine norm_ (a' := ?_) ?_ ?_
                rotate_left
                · show Act.put _ (some 97) _ = _
                  simp only [Act.put, List.setIfInBounds_toArray, List.set_cons_zero, List.set_cons_succ, i64_w, i32_w]
                  rfl
                refine pure_ (i := 26) (N := some 98) (v := ?_) (a' := ?_) #[true, true, true, true, true, true, true, true, true, true, true, true, true, true, true, true, true, true, true, true, true, true, true, true, true, true, true, false, false, false, false, false, false, false, false, false, false, false, false, false, false, false, false, false, false, false, false, false, false, false, false] rfl rfl (by kernel_rfl) (fun _ _ _ h => h) (Or.inl ⟨by rfl, ?_⟩) ?_ ?_
                rotate_left
                · intro w'
                  go_simp
                  with_reducible rfl
                rotate_left
                · simp only [Act.put, List.setIfInBounds_toArray, List.set_cons_zero, List.set_cons_succ, i64_w, i32_w]
                  rfl
                refine pure_ (i := 27) (N := some 99) (v := ?_) (a' := ?_) #[true, true, true, true, true, true, true, true, true, true, true, true, true, true, true, true, true, true, true, true, true, true, true, true, true, true, true, true, false, false, false, false, false, false, false, false, false, false, false, false, false, false, false, false, false, false, false, false, false, false, false] rfl rfl (by kernel_rfl) (fun _ _ _ h => h) (Or.inl ⟨by rfl, ?_⟩) ?_ ?_
                rotate_left
                · intro w'
                  go_simp
                  with_reducible rfl
                rotate_left
                · simp only [Act.put, List.setIfInBounds_toArray, List.set_cons_zero, List.set_cons_succ, i64_w, i32_w]
                  rfl
                refine pure_ (i := 28) (N := some 100) (v := ?_) (a' := ?_) #[true, true, true, true, true, true, true, true, true, true, true, true, true, true, true, true, true, true, true, true, true, true, true, true, true, true, true, true, true, false, false, false, false, false, false, false, false, false, false, false, false, false, false, false, false, false, false, false, false, false, false] rfl rfl (by kernel_rfl) (fun _ _ _ h => h) (Or.inl ⟨by rfl, ?_⟩) ?_ ?_
                rotate_left
                · intro w'
                  go_simp
                  with_reducible rfl
                rotate_left
                · simp only [Act.put, List.setIfInBounds_toArray, List.set_cons_zero, List.set_cons_succ, i64_w, i32_w]
                  rfl
                refine pure_ (i := 29) (N := some 101) (v := ?_) (a' := ?_) #[true, true, true, true, true, true, true, true, true, true, true, true, true, true, true, true, true, true, true, true, true, true, true, true, true, true, true, true, true, true, false, false, false, false, false, false, false, false, false, false, false, false, false, false, false, false, false, false, false, false, false] rfl rfl (by kernel_rfl) (fun _ _ _ h => h) (Or.inl ⟨by rfl, ?_⟩) ?_ ?_
                rotate_left
                · intro w'
                  go_simp
                  with_reducible rfl
                rotate_left
                · simp only [Act.put, List.setIfInBounds_toArray, List.set_cons_zero, List.set_cons_succ, i64_w, i32_w]
                  rfl
                refine pure_ (i := 31) (N := some 103) (v := ?_) (a' := ?_) #[true, true, true, true, true, true, true, true, true, true, true, true, true, true, true, true, true, true, true, true, true, true, true, true, true, true, true, true, true, true, false, true, false, false, false, false, false, false, false, false, false, false, false, false, false, false, false, false, false, false, false] rfl rfl (by kernel_rfl) (fun _ _ _ h => h) (Or.inl ⟨by rfl, ?_⟩) ?_ ?_
                rotate_left
                · intro w'
                  go_simp
                  with_reducible rfl
                rotate_left
                · simp only [Act.put, List.setIfInBounds_toArray, List.set_cons_zero, List.set_cons_succ, i64_w, i32_w]
                  rfl
                refine pure_ (i := 32) (N := some 104) (v := ?_) (a' := ?_) #[true, true, true, true, true, true, true, true, true, true, true, true, true, true, true, true, true, true, true, true, true, true, true, true, true, true, true, true, true, true, false, true, true, false, false, false, false, false, false, false, false, false, false, false, false, false, false, false, false, false, false] rfl rfl (by kernel_rfl) (fun _ _ _ h => h) (Or.inl ⟨by rfl, ?_⟩) ?_ ?_
                rotate_left
                · intro w'
                  go_simp
                  with_reducible rfl
                rotate_left
                · simp only [Act.put, List.setIfInBounds_toArray, List.set_cons_zero, List.set_cons_succ, i64_w, i32_w]
                  rfl
                refine take_ (i := 30) (N := some 102) (v := ?_) (a' := ?_) #[true, true, true, true, true, true, true, true, true, true, true, true, true, true, true, true, true, true, true, true, true, true, true, true, true, true, true, true, true, true, true, true, true, false, false, false, false, false, false, false, false, false, false, false, false, false, false, false, false, false, false] rfl rfl (by kernel_rfl) (fun _ _ _ h => h) (Or.inl ⟨by rfl, ?_⟩) hHeld ?_ ?_
                rotate_left
                · rintro w' ⟨s0, s1, s2, s3⟩
                  go_simp
                  with_reducible rfl
                rotate_left
                · simp only [Act.put, List.setIfInBounds_toArray, List.set_cons_zero, List.set_cons_succ, i64_w, i32_w]
                  rfl
                refine take_ (i := 33) (N := some 105) (v := ?_) (a' := ?_) #[true, true, true, true, true, true, true, true, true, true, true, true, true, true, true, true, true, true, true, true, true, true, true, true, true, true, true, true, true, true, true, true, true, true, false, false, false, false, false, false, false, false, false, false, false, false, false, false, false, false, false] rfl rfl (by kernel_rfl) (fun _ _ _ h => h) (Or.inl ⟨by rfl, ?_⟩) hHeld ?_ ?_
                rotate_left
                · rintro w' ⟨s0, s1, s2, s3⟩
                  go_simp
                  with_reducible rfl
                rotate_left
                · simp only [Act.put, List.setIfInBounds_toArray, List.set_cons_zero, List.set_cons_succ, i64_w, i32_w]
                  rfl
                refine pure_ (i := 34) (N := some 106) (v := ?_) (a' := ?_) #[true, true, true, true, true, true, true, true, true, true, true, true, true, true, true, true, true, true, true, true, true, true, true, true, true, true, true, true, true, true, true, true, true, true, true, false, false, false, false, false, false, false, false, false, false, false, false, false, false, false, false] rfl rfl (by kernel_rfl) (fun _ _ _ h => h) (Or.inl ⟨by rfl, ?_⟩) ?_ ?_
                rotate_left
                · intro w'
                  go_simp
                  with_reducible rfl
                rotate_left
                · simp only [Act.put, List.setIfInBounds_toArray, List.set_cons_zero, List.set_cons_succ, i64_w, i32_w]
                  rfl
                refine pure_ (i := 35) (N := some 107) (v := ?_) (a' := ?_) #[true, true, true, true, true, true, true, true, true, true, true, true, true, true, true, true, true, true, true, true, true, true, true, true, true, true, true, true, true, true, true, true, true, true, true, true, false, false, false, false, false, false, false, false, false, false, false, false, false, false, false] rfl rfl (by kernel_rfl) (fun _ _ _ h => h) (Or.inl ⟨by rfl, ?_⟩) ?_ ?_
                rotate_left
                · intro w'
                  go_simp
                  with_reducible rfl
                rotate_left
                · simp only [Act.put, List.setIfInBounds_toArray, List.set_cons_zero, List.set_cons_succ, i64_w, i32_w]
                  rfl
                refine pure_ (i := 36) (N := some 108) (v := ?_) (a' := ?_) #[true, true, true, true, true, true, true, true, true, true, true, true, true, true, true, true, true, true, true, true, true, true, true, true, true, true, true, true, true, true, true, true, true, true, true, true, true, false, false, false, false, false, false, false, false, false, false, false, false, false, false] rfl rfl (by kernel_rfl) (fun _ _ _ h => h) (Or.inl ⟨by rfl, ?_⟩) ?_ ?_
                rotate_left
                · intro w'
                  go_simp
                  with_reducible rfl
                rotate_left
                · simp only [Act.put, List.setIfInBounds_toArray, List.set_cons_zero, List.set_cons_succ, i64_w, i32_w]
                  rfl
                refine pure_ (i := 37) (N := some 109) (v := ?_) (a' := ?_) #[true, true, true, true, true, true, true, true, true, true, true, true, true, true, true, true, true, true, true, true, true, true, true, true, true, true, true, true, true, true, true, true, true, true, true, true, true, true, false, false, false, false, false, false, false, false, false, false, false, false, false] rfl rfl (by kernel_rfl) (fun _ _ _ h => h) (Or.inl ⟨by rfl, ?_⟩) ?_ ?_
                rotate_left
                · intro w'
                  go_simp
                  with_reducible rfl
                rotate_left
                · simp only [Act.put, List.setIfInBounds_toArray, List.set_cons_zero, List.set_cons_succ, i64_w, i32_w]
                  rfl
                refine pure_ (i := 38) (N := some 110) (v := ?_) (a' := ?_) #[true, true, true, true, true, true, true, true, true, true, true, true, true, true, true, true, true, true, true, true, true, true, true, true, true, true, true, true, true, true, true, true, true, true, true, true, true, true, true, false, false, false, false, false, false, false, false, false, false, false, false] rfl rfl (by kernel_rfl) (fun _ _ _ h => h) (Or.inl ⟨by rfl, ?_⟩) ?_ ?_
                rotate_left
                · intro w'
                  go_simp
                  with_reducible rfl
                rotate_left
                · simp only [Act.put, List.setIfInBounds_toArray, List.set_cons_zero, List.set_cons_succ, i64_w, i32_w]
                  rfl
                refine pure_ (i := 39) (N := some 111) (v := ?_) (a' := ?_) #[true, true, true, true, true, true, true, true, true, true, true, true, true, true, true, true, true, true, true, true, true, true, true, true, true, true, true, true, true, true, true, true, true, true, true, true, true, true, true, true, false, false, false, false, false, false, false, false, false, false, false] rfl rfl (by kernel_rfl) (fun _ _ _ h => h) (Or.inl ⟨by rfl, ?_⟩) ?_ ?_
                rotate_left
                · intro w'
                  go_simp
                  with_reducible rfl
                rotate_left
                · simp only [Act.put, List.setIfInBounds_toArray, List.set_cons_zero, List.set_cons_succ, i64_w, i32_w]
                  rfl
                refine pure_ (i := 40) (N := some 112) (v := ?_) (a' := ?_) #[true, true, true, true, true, true, true, true, true, true, true, true, true, true, true, true, true, true, true, true, true, true, true, true, true, true, true, true, true, true, true, true, true, true, true, true, true, true, true, true, true, false, false, false, false, false, false, false, false, false, false] rfl rfl (by kernel_rfl) (fun _ _ _ h => h) (Or.inl ⟨by rfl, ?_⟩) ?_ ?_
                rotate_left
                · intro w'
                  go_simp
                  with_reducible rfl
                rotate_left
                · simp only [Act.put, List.setIfInBounds_toArray, List.set_cons_zero, List.set_cons_succ, i64_w, i32_w]
                  rfl
                refine one_ (i := 41) (N := some 113) #[true, true, true, true, true, true, true, true, true, true, true, true, true, true, true, true, true, true, true, true, true, true, true, true, true, true, true, true, true, true, true, true, true, true, true, true, true, true, true, true, true, true, false, false, false, false, false, false, false, false, false] rfl rfl (by kernel_rfl) (by decide) (fun K hK => ?_)
                refine goes_ Try.func16 (by kernel_rfl) rfl #[.slice AX2 l2.length (c4 - 40), .slice BX2 l2.length (c - 40)] (by rfl) rfl rfl (by simp only [List.map_toArray, List.map_cons, List.map_nil]; rfl) ?_
                with_reducible refine (same_calls _ AX2 BX2 (c4 - 40) (c - 40) l2.length l2 (by have := Hl2.out; omega) rfl (Kd.C_below CXl2.out KP) (by have := Hl2.out; omega) (Kd.C_below CBl2.out KP) (by have := Hl2.out; omega)).mono ?_
                rintro e wQ ⟨rfl, hbwQ⟩
                refine ⟨_, rfl, ?_⟩
                have KQ : Aside0 (Below w5.heap.size w5 wQ) := ⟨below_step KP hbwQ⟩
                refine hK.out _ _ ⟨(pw_cell_below KQ.out kx1), (pw_cell_below KQ.out kb1), (pw_cell_below KQ.out kx36), (pw_cell_below KQ.out kb36)⟩ (fun hHeld => ?_)
                clear hK K
                refine norm_ (a' := ?_) ?_ ?_
                rotate_left
                · show Act.put _ (some 113) _ = _
                  simp only [Act.put, List.setIfInBounds_toArray, List.set_cons_zero, List.set_cons_succ, i64_w, i32_w]
                  rfl
                refine pure_ (i := 42) (N := some 114) (v := ?_) (a' := ?_) #[true, true, true, true, true, true, true, true, true, true, true, true, true, true, true, true, true, true, true, true, true, true, true, true, true, true, true, true, true, true, true, true, true, true, true, true, true, true, true, true, true, true, true, false, false, false, false, false, false, false, false] rfl rfl (by kernel_rfl) (fun _ _ _ h => h) (Or.inl ⟨by rfl, ?_⟩) ?_ ?_
                rotate_left
                · intro w'
                  go_simp
                  with_reducible rfl
                rotate_left
                · simp only [Act.put, List.setIfInBounds_toArray, List.set_cons_zero, List.set_cons_succ, i64_w, i32_w]
                  rfl
                refine pure_ (i := 43) (N := some 115) (v := ?_) (a' := ?_) #[true, true, true, true, true, true, true, true, true, true, true, true, true, true, true, true, true, true, true, true, true, true, true, true, true, true, true, true, true, true, true, true, true, true, true, true, true, true, true, true, true, true, true, true, false, false, false, false, false, false, false] rfl rfl (by kernel_rfl) (fun _ _ _ h => h) (Or.inl ⟨by rfl, ?_⟩) ?_ ?_
                rotate_left
                · intro w'
                  go_simp
                  with_reducible rfl
                rotate_left
                · simp only [Act.put, List.setIfInBounds_toArray, List.set_cons_zero, List.set_cons_succ, i64_w, i32_w]
                  rfl
                refine pure_ (i := 44) (N := some 116) (v := ?_) (a' := ?_) #[true, true, true, true, true, true, true, true, true, true, true, true, true, true, true, true, true, true, true, true, true, true, true, true, true, true, true, true, true, true, true, true, true, true, true, true, true, true, true, true, true, true, true, true, true, false, false, false, false, false, false] rfl rfl (by kernel_rfl) (fun _ _ _ h => h) (Or.inl ⟨by rfl, ?_⟩) ?_ ?_
                rotate_left
                · intro w'
                  go_simp
                  with_reducible rfl
                rotate_left
                · simp only [Act.put, List.setIfInBounds_toArray, List.set_cons_zero, List.set_cons_succ, i64_w, i32_w]
                  rfl
                refine pure_ (i := 45) (N := some 117) (v := ?_) (a' := ?_) #[true, true, true, true, true, true, true, true, true, true, true, true, true, true, true, true, true, true, true, true, true, true, true, true, true, true, true, true, true, true, true, true, true, true, true, true, true, true, true, true, true, true, true, true, true, true, false, false, false, false, false] rfl rfl (by kernel_rfl) (fun _ _ _ h => h) (Or.inl ⟨by rfl, ?_⟩) ?_ ?_
                rotate_left
                · intro w'
                  go_simp
                  with_reducible rfl
                rotate_left
                · simp only [Act.put, List.setIfInBounds_toArray, List.set_cons_zero, List.set_cons_succ, i64_w, i32_w]
                  rfl
                refine pure_ (i := 46) (N := some 118) (v := ?_) (a' := ?_) #[true, true, true, true, true, true, true, true, true, true, true, true, true, true, true, true, true, true, true, true, true, true, true, true, true, true, true, true, true, true, true, true, true, true, true, true, true, true, true, true, true, true, true, true, true, true, true, false, false, false, false] rfl rfl (by kernel_rfl) (fun _ _ _ h => h) (Or.inl ⟨by rfl, ?_⟩) ?_ ?_
                rotate_left
                · intro w'
                  go_simp
                  with_reducible rfl
                rotate_left
                · simp only [Act.put, List.setIfInBounds_toArray, List.set_cons_zero, List.set_cons_succ, i64_w, i32_w]
                  rfl
                refine pure_ (i := 47) (N := some 119) (v := ?_) (a' := ?_) #[true, true, true, true, true, true, true, true, true, true, true, true, true, true, true, true, true, true, true, true, true, true, true, true, true, true, true, true, true, true, true, true, true, true, true, true, true, true, true, true, true, true, true, true, true, true, true, true, false, false, false] rfl rfl (by kernel_rfl) (fun _ _ _ h => h) (Or.inl ⟨by rfl, ?_⟩) ?_ ?_
                rotate_left
                · intro w'
                  go_simp
                  with_reducible rfl
                rotate_left
                · simp only [Act.put, List.setIfInBounds_toArray, List.set_cons_zero, List.set_cons_succ, i64_w, i32_w]
                  rfl
                refine pure_ (i := 48) (N := some 120) (v := ?_) (a' := ?_) #[true, true, true, true, true, true, true, true, true, true, true, true, true, true, true, true, true, true, true, true, true, true, true, true, true, true, true, true, true, true, true, true, true, true, true, true, true, true, true, true, true, true, true, true, true, true, true, true, true, false, false] rfl rfl (by kernel_rfl) (fun _ _ _ h => h) (Or.inl ⟨by rfl, ?_⟩) ?_ ?_
                rotate_left
                · intro w'
                  go_simp
                  with_reducible rfl
                rotate_left
                · simp only [Act.put, List.setIfInBounds_toArray, List.set_cons_zero, List.set_cons_succ, i64_w, i32_w]
                  rfl
                refine pure_ (i := 49) (N := some 121) (v := ?_) (a' := ?_) #[true, true, true, true, true, true, true, true, true, true, true, true, true, true, true, true, true, true, true, true, true, true, true, true, true, true, true, true, true, true, true, true, true, true, true, true, true, true, true, true, true, true, true, true, true, true, true, true, true, true, false] rfl rfl (by kernel_rfl) (fun _ _ _ h => h) (Or.inl ⟨by rfl, ?_⟩) ?_ ?_
                rotate_left
                · intro w'
                  go_simp
                  with_reducible rfl
                rotate_left
                · simp only [Act.put, List.setIfInBounds_toArray, List.set_cons_zero, List.set_cons_succ, i64_w, i32_w]
                  rfl
                refine pure_ (i := 50) (N := some 6) (v := ?_) (a' := ?_) #[true, true, true, true, true, true, true, true, true, true, true, true, true, true, true, true, true, true, true, true, true, true, true, true, true, true, true, true, true, true, true, true, true, true, true, true, true, true, true, true, true, true, true, true, true, true, true, true, true, true, true] rfl rfl (by kernel_rfl) (fun _ _ _ h => h) (Or.inl ⟨by rfl, ?_⟩) ?_ ?_
                rotate_left
                · intro w'
                  go_simp
                  with_reducible rfl
                rotate_left
                · simp only [Act.put, List.setIfInBounds_toArray, List.set_cons_zero, List.set_cons_succ, i64_w, i32_w]
                  rfl
                refine done_ (by kernel_rfl) ?_
                go_wp2
                go_ret
                exact ⟨rfl, below_step BF.out KQ.out⟩
              | succ q =>
                have hlt : (i : Int) < (KL.length : Int) := by have := Hi.out; omega
                have hlb := decide_eq_true hlt
                have hi0 : (0 : Int) ≤ i ∧ (i : Int) < (KL.length : Int) := ⟨by omega, hlt⟩
                obtain ⟨adL, A5, c5, e1, ka1, kb1, lb, cb⟩ := at_T45 C4.out (i : Int) (by omega) hlt
                have ka := pw_cell_below BI.out ka1
                have kb := pw_cell_below BI.out kb1
                clear ka1 kb1 lb cb
                subst e1
                rw [Int.toNat_natCast] at ka kb
                have HS2 := Aside0.mk (sumO_take KL i (by have := Hi.out; omega))
                have HMM : Aside0 (rd_T45 KL i ∈ KL) := ⟨by
                  unfold rd_T45
                  have hi' : i < KL.length := by omega
                  simp [List.getD_eq_getElem?_getD, List.getElem?_eq_getElem hi']⟩
                have HOO := Aside0.mk (HKL.out.2.1 _ HMM.out)
                obtain ⟨o, hoo⟩ : ∃ o, rd_T45 KL i = o := ⟨_, rfl⟩
                rw [hoo] at ka kb HS2 HOO
                clear hoo HMM
                obtain ⟨xf, hxf⟩ : ∃ x, o.f0 = x := ⟨_, rfl⟩
                obtain ⟨m, hm⟩ : ∃ m, o.f1.length = m := ⟨_, rfl⟩
                rw [hxf] at ka HOO
                rw [hm] at kb HS2 HOO
                clear hxf hm
                have hc : ¬ xf ≥ 128 := by have := HOO.out.2; omega
                have hcb : decide (128 ≤ xf) = false := decide_eq_false hc
                have hml : 0 ≤ (m : Int) ∧ (m : Int) ≤ 1100 := by have := HOO.out.1; omega
                have hil : 0 ≤ (i : Int) ∧ (i : Int) ≤ 1100 := by have := HIL.out; omega
                have hnl : 0 ≤ (n11 : Int) ∧ (n11 : Int) ≤ 2000 := by
                  have h1 := HN11.out
                  have h2 := HHL.out.2.2.1
                  have h3 := HT0.out.1
                  have h4 : sumO (KL.take i) + sumO (KL.drop i) = sumO KL := by rw [← sumO_app, List.take_append_drop]
                  omega
                clear hc
                go_wp2
                go_roundg q
                case measure => omega
                case rel => exact ⟨i + 1, by refine congrArg _ ?_; have h1 := HN11.out; have h2 := HS2.out; unfold wholeN at h2; omega, by go_num, ⟨by have := Hi.out; omega⟩, BI⟩
end Go.Proofs.Ytpjkbokojlpjoaa.Ak
