/- AskReads: its walk. -/
import Derived.Test.YtpjkbokojlpjoaaAsk21
namespace Go.Proofs.Ytpjkbokojlpjoaa.Ak
open Go.RowKit Go.Proofs.YtpjkbokojlpjoaaW.PrintWords Go.Proofs.YtpjkbokojlpjoaaW.PrintLast Go.Proofs.YtpjkbokojlpjoaaW.PrintMore Go.Proofs.Ytpjkbokojlpjoaa.Bs Go.Proofs.Ytpjkbokojlpjoaa.Fr Go.Proofs.Ytpjkbokojlpjoaa.Oct
open Go.Proofs.Ytpjkbokojlpjoaa.PAskReads (S45 k45 z45 k45_open k45_openM k45_mk k45_mkM info45 at_T45 rd_T45)
set_option linter.unusedVariables false
set_option linter.unusedSimpArgs false

theorem az_val : az.val = AM.val { az with os := .slice none ([] : List S45).length 0 } := rfl
set_option maxHeartbeats 4000000 in
set_option maxRecDepth 100000 in
theorem reads_walk (W : World) (A : Option Addr) (c : Nat) (b : List Int) (hC : Kd.C (Kd.int .u8) W A b.length b) (hc : b.length ≤ c) (hm : b.length * 1 ≤ 140737488351232) (hw : ∀ n ∈ b, (Lit.int .u8 n).wf = true) (fm : Int) (wf : (Lit.int .u32 fm).wf = true) :
    Calls Try.prog 3 #[.slice A b.length c, .int .u32 fm] W fun e w' => e = .returned (.bool true) ∧ Below W.heap.size W w' := by
  have hB : Byt b := fun x hx => by
    have h := hw x hx
    have hmin : IntKind.u8.min = 0 := rfl
    have hmax : IntKind.u8.max = 255 := rfl
    simp only [Lit.wf, Bool.and_eq_true, decide_eq_true_eq] at h
    omega
  clear hw wf hm
  have HC := Aside0.mk hC
  have HCC := Aside0.mk hc
  have HB := Aside0.mk hB
  have h29 := z29
  clear hC hc hB
  go_enter Try.func3, Try.ntmps3
  go_wp2_with fail
  refine (awake_calls _).mono ?_
  rintro e w1 ⟨rfl, hb1⟩
  have B1 := Aside0.mk hb1
  clear hb1
  by_cases hg : (b.length : Int) > 100000
  · have hgb := decide_eq_true hg
    go_wp2
    go_ret
    exact ⟨rfl, B1.out⟩
  · have hgb := decide_eq_false hg
    go_wp2_with fail
    by_cases hno : b.length < 2 ∨ 128 ≤ rd b 1
    · have HNO := Aside0.mk hno
      have hrd : Calls Try.prog 9 #[.slice A b.length c, .int .u32 fm] w1 fun e w' => e = .returned (.tuple #[az.val, .int .i64 0, .bool false]) ∧ Below w1.heap.size w1 w' := by
        rcases hno with h | h
        · exact Read_short A b.length c h fm w1
        · by_cases h2 : b.length < 2
          · exact Read_short A b.length c h2 fm w1
          · exact Read_answer A c b fm w1 (Kd.C_below HC.out B1.out) (by omega) h (HB.out.rd 1).2
      refine hrd.mono ?_
      rintro e w2 ⟨rfl, hb2⟩
      have B2 := Aside0.mk (below_step B1.out hb2)
      clear hb2 hno hrd hg hgb
      have OMw2 : Aside0 (AM.ok az) := ⟨az_ok⟩
      have OKw2 := Aside0.mk (AM.len OMw2.out)
      have Nw2 := Aside0.mk (blk_new w2 (.cells zc29 29))
      unfold AM.val
      go_wp2_with (refine wp_fill rfl 29 (.tmp 5) (.tmp 20) rfl w2.heap.size _ 29 (AM.cells az) Nw2.out rfl rfl (by rw [OKw2.out, zc29_size]) (by rw [info29, zc29_size]) (AM.one OMw2.out) ?_; intro w3 hx_ hf_; have Xw3 := Aside0.mk hx_; have Kw3 : Aside0 (Below w2.heap.size w2 w3) := ⟨below_fr (below_alloc (Below.refl _ _) (.cells zc29 29)) (by rw [World.size_alloc]; exact Nat.le_succ _) hf_ (fun k hk => by rw [hk]; exact Nat.le_refl _)⟩; clear hx_ hf_)
      have B3 := Aside0.mk (below_step B2.out Kw3.out)
      refine (RRead_no A c b fm w3 (Kd.C_below HC.out B3.out) HNO.out).mono ?_
      rintro e w4 ⟨rfl, hb4⟩
      have B4 := Aside0.mk (below_step B3.out hb4)
      have X34 := Aside0.mk (blk_below Xw3.out hb4)
      clear hb4
      have OMw4 : Aside0 (AM.ok az) := ⟨az_ok⟩
      have OKw4 := Aside0.mk (AM.len OMw4.out)
      have Nw4 := Aside0.mk (blk_new w4 (.cells zc29 29))
      have X35 : ∀ w5, Below w4.heap.size w4 w5 → w5.heap[w2.heap.size]? = some (.cells (AM.cells az).toArray 29 (0, 0)) := fun w5 h => blk_below X34.out h
      have HX35 := Aside0.mk X35
      clear X35
      unfold AM.val
      go_upto_region 7 with (refine wp_fill rfl 29 (.tmp 8) (.tmp 27) rfl w4.heap.size _ 29 (AM.cells az) Nw4.out rfl rfl (by rw [OKw4.out, zc29_size]) (by rw [info29, zc29_size]) (AM.one OMw4.out) ?_; intro w5 hx_ hf_; have Xw5 := Aside0.mk hx_; have Kw5 : Aside0 (Below w4.heap.size w4 w5) := ⟨below_fr (below_alloc (Below.refl _ _) (.cells zc29 29)) (by rw [World.size_alloc]; exact Nat.le_succ _) hf_ (fun k hk => by rw [hk]; exact Nat.le_refl _)⟩; clear hx_ hf_)
      have B5 := Aside0.mk (below_step B4.out Kw5.out)
      have G1 := Aside0.mk (range_blk (HX35.out w5 Kw5.out))
      have G2 := Aside0.mk (range_blk Xw5.out)
      go_wp2_with (first
        | (refine gate_guard (by rfl) ?_; refine wpList_load_mid rfl 29 (.tmp 5) rfl w2.heap.size 0 rfl (AM.cells az) _ G1.out Try.underlying29 rfl (by rw [OKw2.out]; exact info29) ?_)
        | (refine gate_guard (by rfl) ?_; refine wpList_load_mid rfl 29 (.tmp 8) rfl w4.heap.size 0 rfl (AM.cells az) _ G2.out Try.underlying29 rfl (by rw [OKw4.out]; exact info29) ?_))
      refine (RSame_calls az az_ok [] (by decide) (fun o ho => by cases ho) none none 0 0 _ (Kd.C_nil _ _) (Kd.C_nil _ _)).mono ?_
      rintro e w6 ⟨rfl, hb6⟩
      have B6 := Aside0.mk (below_step B5.out hb6)
      clear hb6
      go_wp2
      go_ret
      exact ⟨rfl, B6.out⟩
    · have h2 : 2 ≤ b.length := by omega
      have h1 : rd b 1 < 128 := by omega
      have HH := Aside0.mk (And.intro h2 h1)
      refine (Read_calls A c b fm w1 (Kd.C_below HC.out B1.out) h2 HCC.out HB.out h1).mono ?_
      clear h2 h1 hno hg hgb
      rintro e w2 (⟨hne, rfl, hb2⟩ | ⟨hz, L, v, hcut, rfl, hr, hb2⟩)
      · have HNE := Aside0.mk hne
        have B2 := Aside0.mk (below_step B1.out hb2)
        clear hb2 hne
        obtain ⟨x, hx⟩ : ∃ x, readC b fm = x := ⟨_, rfl⟩
        have HX := Aside0.mk hx
        rw [hx]
        clear hx
        have OMw2 : Aside0 (AM.ok az) := ⟨az_ok⟩
        have OKw2 := Aside0.mk (AM.len OMw2.out)
        have Nw2 := Aside0.mk (blk_new w2 (.cells zc29 29))
        unfold AM.val
        go_wp2_with (refine wp_fill rfl 29 (.tmp 5) (.tmp 20) rfl w2.heap.size _ 29 (AM.cells az) Nw2.out rfl rfl (by rw [OKw2.out, zc29_size]) (by rw [info29, zc29_size]) (AM.one OMw2.out) ?_; intro w3 hx_ hf_; have Xw3 := Aside0.mk hx_; have Kw3 : Aside0 (Below w2.heap.size w2 w3) := ⟨below_fr (below_alloc (Below.refl _ _) (.cells zc29 29)) (by rw [World.size_alloc]; exact Nat.le_succ _) hf_ (fun k hk => by rw [hk]; exact Nat.le_refl _)⟩; clear hx_ hf_)
        have B3 := Aside0.mk (below_step B2.out Kw3.out)
        refine (RRead_calls A c b fm w3 (Kd.C_below HC.out B3.out) HH.out.1 HCC.out HB.out HH.out.2).mono ?_
        rintro e w4 (⟨_, rfl, hb4⟩ | ⟨hz, _, _, _, _, _, _⟩)
        rotate_left
        · exact absurd hz HNE.out
        rw [HX.out]
        have B4 := Aside0.mk (below_step B3.out hb4)
        have X34 := Aside0.mk (blk_below Xw3.out hb4)
        clear hb4
        have OMw4 : Aside0 (AM.ok az) := ⟨az_ok⟩
        have OKw4 := Aside0.mk (AM.len OMw4.out)
        have Nw4 := Aside0.mk (blk_new w4 (.cells zc29 29))
        have X35 : ∀ w5, Below w4.heap.size w4 w5 → w5.heap[w2.heap.size]? = some (.cells (AM.cells az).toArray 29 (0, 0)) := fun w5 h => blk_below X34.out h
        have HX35 := Aside0.mk X35
        clear X35
        unfold AM.val
        go_upto_region 7 with (refine wp_fill rfl 29 (.tmp 8) (.tmp 27) rfl w4.heap.size _ 29 (AM.cells az) Nw4.out rfl rfl (by rw [OKw4.out, zc29_size]) (by rw [info29, zc29_size]) (AM.one OMw4.out) ?_; intro w5 hx_ hf_; have Xw5 := Aside0.mk hx_; have Kw5 : Aside0 (Below w4.heap.size w4 w5) := ⟨below_fr (below_alloc (Below.refl _ _) (.cells zc29 29)) (by rw [World.size_alloc]; exact Nat.le_succ _) hf_ (fun k hk => by rw [hk]; exact Nat.le_refl _)⟩; clear hx_ hf_)
        have B5 := Aside0.mk (below_step B4.out Kw5.out)
        have G1 := Aside0.mk (range_blk (HX35.out w5 Kw5.out))
        have G2 := Aside0.mk (range_blk Xw5.out)
        go_wp2_with (first
          | (refine gate_guard (by rfl) ?_; refine wpList_load_mid rfl 29 (.tmp 5) rfl w2.heap.size 0 rfl (AM.cells az) _ G1.out Try.underlying29 rfl (by rw [OKw2.out]; exact info29) ?_)
          | (refine gate_guard (by rfl) ?_; refine wpList_load_mid rfl 29 (.tmp 8) rfl w4.heap.size 0 rfl (AM.cells az) _ G2.out Try.underlying29 rfl (by rw [OKw4.out]; exact info29) ?_))
        refine (RSame_calls az az_ok [] (by decide) (fun o ho => by cases ho) none none 0 0 _ (Kd.C_nil _ _) (Kd.C_nil _ _)).mono ?_
        rintro e w6 ⟨rfl, hb6⟩
        have B6 := Aside0.mk (below_step B5.out hb6)
        clear hb6
        go_wp2
        go_ret
        exact ⟨rfl, B6.out⟩
      · have HZ := Aside0.mk hz
        have HCU := Aside0.mk hcut
        have B2 := Aside0.mk (below_step B1.out hb2)
        have HGD := Aside0.mk (readC_good b fm hz)
        obtain ⟨A1, c1, ev⟩ := Kd.R_slice hr
        subst ev
        have R2 := Aside0.mk hr
        have HOK : Aside0 ((m3 b (m1 b az)).ok) := ⟨m3_ok b (m1_ok b (headC_len b HGD.out.1).2.1 az_ok) (by have := HGD.out.2.2.2.1; omega) HGD.out.2.2.1⟩
        have HKL : Aside0 ((keepL L).length ≤ 1100 ∧ ∀ o ∈ keepL L, o.f1.length ≤ 2000) := ⟨by
          have h11 := (headC_len b HGD.out.1).2.2.1
          have hl := cutM_len b _ _ _ _ hcut (by have := HGD.out.2.2.2.1; have := sizeM_le (rd b 1); omega)
          have hf : (keepL L).length ≤ L.length := List.length_filter_le _ _
          simp at hl
          refine ⟨by omega, fun o ho => ?_⟩
          have h1 := cutM_f1 b 2000 (by omega) _ _ _ _ hcut (fun o ho => by cases ho) o ((List.mem_filter.1 ho).1)
          exact h1⟩
        clear hz hcut hr hb2
        have OMw2 : Aside0 (AM.ok { m3 b (m1 b az) with os := .slice A1 (keepL L).length c1 }) := ⟨⟨HOK.out.cl, HOK.out.no, HOK.out.wa, HOK.out.fa, rfl⟩⟩
        have OKw2 := Aside0.mk (AM.len OMw2.out)
        have Nw2 := Aside0.mk (blk_new w2 (.cells zc29 29))
        unfold AM.val
        go_wp2_with (refine wp_fill rfl 29 (.tmp 5) (.tmp 20) rfl w2.heap.size _ 29 (AM.cells { m3 b (m1 b az) with os := .slice A1 (keepL L).length c1 }) Nw2.out rfl rfl (by rw [OKw2.out, zc29_size]) (by rw [info29, zc29_size]) (AM.one OMw2.out) ?_; intro w3 hx_ hf_; have Xw3 := Aside0.mk hx_; have Kw3 : Aside0 (Below w2.heap.size w2 w3) := ⟨below_fr (below_alloc (Below.refl _ _) (.cells zc29 29)) (by rw [World.size_alloc]; exact Nat.le_succ _) hf_ (fun k hk => by rw [hk]; exact Nat.le_refl _)⟩; clear hx_ hf_)
        have B3 := Aside0.mk (below_step B2.out Kw3.out)
        have R3 := Aside0.mk (Kd.R_below R2.out Kw3.out)
        refine (RRead_calls A c b fm w3 (Kd.C_below HC.out B3.out) HH.out.1 HCC.out HB.out HH.out.2).mono ?_
        rintro e w4 (⟨hz, _⟩ | ⟨_, L', v', hcut', rfl, hr4, hb4⟩)
        · exact absurd HZ.out hz
        have eL : L = L' := Option.some.inj (HCU.out.symm.trans hcut')
        subst eL
        obtain ⟨A2, c2, ev⟩ := Kd.R_slice hr4
        subst ev
        have R4 := Aside0.mk hr4
        clear hr4 hcut'
        have B4 := Aside0.mk (below_step B3.out hb4)
        have X34 := Aside0.mk (blk_below Xw3.out hb4)
        have R34 := Aside0.mk (Kd.R_below R3.out hb4)
        clear hb4
        have OMw4 : Aside0 (AM.ok { m3 b (m1 b az) with os := .slice A2 (keepL L).length c2 }) := ⟨⟨HOK.out.cl, HOK.out.no, HOK.out.wa, HOK.out.fa, rfl⟩⟩
        have OKw4 := Aside0.mk (AM.len OMw4.out)
        have Nw4 := Aside0.mk (blk_new w4 (.cells zc29 29))
        have X35 : ∀ w5, Below w4.heap.size w4 w5 → w5.heap[w2.heap.size]? = some (.cells (AM.cells { m3 b (m1 b az) with os := .slice A1 (keepL L).length c1 }).toArray 29 (0, 0)) := fun w5 h => blk_below X34.out h
        have HX35 := Aside0.mk X35
        clear X35
        unfold AM.val
        go_upto_region 7 with (refine wp_fill rfl 29 (.tmp 8) (.tmp 27) rfl w4.heap.size _ 29 (AM.cells { m3 b (m1 b az) with os := .slice A2 (keepL L).length c2 }) Nw4.out rfl rfl (by rw [OKw4.out, zc29_size]) (by rw [info29, zc29_size]) (AM.one OMw4.out) ?_; intro w5 hx_ hf_; have Xw5 := Aside0.mk hx_; have Kw5 : Aside0 (Below w4.heap.size w4 w5) := ⟨below_fr (below_alloc (Below.refl _ _) (.cells zc29 29)) (by rw [World.size_alloc]; exact Nat.le_succ _) hf_ (fun k hk => by rw [hk]; exact Nat.le_refl _)⟩; clear hx_ hf_)
        have B5 := Aside0.mk (below_step B4.out Kw5.out)
        have G1 := Aside0.mk (range_blk (HX35.out w5 Kw5.out))
        have G2 := Aside0.mk (range_blk Xw5.out)
        have R5a := Aside0.mk (Kd.R_reads' (Kd.R_below R34.out Kw5.out))
        have R5b := Aside0.mk (Kd.R_reads' (Kd.R_below R4.out Kw5.out))
        go_wp2_with (first
          | (refine gate_guard (by rfl) ?_; refine wpList_load_mid rfl 29 (.tmp 5) rfl w2.heap.size 0 rfl (AM.cells { m3 b (m1 b az) with os := .slice A1 (keepL L).length c1 }) _ G1.out Try.underlying29 rfl (by rw [OKw2.out]; exact info29) ?_)
          | (refine gate_guard (by rfl) ?_; refine wpList_load_mid rfl 29 (.tmp 8) rfl w4.heap.size 0 rfl (AM.cells { m3 b (m1 b az) with os := .slice A2 (keepL L).length c2 }) _ G2.out Try.underlying29 rfl (by rw [OKw4.out]; exact info29) ?_))
        refine (RSame_calls (m3 b (m1 b az)) HOK.out (keepL L) HKL.out.1 HKL.out.2 A1 A2 c1 c2 _ R5a.out.2.2 R5b.out.2.2).mono ?_
        rintro e w6 ⟨rfl, hb6⟩
        have B6 := Aside0.mk (below_step B5.out hb6)
        clear hb6
        go_wp2
        go_ret
        exact ⟨rfl, B6.out⟩
end Go.Proofs.Ytpjkbokojlpjoaa.Ak
