/- StrandTwice. -/
import Derived.Test.YtldddinebhopcaaSt16
import Derived.Test.YtldddinebhopcaaSt19
namespace Go.Proofs.Ytldddinebhopcaa.St
open Go.RowKit Go.Shelf Go.Proofs.YtldddinebhopcaaW.PrintWords Go.Proofs.YtldddinebhopcaaW.PrintLast Go.Proofs.YtldddinebhopcaaW.PrintMore Go.Proofs.Ytldddinebhopcaa.Bs Go.Proofs.Ytldddinebhopcaa.Fr Go.Proofs.Ytldddinebhopcaa.Oct Go.Proofs.Ytldddinebhopcaa.Sec Go.Proofs.Ytldddinebhopcaa.Rg Go.Proofs.Ytldddinebhopcaa.PStrandPlays
set_option linter.unusedVariables false
set_option linter.unusedSimpArgs false
theorem opR_sec (s : List (List Int)) : ∀ i, ∀ r ∈ opR s i, 0 ≤ r.2 ∧ r.2 < i
  | 0 => fun r hr => by cases hr
  | i + 1 => by
    unfold opR
    intro r hr
    rcases List.mem_append.1 hr with q | q
    · have := opR_sec s i r q; omega
    · unfold tagL at q
      obtain ⟨b, hb, rfl⟩ := List.mem_map.1 q
      show 0 ≤ (i : Int) ∧ (i : Int) < ((i + 1 : Nat) : Int)
      omega
theorem crashed_len (d : DM) (ch : List Int) (h : d.sure.length = d.now.length) : (crashed d ch).now.length = d.now.length := by
  show (crashTo _ _ _ _).length = _
  rw [crashTo_len, h]
/-- Bodies of the records of the first i sectors. -/
def bodies (s : List (List Int)) (i : Nat) : List (List Int) := (opR s i).map (·.1)
theorem bodies_succ (s : List (List Int)) (i : Nat) : bodies s (i + 1) = bodies s i ++ scanL (s.getD i zB) := by
  unfold bodies
  show ((opR s i ++ tagL (scanL (s.getD i zB)) i).map (·.1)) = _
  rw [List.map_append]
  congr 1
  unfold tagL
  rw [List.map_map]
  exact List.map_id _
theorem sum_take {n : Nat} {l : List Int} (h : Upto n l) (z : Nat) : 0 ≤ (l.take z).sum ∧ (l.take z).sum ≤ l.sum := by
  have key : ∀ l : List Int, Upto n l → 0 ≤ l.sum := by
    intro l
    induction l with
    | nil => intro _; exact Int.le_refl _
    | cons x l ih =>
      intro h
      have h1 := h x List.mem_cons_self
      have h2 := ih (fun y hy => h y (List.mem_cons_of_mem _ hy))
      rw [List.sum_cons]
      omega
  have h1 := key (l.take z) (fun x hx => h x (List.mem_of_mem_take hx))
  have h2 := key (l.drop z) (fun x hx => h x (List.mem_of_mem_drop hx))
  have h3 : (l.take z ++ l.drop z).sum = l.sum := by rw [List.take_append_drop]
  rw [List.sum_append] at h3
  omega
theorem kL_rows {w : World} {base : Nat} {ok : Nat → Prop} {A : Option Addr} {n c : Nat} {l : List (List Int)} (h : Kd.R kL 23 w base ok (.slice A n c) l) : ReadsRow (kL.M w base (fun k => ok k ∧ some k ≠ (Value.slice A n c).ownBlock)) kL.sz w A n l := by
  obtain ⟨h0, inner, hown, hr⟩ := h
  obtain rfl : n = l.length := (R_same ⟨h0, inner, hown, hr⟩).1
  obtain ⟨A', c', e, hR⟩ := own_reads_row hown hr rfl
  injection e with e1 e2 e3
  subst e1
  exact hR
set_option maxHeartbeats 4000000 in
set_option maxRecDepth 100000 in
theorem twice_walk (w : World) (A : Option Addr) (c : Nat) (l : List S48) (hC : Kd.C k48 w A l.length l) (hc : l.length ≤ c) (hwf : ∀ x ∈ l, wfD x)
    (A1 : Option Addr) (c1 : Nat) (ch : List Int) (hC1 : Kd.C (Kd.int .u8) w A1 ch.length ch) (hc1 : ch.length ≤ c1) (hm1 : ch.length * 1 ≤ 140737488351232) (hw1 : ∀ x ∈ ch, (Lit.int .u8 x).wf = true) :
    Calls Try.prog 9 #[.slice A l.length c, .slice A1 ch.length c1] w fun e w' => e = .returned (.bool true) ∧ Below w.heap.size w w' := by
  have HC := Aside0.mk hC
  have HCC := Aside0.mk hc
  have HWF := Aside0.mk hwf
  have HC1 := Aside0.mk hC1
  have HCC1 := Aside0.mk hc1
  have HB1 := Aside0.mk (bytes_wf hw1)
  have hchl : (0 : Int) ≤ (ch.length : Int) := by omega
  clear hC hc hwf hC1 hc1 hw1 hm1
  go_enter Try.func9, Try.ntmps9
  go_wp2_with fail
  refine (awake_calls w).mono ?_
  rintro e w0 ⟨rfl, hb0⟩
  have B0 := Aside0.mk hb0
  obtain ⟨r, hr, hroom⟩ := room_calls w0 A c l (Kd.C_below HC.out hb0) HCC.out
  have HRR := Aside0.mk hr
  clear hb0 hr
  go_wp2_with fail
  refine hroom.mono ?_
  rintro e w1 ⟨rfl, hb1⟩
  have B1 := Aside0.mk (below_step B0.out hb1)
  clear hb1 hroom B0
  by_cases hrt : r = true
  rotate_left
  · have hrf : r = false := by simpa using hrt
    subst hrf
    clear hrt
    go_wp2
    go_ret
    exact ⟨rfl, B1.out⟩
  subst hrt
  obtain ⟨hl200, hl1000⟩ := HRR.out rfl
  have HL200 := Aside0.mk hl200
  have HL1000 := Aside0.mk hl1000
  clear HRR hl1000
  by_cases hch : (ch.length : Int) > 1000
  · have hchb := decide_eq_true hch
    go_wp2
    go_ret
    exact ⟨rfl, B1.out⟩
  have hchb := decide_eq_false hch
  have HCH : Aside0 (ch.length ≤ 1000) := ⟨by omega⟩
  go_wp2_with fail
  clear hch hchb hchl
  refine (both_calls w1 40 (by omega) (by omega)).mono ?_
  rintro e w2 ⟨g, v0, v1, gR, X, rfl, hT, hb2⟩
  have T2 := Aside0.mk hT
  have B2 := Aside0.mk (below_step B1.out hb2)
  clear hT hb2
  go_wp2_with fail
  refine (SD_open (fun _ => False) T2.out.d T2.out.bs (BM_m0 40) (fun _ h => h.elim) (fun _ _ h => h)).mono ?_
  rintro e w3 ⟨gs, u3, rfl, hS, hgs, hus, hb3⟩
  rw [open_m0] at hS
  obtain ⟨base, hbase⟩ : ∃ b, w1.heap.size = b := ⟨_, rfl⟩
  have N3 : Aside0 (NV w base w3 g v0 v1 (.slice none 0 0) (.slice none 0 0) (m0 40) gs (.slice none 0 0) u3 ⟨0, [], []⟩ 0) := ⟨⟨by rw [← hbase]; exact hS, bd0 40, Nat.le_refl _, below_step B2.out hb3, by rw [← hbase]; exact B1.out.size⟩⟩
  have D3 : Aside0 ((m0 40).now.length = 40) := ⟨(m0_fine 40).2.2.2⟩
  clear hS hgs hus hb3 hbase B2 B1 T2
  have hll : 0 ≤ (l.length : Int) ∧ (l.length : Int) ≤ 200 := by omega
  go_wp2_with fail
  go_loopg [9] l.length (fun q x9 wr => ∃ (i : Nat) (v2 v3 : Value) (d : DM) (u2 u3 : Value) (m : SM), x9 = .int .i64 (i : Int) ∧ Aside0 (i + q = l.length) ∧ Aside0 (NV w base wr g v0 v1 v2 v3 d gs u2 u3 m i) ∧ Aside0 (d.now.length = 40))
  case atStart => exact ⟨0, _, _, _, _, _, _, rfl, ⟨by omega⟩, N3, D3⟩
  case round =>
    clear N3 D3
    obtain ⟨i, v2, v3, d, u2, u3, m, rfl, hq, NI, DI⟩ := hrel
    cases gk with
    | zero =>
      have hlt : ¬ ((i : Int) < (l.length : Int)) := by have := hq.out; omega
      have hlb := decide_eq_false hlt
      have C1I := Aside0.mk (Kd.C_below HC1.out NI.out.bl)
      have SI_ := Aside0.mk NI.out.sd
      have BI := Aside0.mk NI.out.bl
      have HBM := Aside0.mk NI.out.sd.bm.crashed
      have HSN := Aside0.mk NI.out.sd.dv.len
      have BDI := Aside0.mk NI.out.bd
      go_wp2_with fail
      refine (Crash_calls wr base g v0 v1 v2 v3 d SI_.out.dv (BDI.out.sin (by have := hq.out; omega)) A1 c1 ch C1I.out HCC1.out HB1.out).mono ?_
      rintro e w4 ⟨g', y0, y1, rfl, hd4, hb4⟩
      have HN4 : Aside0 ((crashed d ch).now.length = 40) := ⟨by rw [crashed_len d ch HSN.out]; exact DI.out⟩
      have HO4 : Aside0 ((crashed d ch).ops = 0) := ⟨rfl⟩
      have HBM4 := Aside0.mk (HBM.out ch)
      have D4 := Aside0.mk hd4
      have B4 := Aside0.mk (below_step BI.out hb4)
      have HZ4 := Aside0.mk hb4.size
      clear hd4 hb4 SI_ BI HBM HSN BDI C1I NI DI
      generalize crashed d ch = x at *
      obtain ⟨b4, hb4⟩ : ∃ b, wr.heap.size = b := ⟨_, rfl⟩
      rw [hb4] at D4 HZ4
      clear hb4
      have HSHORT : Aside0 (∀ r ∈ (openM x).recs, r.1.length ≤ 1000) := ⟨opR_short _ _⟩
      have HSEC : Aside0 (∀ r ∈ (openM x).recs, 0 ≤ r.2 ∧ r.2 ≤ 4096) := ⟨fun r hr => by have h1 := opR_sec x.now x.now.length r hr; have h2 := HN4.out; omega⟩
      have HCNT : Aside0 ((openM x).recs.length ≤ 2560) := ⟨by
        have h1 := opR_len x.now (fun i => by
          rcases Nat.lt_or_ge i x.now.length with hi | hi
          · rw [sec_len D4.out i hi]; exact Nat.le_refl _
          · rw [List.getD_eq_getElem?_getD, List.getElem?_eq_none hi]; simp [zB]) x.now.length
        have h2 := HN4.out
        show (opR x.now x.now.length).length ≤ 2560
        omega⟩
      have HBOD : Aside0 ((openM x).recs.map (·.1) = bodies x.now 40) := ⟨by show (opR x.now x.now.length).map _ = _; rw [HN4.out]; rfl⟩
      go_wp2_with fail
      refine (Open_calls w4 b4 g' y0 y1 _ _ x D4.out HBM4.out).mono ?_
      rintro e w5 ⟨ga, a4, rfl, hsa, _, hb5⟩
      have SA := Aside0.mk hsa
      have D5 := Aside0.mk (D4.out.below hb5)
      have B5 := Aside0.mk (below_step B4.out hb5)
      obtain ⟨b5, hb5'⟩ : ∃ b, w4.heap.size = b := ⟨_, rfl⟩
      rw [hb5'] at SA
      clear hsa hb5 hb5' D4 B4
      go_wp2_with fail
      refine (Open_calls w5 b4 g' y0 y1 _ _ x D5.out HBM4.out).mono ?_
      rintro e w6 ⟨gb, c6, rfl, hsb, _, hb6⟩
      have SB := Aside0.mk hsb
      have SA6 := Aside0.mk (SA.out.below hb6)
      have D6 := Aside0.mk (D5.out.below hb6)
      have B6 := Aside0.mk (below_step B5.out hb6)
      obtain ⟨b6, hb6'⟩ : ∃ b, w5.heap.size = b := ⟨_, rfl⟩
      rw [hb6'] at SB
      clear hsb hb6 hb6' D5 B5 SA
      go_wp2_with fail
      refine (Ops_calls w6 b4 g' y0 y1 _ _ x D6.out).mono ?_
      rintro e w7 ⟨rfl, rfl⟩
      rw [HO4.out]
      go_wp2_with fail
      refine (All_calls w6 b5 ga g' _ _ a4 (openM x) SA6.out (by have := HCNT.out; omega) HSHORT.out).mono ?_
      rintro e w7 ⟨va, rfl, hra, hb7⟩
      obtain ⟨Aa, ca, ev⟩ := Kd.R_slice hra
      obtain ⟨na, hna⟩ : ∃ n, n = ((openM x).recs.map (·.1)).length := ⟨_, rfl⟩
      rw [← hna] at ev
      subst ev
      have HNA := Aside0.mk hna
      have RA7 := Aside0.mk hra
      have SA7 := Aside0.mk (SA6.out.below hb7)
      have SB7 := Aside0.mk (SB.out.below hb7)
      have D7 := Aside0.mk (D6.out.below hb7)
      have B7 := Aside0.mk (below_step B6.out hb7)
      clear hra hb7 hna SA6 SB D6 B6
      go_wp2_with fail
      refine (All_calls w7 b6 gb g' _ _ c6 (openM x) SB7.out (by have := HCNT.out; omega) HSHORT.out).mono ?_
      rintro e w8 ⟨vb, rfl, hrb, hb8⟩
      obtain ⟨Ab, cb, ev⟩ := Kd.R_slice hrb
      rw [← HNA.out] at ev
      subst ev
      have RB8 := Aside0.mk hrb
      have RA8 := Aside0.mk (Kd.R_below RA7.out hb8)
      have SA8 := Aside0.mk (SA7.out.below hb8)
      have SB8 := Aside0.mk (SB7.out.below hb8)
      have D8 := Aside0.mk (D7.out.below hb8)
      have B8 := Aside0.mk (below_step B7.out hb8)
      clear hrb hb8 RA7 SA7 SB7 D7 B7
      have HL8 : Aside0 (((openM x).recs.map (·.1)).length ≤ 1000000 ∧ ∀ y ∈ (openM x).recs.map (·.1), y.length ≤ 1000000) := ⟨by
        refine ⟨by rw [List.length_map]; have := HCNT.out; omega, fun y hy => ?_⟩
        obtain ⟨r, hr, rfl⟩ := List.mem_map.1 hy
        have := HSHORT.out r hr
        omega⟩
      have hS8 := same8_calls w8 Aa Ab ca cb _ _ HL8.out.1 HL8.out.2 (R_same RA8.out).2.2 (R_same RA8.out).2.1 (R_same RB8.out).2.2 (R_same RB8.out).2.1
      rw [← HNA.out, decide_eq_true (rfl : (openM x).recs.map (·.1) = _)] at hS8
      go_wp2_with fail
      refine hS8.mono ?_
      clear hS8
      rintro e w9 ⟨rfl, hb9⟩
      have SA9 := Aside0.mk (SA8.out.below hb9)
      have SB9 := Aside0.mk (SB8.out.below hb9)
      have D9 := Aside0.mk (D8.out.below hb9)
      have B9 := Aside0.mk (below_step B8.out hb9)
      clear hb9 RA8 RB8 SA8 SB8 D8 B8
      have HSG : Aside0 ((segL (openM x).recs).length ≤ 257) := ⟨segL_len _ HSEC.out⟩
      go_wp2_with fail
      refine (Segments_calls w9 b5 ga g' _ _ a4 (openM x) SA9.out (by have := HCNT.out; omega) HSEC.out).mono ?_
      rintro e w10 ⟨va, rfl, hra, hb10⟩
      obtain ⟨Aa, ca, ev⟩ := Kd.R_slice hra
      obtain ⟨ns, hns⟩ : ∃ n, n = (segL (openM x).recs).length := ⟨_, rfl⟩
      rw [← hns] at ev
      subst ev
      have HNS := Aside0.mk hns
      have RA10 := Aside0.mk hra
      have SA10 := Aside0.mk (SA9.out.below hb10)
      have SB10 := Aside0.mk (SB9.out.below hb10)
      have D10 := Aside0.mk (D9.out.below hb10)
      have B10 := Aside0.mk (below_step B9.out hb10)
      clear hra hb10 hns SA9 SB9 D9 B9
      go_wp2_with fail
      refine (Segments_calls w10 b6 gb g' _ _ c6 (openM x) SB10.out (by have := HCNT.out; omega) HSEC.out).mono ?_
      rintro e w11 ⟨vb, rfl, hrb, hb11⟩
      obtain ⟨Ab, cb, ev⟩ := Kd.R_slice hrb
      rw [← HNS.out] at ev
      subst ev
      have RB11 := Aside0.mk hrb
      have RA11 := Aside0.mk (Kd.R_below RA10.out hb11)
      have SA11 := Aside0.mk (SA10.out.below hb11)
      have D11 := Aside0.mk (D10.out.below hb11)
      have B11 := Aside0.mk (below_step B10.out hb11)
      clear hrb hb11 RA10 SA10 SB10 D10 B10
      have hS11 := ints_calls w11 Aa Ab ca cb _ _ (by have := HSG.out; omega) (R_same RA11.out).2.2 (R_same RA11.out).2.1 (R_same RB11.out).2.2 (R_same RB11.out).2.1
      rw [← HNS.out, decide_eq_true (rfl : segL (openM x).recs = _)] at hS11
      go_wp2_with fail
      refine hS11.mono ?_
      clear hS11
      rintro e w12 ⟨rfl, hb12⟩
      have SA12 := Aside0.mk (SA11.out.below hb12)
      have D12 := Aside0.mk (D11.out.below hb12)
      have B12 := Aside0.mk (below_step B11.out hb12)
      clear hb12 RA11 RB11 SA11 D11 B11
      have HCB : Aside0 (∀ j, j ≤ 40 → (bodies x.now j).length ≤ 2560) := ⟨fun j hj => by
        unfold bodies
        rw [List.length_map]
        have h1 := opR_len x.now (fun i => by
          rcases Nat.lt_or_ge i x.now.length with hi | hi
          · rw [sec_len D12.out i hi]; exact Nat.le_refl _
          · rw [List.getD_eq_getElem?_getD, List.getElem?_eq_none hi]; simp [zB]) j
        omega⟩
      go_upto_region 25 with fail
      go_loopg [14, 15] 40 (fun q v14 v15 wq => ∃ j : Nat, v15 = .int .i64 (j : Int) ∧ Aside0 (j + q = 40) ∧ Aside0 (Kd.R kL 23 wq w12.heap.size (fun _ => True) v14 (bodies x.now j)) ∧ Aside0 (Below w12.heap.size w12 wq))
      case atStart => exact ⟨0, rfl, ⟨rfl⟩, ⟨Kd.R_nil _ _ _ _ _⟩, ⟨Below.refl _ _⟩⟩
      case round =>
        obtain ⟨j, rfl, Hj, RJ, BJ⟩ := hrel
        have DJ := Aside0.mk (D12.out.below BJ.out)
        have hjl : 0 ≤ (j : Int) ∧ (j : Int) ≤ 40 := by have := Hj.out; omega
        obtain ⟨A4, c4, ev⟩ := Kd.R_slice RJ.out
        obtain ⟨nj, hnj⟩ : ∃ n, n = (bodies x.now j).length := ⟨_, rfl⟩
        rw [← hnj] at ev
        subst ev
        have HNJ := Aside0.mk hnj
        clear hnj
        go_wp2_with fail
        refine (Size_calls wr b4 g' y0 y1 _ _ x DJ.out).mono ?_
        rintro e w13 ⟨rfl, rfl⟩
        rw [HN4.out]
        cases gk with
        | succ p =>
          have hltj : (j : Int) < ((40 : Nat) : Int) := by have := Hj.out; omega
          have hltj2 : (j : Int) < 40 := by have := Hj.out; omega
          have hlbj := decide_eq_true hltj2
          have hjn : j < x.now.length := by have h1 := HN4.out; omega
          have HJN := Aside0.mk hjn
          clear hltj hjn
          go_wp2_with fail
          refine (Read_calls wr b4 g' y0 y1 _ _ x DJ.out j HJN.out).mono ?_
          rintro e w14 ⟨g2, rfl, hg2, hx2, hl2, hb14⟩
          have X14 := Aside0.mk hx2
          have L14 := Aside0.mk hl2
          have HBS := Aside0.mk (HBM4.out.sec j HJN.out)
          have R14 := Aside0.mk (Kd.R_below RJ.out hb14)
          have B14 := Aside0.mk (below_step BJ.out hb14)
          have HBD := Aside0.mk (bodies_succ x.now j)
          clear hg2 hx2 hl2 hb14
          generalize x.now.getD j zB = sec at *
          go_wp2_with fail
          refine (Scan64_calls g2 sec w14 L14.out X14.out HBS.out).mono ?_
          rintro e w15 ⟨As, cs, rfl, hrs, hb15⟩
          obtain ⟨ns2, hns2⟩ : ∃ n, n = (scanL sec).length := ⟨_, rfl⟩
          have HS2 := Aside0.mk hns2
          rw [← hns2] at hrs
          rw [← hns2]
          have RS := Aside0.mk (kL_rows (Kd.R_lower (Kd.R_mono (Kd.R_bound hrs) (fun k hk => (hk.2.1 : w14.heap.size ≤ k))) B14.out.size))
          have R15 := Aside0.mk (Kd.R_below R14.out hb15)
          have B15 := Aside0.mk (below_step B14.out hb15)
          have HOW : Aside0 (∀ k, own (.slice A4 nj c4) k → k < w14.heap.size) := ⟨fun k hk => R_own_lt R14.out k hk⟩
          have HAL : Aside0 (((bodies x.now j).length + ns2) * 24 ≤ 140737488355328) := ⟨by
            have h1 := HCB.out (j + 1) (by have := Hj.out; omega)
            rw [HBD.out, List.length_append] at h1
            have := HS2.out
            omega⟩
          clear hrs hb15 hns2
          go_upto_region 26 with ((with_reducible refine gate_builtin (b := .append) (xs := #[.tmp 149, .tmp 151]) rfl ?_); at_builtin; go_loud (refine Kd.R_append_rows kL (w0 := w12) w12.heap.size rfl (.tmp 149) (.tmp 151) 40 23 (.slice none 0 0) 24 rfl Try.underlying40 infoL rfl (by decide) (by decide) (.slice A4 nj c4) (bodies x.now j) (scanL sec) As ns2 cs (fun _ => True) _ rfl rfl R15.out RS.out (fun _ _ h => h) (fun k hk => ⟨trivial, fun he => by have := HOW.out k he.symm; have := hk.1; omega⟩) (fun _ _ => trivial) B15.out B15.out.size HAL.out ?_); intro v16 w16 hr_ hb_ _ _; have R16 := Aside0.mk hr_; have B16 := Aside0.mk hb_; clear hr_ hb_)
          go_wp2
          go_roundg p
          case measure => omega
          case rel => exact ⟨j + 1, by go_num, ⟨by have := Hj.out; omega⟩, ⟨by rw [HBD.out]; exact R16.out⟩, B16⟩
        | zero =>
          have hltj2 : ¬ (j : Int) < 40 := by have := Hj.out; omega
          have hlbj := decide_eq_false hltj2
          obtain rfl : j = 40 := by have := Hj.out; omega
          have SAJ := Aside0.mk (SA12.out.below BJ.out)
          have BQ := Aside0.mk (below_step B12.out BJ.out)
          clear hltj2 hjl
          go_wp2_with fail
          refine (Segments_calls wr b5 ga g' _ _ a4 (openM x) SAJ.out (by have := HCNT.out; omega) HSEC.out).mono ?_
          rintro e w20 ⟨vs, rfl, hrs, hb20⟩
          obtain ⟨As, cs, ev⟩ := Kd.R_slice hrs
          have HSUM := Aside0.mk (segL_sum (openM x).recs)
          have HUP := Aside0.mk (segL_upto (openM x).recs)
          obtain ⟨G, hG⟩ : ∃ G, segL (openM x).recs = G := ⟨_, rfl⟩
          rw [hG] at hrs ev HSUM HSG HUP
          subst ev
          have CS := Aside0.mk (Kd.R_reads' hrs).2.2
          have SA20 := Aside0.mk (SAJ.out.below hb20)
          have RJ20 := Aside0.mk (Kd.R_below RJ.out hb20)
          have B20 := Aside0.mk (below_step BQ.out hb20)
          have hgl : 0 ≤ (G.length : Int) ∧ (G.length : Int) ≤ 257 := by have := HSG.out; omega
          clear hrs hb20 hG SAJ BQ RJ
          go_upto_region 31 with fail
          go_loopg [18, 156] G.length (fun q v18 v156 wr => ∃ z : Nat, v156 = .int .i64 (z : Int) ∧ v18 = .int .i64 ((G.take z).sum) ∧ Aside0 (z + q = G.length) ∧ wr = w20)
          case atStart => exact ⟨0, rfl, rfl, ⟨by omega⟩, rfl⟩
          case round =>
            obtain ⟨z, rfl, rfl, Hz, rfl⟩ := hrel
            have HT := Aside0.mk (sum_take HUP.out z)
            cases gk with
            | zero =>
              have hlz : ¬ ((z : Int) < (G.length : Int)) := by have := Hz.out; omega
              have hlzb := decide_eq_false hlz
              have HTZ : Aside0 ((G.take z).sum = (nj : Int)) := ⟨by
                rw [List.take_of_length_le (by have := Hz.out; omega), HSUM.out, HNJ.out, ← HBOD.out, List.length_map]⟩
              rw [HTZ.out]
              go_wp2_with fail
              refine (All_calls wr b5 ga g' _ _ a4 (openM x) SA20.out (by have := HCNT.out; omega) HSHORT.out).mono ?_
              rintro e w21 ⟨va, rfl, hra, hb21⟩
              rw [HBOD.out] at hra
              obtain ⟨Aq, cq, ev⟩ := Kd.R_slice hra
              rw [← HNJ.out] at ev
              subst ev
              have RA21 := Aside0.mk hra
              have RJ21 := Aside0.mk (Kd.R_below RJ20.out hb21)
              have B21 := Aside0.mk (below_step B20.out hb21)
              have HL21 : Aside0 ((bodies x.now 40).length ≤ 1000000 ∧ ∀ y ∈ bodies x.now 40, y.length ≤ 1000000) := ⟨by rw [← HBOD.out]; exact HL8.out⟩
              have hS21 := same8_calls w21 A4 Aq c4 cq _ _ HL21.out.1 HL21.out.2 (R_same RJ21.out).2.2 (R_same RJ21.out).2.1 (R_same RA21.out).2.2 (R_same RA21.out).2.1
              rw [← HNJ.out, decide_eq_true (rfl : bodies x.now 40 = _)] at hS21
              clear hra hb21
              go_wp2_with fail
              refine hS21.mono ?_
              clear hS21
              rintro e w22 ⟨rfl, hb22⟩
              have B22 := Aside0.mk (below_step B21.out hb22)
              clear hb22
              go_wp2
              go_ret
              exact ⟨rfl, B22.out⟩
            | succ p =>
              have hlz : ((z : Int) < (G.length : Int)) := by have := Hz.out; omega
              have hlzb := decide_eq_true hlz
              have hz0 : (0 : Int) ≤ z ∧ (z : Int) < (G.length : Int) := ⟨by omega, hlz⟩
              obtain ⟨adz, ez, cz⟩ := (Kd.reads_of_C (d := (0 : Int)) CS.out).at_ (z : Int) (by omega) hlz
              subst ez
              rw [Int.toNat_natCast] at cz
              have HT1 := Aside0.mk (sum_take HUP.out (z + 1))
              have HTS : Aside0 ((G.take (z + 1)).sum = (G.take z).sum + rdOf 0 G (z : Int)) := ⟨by
                have hz' : z < G.length := by omega
                rw [List.take_add_one, List.getElem?_eq_getElem hz', Option.toList_some, List.sum_append]
                simp [rdOf, List.getD_eq_getElem?_getD, List.getElem?_eq_getElem hz']⟩
              have hv1 := HT.out
              have hv2 := HT1.out
              rw [HTS.out] at hv2
              have hg0 := getD_upto HUP.out z
              have hgr : rdOf 0 G (z : Int) = G.getD z 0 := by unfold rdOf; rw [Int.toNat_natCast]
              rw [← hgr] at hg0
              rw [HSUM.out] at hv1 hv2
              have hcn := HCNT.out
              have hb1 : 0 ≤ (G.take z).sum ∧ (G.take z).sum ≤ 2560 := by omega
              have hb2 : 0 ≤ rdOf 0 G (z : Int) ∧ rdOf 0 G (z : Int) ≤ 2560 := by omega
              clear hv1 hv2 hg0 hgr hcn
              obtain ⟨S0, hS0⟩ : ∃ S, (G.take z).sum = S := ⟨_, rfl⟩
              rw [hS0] at hb1 HTS
              rw [hS0]
              obtain ⟨y, hy⟩ : ∃ y, rdOf 0 G (z : Int) = y := ⟨_, rfl⟩
              rw [hy] at hb2 HTS cz
              clear hS0 hy HT HT1
              go_wp2
              go_roundg p
              case measure => omega
              case rel => exact ⟨z + 1, by go_num, by rw [HTS.out], ⟨by have := Hz.out; omega⟩, rfl⟩
    | succ q =>
      have hlt : (i : Int) < (l.length : Int) := by have := hq.out; omega
      have hlb := decide_eq_true hlt
      have hi0 : (0 : Int) ≤ i ∧ (i : Int) < (l.length : Int) := ⟨by omega, hlt⟩
      have hil : (i : Int) ≤ 200 := by omega
      have HIL : Aside0 (i ≤ 1000) := ⟨by omega⟩
      obtain ⟨ad, A4, c4, hA, e0, e1, hl4, hc4⟩ := at_T48 HC.out (i : Int) (by omega) hlt
      subst hA
      have HWX := Aside0.mk (HWF.out _ (rd_T48_mem (l := l) (i := i) (by omega)))
      have H1000 := Aside0.mk (HL1000.out i (by omega))
      rw [Int.toNat_natCast] at e0 e1
      generalize rd_T48 l (i : Int) = dd at *
      obtain ⟨a0, a1⟩ := dd
      simp only at e0 e1 hl4 hc4 H1000
      have HCA := Aside0.mk hc4
      have HLA := Aside0.mk hl4
      have HBA : Aside0 (Byt a1) := ⟨bytes_wf HWX.out.2.1⟩
      have k0 := pw_cell_below NI.out.bl e0
      have k1 := pw_cell_below NI.out.bl e1
      clear e0 e1 hl4 hc4 HWX
      by_cases h4 : a0 ≤ 4
      · have h4b := decide_eq_true h4
        clear h4
        go_wp2_with fail
        refine (NV_append NI.out HIL.out A4 c4 a1 HCA.out HLA.out HBA.out).mono ?_
        rintro e w5 ⟨rfl, u5, x5, y2, y3, hN5⟩
        have N5 := Aside0.mk hN5
        have D5 : Aside0 ((aD m d a1).now.length = 40) := ⟨by rw [aD_len]; exact DI.out⟩
        clear hN5 k0 k1 h4b
        go_wp2
        go_roundg q
        case measure => omega
        case rel => exact ⟨i + 1, _, _, _, _, _, _, by go_num, ⟨by have := hq.out; omega⟩, N5, D5⟩
      · have h4b := decide_eq_false h4
        by_cases h5 : a0 = 5
        · subst h5
          clear h4
          go_wp2_with fail
          refine (NV_sync NI.out HIL.out).mono ?_
          rintro e w5 ⟨rfl, u5, y2, y3, hN5⟩
          have N5 := Aside0.mk hN5
          have D5 : Aside0 ((syM d).now.length = 40) := ⟨by rw [syM_len]; exact DI.out⟩
          clear hN5 k0 k1 h4b
          go_wp2
          go_roundg q
          case measure => omega
          case rel => exact ⟨i + 1, _, _, _, _, _, _, by go_num, ⟨by have := hq.out; omega⟩, N5, D5⟩
        · have h5b : (a0 == 5) = false := beq_eq_false_iff_ne.mpr h5
          by_cases h6 : a0 = 6
          · subst h6
            clear h4 h5
            go_wp2_with fail
            refine (NV_outcomes NI.out HIL.out A4 c4 a1 HCA.out H1000.out HBA.out).mono ?_
            rintro e w5 ⟨rfl, y3, hN5⟩
            have N5 := Aside0.mk hN5
            have D5 : Aside0 ((waits d (d.wait ++ a1)).now.length = 40) := ⟨DI.out⟩
            clear hN5 k0 k1 h4b h5b
            go_wp2
            go_roundg q
            case measure => omega
            case rel => exact ⟨i + 1, _, _, _, _, _, _, by go_num, ⟨by have := hq.out; omega⟩, N5, D5⟩
          · have h6b : (a0 == 6) = false := beq_eq_false_iff_ne.mpr h6
            clear h4 h5 h6
            have N5 := Aside0.mk NI.out.next
            go_wp2
            go_roundg q
            case measure => omega
            case rel => exact ⟨i + 1, _, _, _, _, _, _, by go_num, ⟨by have := hq.out; omega⟩, N5, DI⟩
end Go.Proofs.Ytldddinebhopcaa.St
