/- the document's part. -/
import Derived.Test.YtpjkbokojlpjoaaAsk18
namespace Go.Proofs.Ytpjkbokojlpjoaa.Ak
open Go.RowKit Go.Proofs.YtpjkbokojlpjoaaW.PrintWords Go.Proofs.YtpjkbokojlpjoaaW.PrintLast Go.Proofs.YtpjkbokojlpjoaaW.PrintMore Go.Proofs.Ytpjkbokojlpjoaa.Bs Go.Proofs.Ytpjkbokojlpjoaa.Fr Go.Proofs.Ytpjkbokojlpjoaa.Oct
open Go.Proofs.Ytpjkbokojlpjoaa.PAskReads
set_option linter.unusedVariables false
set_option linter.unusedSimpArgs false

def midM (b : List Int) (m : AM) : AM := { m with no := cut2 b 24 12, pr := getV b 36 1, po := getV b 40 2, wp := getV b 42 2, wa := cut2 b 44 16 }
def partM (b : List Int) (m : AM) : AM := if m.op = 2 then { midM b m with fp := getV b 60 2, fa := cut2 b 64 16 } else midM b m
theorem midM_ok {b : List Int} {m : AM} (h : m.ok) (hl : 60 ≤ b.length) : (midM b m).ok := ⟨h.cl, cut2_len _ _ _ (by omega), cut2_len _ _ _ (by omega), h.fa, h.os⟩
theorem word_calls (A : Option Addr) (c : Nat) (b : List Int) (hB : Byt b) (at_ : Nat) (w : World) (hC : Kd.C (Kd.int .u8) w A b.length b) (hc : b.length ≤ c) (h2 : at_ ≤ 2000) (ha : at_ + 2 ≤ b.length) :
    Calls Try.prog 41 #[.slice A b.length c, .int .i64 at_] w fun e w' => e = .returned (.int .i64 (getV b (at_ : Nat) 2)) ∧ Below w.heap.size w w' :=
  (bailiwickref25_word.calls A c b at_ _ w hC hc (word_f b hB at_ h2 ha)).mono (fun e w' h => ⟨h.1, h.2.below⟩)
/-- What stays while a request's own part is laid. -/
structure PS (w0 w : World) (A : Option Addr) (b : List Int) (m : AM) : Prop where
  pb : PB w w0.heap.size m
  ok : m.ok
  q : w.heap[w0.heap.size + 1]? = some (.cells zc29 29 (0, 0))
  c : Kd.C (Kd.int .u8) w A b.length b
  low : Below w0.heap.size w0 w
  ab : ∀ ad, A = some ad → ad.block < w0.heap.size
theorem PS.below {w0 w w' : World} {A : Option Addr} {b : List Int} {m : AM} (h : PS w0 w A b m) (k : Below w.heap.size w w') : PS w0 w' A b m :=
  ⟨h.pb.below k, h.ok, blk_below h.q k, Kd.C_below h.c k, below_step h.low k, h.ab⟩
theorem PS.put {w0 w w' : World} {ad : Addr} {b : List Int} {m m' : AM} (h : PS w0 w (some ad) b m) (k : Fr w w' (fun k => k = w0.heap.size)) (hp : PB w' w0.heap.size m') (hm : m'.ok) : PS w0 w' (some ad) b m' :=
  ⟨hp, hm, k.blk h.q (by omega), C_fr h.c k (by have := h.ab ad rfl; omega), below_fr h.low h.low.size k (fun b hb => by omega), h.ab⟩
set_option maxHeartbeats 4000000 in
set_option maxRecDepth 100000 in
theorem rpart_calls (A : Option Addr) (c : Nat) (b : List Int) (m : AM) (hm : m.ok) (hz : m.no = List.replicate 12 0) (w : World) (hC : Kd.C (Kd.int .u8) w A b.length b) (hB : Byt b) (hc : b.length ≤ c) (hmx : b.length ≤ 1100) (h60 : 60 ≤ b.length) (h80 : m.op = 2 → 80 ≤ b.length) :
    Calls Try.prog 31 #[m.val, .slice A b.length c] w fun e w' => e = .returned (partM b m).val ∧ Below w.heap.size w w' := by
  have h29 := z29
  have hbA := below_alloc (Below.refl w.heap.size w) (.cells m.cells.toArray 29)
  have B1 := Aside0.mk (Below.alloc hbA hbA.size (.cells zc29 29))
  have P1 : Aside0 (PB ((w.alloc (.cells m.cells.toArray 29)).alloc (.cells zc29 29)) w.heap.size m) := ⟨blk_alloc (blk_new w _) _⟩
  have Q1 : Aside0 (((w.alloc (.cells m.cells.toArray 29)).alloc (.cells zc29 29)).heap[w.heap.size + 1]? = some (.cells zc29 29 (0, 0))) := ⟨by have h := blk_new (w.alloc (.cells m.cells.toArray 29)) (.cells zc29 29); rw [World.size_alloc] at h; exact h⟩
  have HC := Aside0.mk (Kd.C_below hC B1.out)
  have HB := Aside0.mk hB
  have HM := Aside0.mk hm
  have HL := Aside0.mk (And.intro hc (And.intro hmx (And.intro h60 h80)))
  have LN := Aside0.mk (AM.len hm)
  have L12 := Aside0.mk (cut2_len b 24 12 (by omega))
  have HZ : Aside0 (m.no = arrI (cut2 b 24 12) 0) := ⟨by rw [hz, arrI_zero, L12.out]⟩
  have AB0 : Aside0 (∀ ad, A = some ad → ad.block < w.heap.size) := ⟨fun ad e => by
    subst e
    obtain ⟨_, e1, hh⟩ := at_one hC 0 (by omega) (by omega)
    cases e1
    have h1 := World.block_lt_of_cell? _ _ hh
    rwa [add_block] at h1⟩
  clear hbA hC hB hm hc hmx h60 h80 hz
  unfold AM.val
  go_enter Try.func31, Try.ntmps31
  go_upto_region 2 with fail
  generalize (w.alloc (.cells m.cells.toArray 29)).alloc (.cells zc29 29) = w1 at *
  have O0 : Aside0 (({ m with no := arrI (cut2 b 24 12) 0 } : AM).ok) := ⟨by rw [← HZ.out]; exact HM.out⟩
  have P2 : Aside0 (PB w1 w.heap.size { m with no := arrI (cut2 b 24 12) 0 }) := ⟨by rw [← HZ.out]; exact P1.out⟩
  clear P1
  go_loopg [5] 12 (fun q v5 wr => ∃ i : Nat, v5 = .int .i64 (i : Int) ∧ Aside0 (i + q = 12) ∧ Aside0 (PB wr w.heap.size { m with no := arrI (cut2 b 24 12) i }) ∧ Aside0 (({ m with no := arrI (cut2 b 24 12) i } : AM).ok) ∧ Aside0 (Below w.heap.size w wr) ∧ Aside0 (wr.heap[w.heap.size + 1]? = some (.cells zc29 29 (0, 0))) ∧ Aside0 (Kd.C (Kd.int .u8) wr A b.length b) ∧ Aside0 (∀ ad, A = some ad → ad.block < w.heap.size))
  case atStart => exact ⟨0, rfl, ⟨rfl⟩, P2, O0, B1, Q1, HC, AB0⟩
  case round =>
    clear P2 O0 B1 Q1 HC h29
    obtain ⟨i, rfl, Hi, PP, OO, BB, QQ, CC, AB⟩ := hrel
    cases gk with
    | zero =>
      have hi : i = 12 := by have := Hi.out; omega
      subst hi
      have S1 : Aside0 (PS w wr A b { m with no := cut2 b 24 12 }) := ⟨by
        have e : arrI (cut2 b 24 12) 12 = cut2 b 24 12 := by
          have h2 := arrI_all (cut2 b 24 12)
          rw [L12.out] at h2
          exact h2
        have h1 := PP.out
        have h2 := OO.out
        rw [e] at h1 h2
        exact ⟨h1, h2, QQ.out, CC.out, BB.out, AB.out⟩⟩
      clear PP OO BB QQ CC AB HZ
      obtain ⟨ad, e1, cb⟩ := at_one S1.out.c 36 (by omega) (by have := HL.out; omega)
      subst e1
      have cb' : wr.cell? ⟨ad.block, ad.off + 36, none⟩ = some (.int .u8 (rd b 36)) := cb
      have h36 : (0 : Int) ≤ 36 ∧ (36 : Int) < (b.length : Int) := by have := HL.out; omega
      have hr36 : 0 ≤ rd b 36 ∧ rd b 36 ≤ 255 := HB.out.rd 36
      have hw36 : wrap64 (rd b 36) = rd b 36 := wrap_id _ (by omega)
      have HV : Aside0 (getV b 36 1 = rd b 36) := ⟨getV1 b 36 (by have := HL.out; omega)⟩
      obtain ⟨x30, k30⟩ := S1.out.pb.some_ S1.out.ok 30 (by decide)
      have f30 := S1.out.pb.fz 30
      have S2 : Aside0 (PS w (wr.setCell ⟨w.heap.size, 30, none⟩ (.int .i64 (rd b 36))) (some ad) b { m with no := cut2 b 24 12, pr := getV b 36 1 }) := ⟨S1.out.put (set_fr _ _ _ _) (by rw [HV.out]; exact S1.out.pb.pr_ S1.out.ok _) ⟨HM.out.cl, L12.out, HM.out.wa, HM.out.fa, HM.out.os⟩⟩
      clear cb hr36 S1 HV
      generalize rd b 36 = x36 at *
      go_upto_region 6 with fail
      clear k30 f30 hw36 h36 cb'
      generalize wr.setCell ⟨w.heap.size, 30, none⟩ (.int .i64 x36) = w5 at *
      go_wp2_with fail
      refine (word_calls (some ad) c b HB.out 40 w5 S2.out.c HL.out.1 (by decide) (by have := HL.out; omega)).mono ?_
      rintro e w6 ⟨rfl, hb6⟩
      have S3 := Aside0.mk (S2.out.below hb6)
      clear hb6 S2
      obtain ⟨x31, k31⟩ := S3.out.pb.some_ S3.out.ok 31 (by decide)
      have f31 := S3.out.pb.fz 31
      have S4 : Aside0 (PS w (w6.setCell ⟨w.heap.size, 31, none⟩ (.int .i64 (getV b 40 2))) (some ad) b { m with no := cut2 b 24 12, pr := getV b 36 1, po := getV b 40 2 }) := ⟨S3.out.put (set_fr _ _ _ _) (S3.out.pb.po_ S3.out.ok _) ⟨HM.out.cl, L12.out, HM.out.wa, HM.out.fa, HM.out.os⟩⟩
      clear S3
      go_upto_region 7 with fail
      clear k31 f31
      show Code.wp _ _ _ _ (w6.setCell ⟨w.heap.size, 31, none⟩ (.int .i64 (getV b 40 2)))
      generalize w6.setCell ⟨w.heap.size, 31, none⟩ (.int .i64 (getV b 40 2)) = w7 at *
      go_wp2_with fail
      refine (word_calls (some ad) c b HB.out 42 w7 S4.out.c HL.out.1 (by decide) (by have := HL.out; omega)).mono ?_
      rintro e w8 ⟨rfl, hb8⟩
      have S5 := Aside0.mk (S4.out.below hb8)
      clear hb8 S4
      obtain ⟨x32, k32⟩ := S5.out.pb.some_ S5.out.ok 32 (by decide)
      have f32 := S5.out.pb.fz 32
      have S6 : Aside0 (PS w (w8.setCell ⟨w.heap.size, 32, none⟩ (.int .i64 (getV b 42 2))) (some ad) b { m with no := cut2 b 24 12, pr := getV b 36 1, po := getV b 40 2, wp := getV b 42 2 }) := ⟨S5.out.put (set_fr _ _ _ _) (S5.out.pb.wp_ S5.out.ok _) ⟨HM.out.cl, L12.out, HM.out.wa, HM.out.fa, HM.out.os⟩⟩
      clear S5
      go_upto_region 8 with fail
      clear k32 f32
      show Code.wp _ _ _ _ (w8.setCell ⟨w.heap.size, 32, none⟩ (.int .i64 (getV b 42 2)))
      generalize w8.setCell ⟨w.heap.size, 32, none⟩ (.int .i64 (getV b 42 2)) = w9 at *
      go_wp2_with fail
      refine (address_calls (some ad) c b 44 w9 S6.out.c HL.out.1 (by have := HL.out; omega) (by have := HL.out; omega)).mono ?_
      rintro e w10 ⟨rfl, hb10⟩
      have S7 := Aside0.mk (S6.out.below hb10)
      have L44 := Aside0.mk (cut2_len b 44 16 (by have := HL.out; omega))
      have Z44 : Aside0 ((e8 (cut2 b 44 16)).toArray.size = 16) := ⟨by rw [List.size_toArray, encs_length, L44.out]⟩
      clear hb10 S6
      have S8 : Aside0 (PS w (w10.setCells w.heap.size 33 (e8 (cut2 b 44 16))) (some ad) b (midM b m)) := ⟨S7.out.put (sets_fr _ _ _ _) (S7.out.pb.wa_ S7.out.ok _ L44.out) ⟨HM.out.cl, L12.out, L44.out, HM.out.fa, HM.out.os⟩⟩
      unfold arr
      go_upto_region 9 with (refine wpList_store_mid rfl 25 (.tmp 31) (.tmp 30) rfl w.heap.size 33 (e8 (cut2 b 44 16)).toArray rfl rfl (by rw [Z44.out]; exact S7.out.pb.there S7.out.ok 33 16 (by decide)) (by rw [Z44.out]; exact info25) (all_oneCell_toArray (one_u8 _)) ?_)
      show Code.wp _ _ _ _ (w10.setCells w.heap.size 33 (e8 (cut2 b 44 16)))
      generalize w10.setCells w.heap.size 33 (e8 (cut2 b 44 16)) = w11 at *
      clear S7 L44
      have k0 : w11.cell? ⟨w.heap.size, 0, none⟩ = some (.int .i64 m.op) := S8.out.pb.kop
      by_cases hop : m.op = 2
      · have hb2 : (m.op == 2) = true := by simpa using hop
        have HPM : Aside0 (partM b m = { midM b m with fp := getV b 60 2, fa := cut2 b 64 16 }) := ⟨by unfold partM; rw [if_pos hop]⟩
        have H80 : Aside0 (80 ≤ b.length) := ⟨HL.out.2.2.2 hop⟩
        clear hop
        go_wp2_with fail
        refine (word_calls (some ad) c b HB.out 60 w11 S8.out.c HL.out.1 (by decide) (by have := H80.out; omega)).mono ?_
        rintro e w12 ⟨rfl, hb12⟩
        have S9 := Aside0.mk (S8.out.below hb12)
        clear hb12 S8 k0
        obtain ⟨x49, k49⟩ := S9.out.pb.some_ S9.out.ok 49 (by decide)
        have f49 := S9.out.pb.fz 49
        have S10 : Aside0 (PS w (w12.setCell ⟨w.heap.size, 49, none⟩ (.int .i64 (getV b 60 2))) (some ad) b { midM b m with fp := getV b 60 2 }) := ⟨S9.out.put (set_fr _ _ _ _) (S9.out.pb.fp_ S9.out.ok _) ⟨S9.out.ok.cl, S9.out.ok.no, S9.out.ok.wa, S9.out.ok.fa, S9.out.ok.os⟩⟩
        clear S9
        go_upto_region 11 with fail
        clear k49 f49
        show Code.wp _ _ _ _ (w12.setCell ⟨w.heap.size, 49, none⟩ (.int .i64 (getV b 60 2)))
        generalize w12.setCell ⟨w.heap.size, 49, none⟩ (.int .i64 (getV b 60 2)) = w13 at *
        go_wp2_with fail
        refine (address_calls (some ad) c b 64 w13 S10.out.c HL.out.1 (by have := HL.out; omega) (by have := H80.out; omega)).mono ?_
        rintro e w14 ⟨rfl, hb14⟩
        have S11 := Aside0.mk (S10.out.below hb14)
        have L64 := Aside0.mk (cut2_len b 64 16 (by have := H80.out; omega))
        have Z64 : Aside0 ((e8 (cut2 b 64 16)).toArray.size = 16) := ⟨by rw [List.size_toArray, encs_length, L64.out]⟩
        clear hb14 S10
        have S12 : Aside0 (PS w (w14.setCells w.heap.size 50 (e8 (cut2 b 64 16))) (some ad) b { midM b m with fp := getV b 60 2, fa := cut2 b 64 16 }) := ⟨S11.out.put (sets_fr _ _ _ _) (S11.out.pb.fa_ S11.out.ok _ L64.out) ⟨S11.out.ok.cl, S11.out.ok.no, S11.out.ok.wa, L64.out, S11.out.ok.os⟩⟩
        unfold arr
        go_upto_region 12 with (refine wpList_store_mid rfl 25 (.tmp 40) (.tmp 39) rfl w.heap.size 50 (e8 (cut2 b 64 16)).toArray rfl rfl (by rw [Z64.out]; exact S11.out.pb.there S11.out.ok 50 16 (by decide)) (by rw [Z64.out]; exact info25) (all_oneCell_toArray (one_u8 _)) ?_)
        show Code.wp _ _ _ _ (w14.setCells w.heap.size 50 (e8 (cut2 b 64 16)))
        generalize w14.setCells w.heap.size 50 (e8 (cut2 b 64 16)) = w15 at *
        clear S11 L64
        have GR := Aside0.mk (range_blk (cs := AM.cells ({ midM b m with fp := getV b 60 2, fa := cut2 b 64 16 })) S12.out.pb)
        have LNE := Aside0.mk (AM.len S12.out.ok)
        go_wp2_with (first
          | (refine wpList_load_mid rfl 29 (.tmp 2) rfl w.heap.size 0 rfl (AM.cells ({ midM b m with fp := getV b 60 2, fa := cut2 b 64 16 })) _ GR.out Try.underlying29 rfl (by rw [LNE.out]; exact info29) ?_)
          | (refine wp_fill rfl 29 (.tmp 4) (.tmp 41) rfl (w.heap.size + 1) _ 29 (AM.cells ({ midM b m with fp := getV b 60 2, fa := cut2 b 64 16 })) S12.out.q rfl rfl (by rw [LNE.out, zc29_size]) (by rw [info29, zc29_size]) (AM.one S12.out.ok) ?_; intro wz hxz hfz; have XZ := Aside0.mk hxz; have FZ := Aside0.mk hfz; clear hxz hfz))
        refine bodyPost_ret (results_cell_row rfl _ _ (w.heap.size + 1) 29 _ (0, 0) _ rfl XZ.out Try.underlying29 rfl (by rw [info29, List.size_toArray, LNE.out])) rfl ⟨by rw [HPM.out], below_fr S12.out.low S12.out.low.size FZ.out (fun k hk => by omega)⟩
      · have hb2 : (m.op == 2) = false := by simpa using hop
        have HPM : Aside0 (partM b m = midM b m) := ⟨by unfold partM; rw [if_neg hop]⟩
        clear hop
        have GR := Aside0.mk (range_blk (cs := AM.cells (midM b m)) S8.out.pb)
        have LNE := Aside0.mk (AM.len S8.out.ok)
        go_wp2_with (first
          | (refine wpList_load_mid rfl 29 (.tmp 2) rfl w.heap.size 0 rfl (AM.cells (midM b m)) _ GR.out Try.underlying29 rfl (by rw [LNE.out]; exact info29) ?_)
          | (refine wp_fill rfl 29 (.tmp 4) (.tmp 41) rfl (w.heap.size + 1) _ 29 (AM.cells (midM b m)) S8.out.q rfl rfl (by rw [LNE.out, zc29_size]) (by rw [info29, zc29_size]) (AM.one S8.out.ok) ?_; intro wz hxz hfz; have XZ := Aside0.mk hxz; have FZ := Aside0.mk hfz; clear hxz hfz))
        refine bodyPost_ret (results_cell_row rfl _ _ (w.heap.size + 1) 29 _ (0, 0) _ rfl XZ.out Try.underlying29 rfl (by rw [info29, List.size_toArray, LNE.out])) rfl ⟨by rw [HPM.out], below_fr S8.out.low S8.out.low.size FZ.out (fun k hk => by omega)⟩
    | succ q =>
      have hlt : (i : Int) < 12 := by have := Hi.out; omega
      have hlb := decide_eq_true hlt
      have hi12 : (0 : Int) ≤ (i : Int) ∧ (i : Int) < 12 := ⟨by omega, hlt⟩
      have hiN : i < 12 := by omega
      obtain ⟨j, hj⟩ : ∃ j, 24 + i = j := ⟨_, rfl⟩
      obtain ⟨ad, e1, cb⟩ := at_one CC.out (j : Int) (by omega) (by have := HL.out; omega)
      subst e1
      rw [Int.toNat_natCast] at cb
      have hsw : wrap64 (24 + (i : Int)) = (j : Int) := by rw [wrap_id _ (by omega)]; omega
      have hsw2 : 24 + (i : Int) = (j : Int) := by omega
      have hix : (0 : Int) ≤ (j : Int) ∧ (j : Int) < (b.length : Int) := by have := HL.out; omega
      have X4 := Aside0.mk (PP.out.no1 OO.out (cut2 b 24 12) L12.out i hiN rfl)
      rw [cut2_rd b 24 12 i hiN (by have := HL.out; omega), hj] at X4
      obtain ⟨x0, hx0⟩ := PP.out.some_ OO.out (18 + i) (by omega)
      have fz := PP.out.fz (18 + i)
      have Y4 : Aside0 ((wr.setCell ⟨w.heap.size, 18 + i, none⟩ (.int .u8 (rd b (j : Int)))).heap[w.heap.size + 1]? = some (.cells zc29 29 (0, 0))) := ⟨blk_far QQ.out (by simp) _⟩
      have B4 := Aside0.mk (BB.out.setCell (p := ⟨w.heap.size, 18 + i, none⟩) (Nat.le_refl _) (.int .u8 (rd b (j : Int))))
      have C4 := Aside0.mk (C_fr CC.out (set_fr wr w.heap.size (18 + i) (.int .u8 (rd b (j : Int)))) (by have := AB.out ad rfl; omega))
      have O4 : Aside0 (({ m with no := arrI (cut2 b 24 12) (i + 1) } : AM).ok) := ⟨HM.out.cl, by rw [arrI_len _ _ (by rw [L12.out]; omega), L12.out], HM.out.wa, HM.out.fa, HM.out.os⟩
      clear hj
      generalize rd b (j : Int) = x at *
      go_wp2
      go_roundg q
      case measure => omega
      case rel => exact ⟨i + 1, by go_num, ⟨by have := Hi.out; omega⟩, X4, O4, B4, Y4, C4, AB⟩
end Go.Proofs.Ytpjkbokojlpjoaa.Ak
