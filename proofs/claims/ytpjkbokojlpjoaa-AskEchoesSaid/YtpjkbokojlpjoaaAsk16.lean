/- ask.Read: any request. -/
import Derived.Test.YtpjkbokojlpjoaaAsk15
namespace Go.Proofs.Ytpjkbokojlpjoaa.Ak
open Go.RowKit Go.Proofs.YtpjkbokojlpjoaaW.PrintWords Go.Proofs.YtpjkbokojlpjoaaW.PrintLast Go.Proofs.YtpjkbokojlpjoaaW.PrintMore Go.Proofs.Ytpjkbokojlpjoaa.Bs Go.Proofs.Ytpjkbokojlpjoaa.Fr Go.Proofs.Ytpjkbokojlpjoaa.Oct
open Go.Proofs.Ytpjkbokojlpjoaa.PAskReads (S45 k45 z45 k45_open k45_openM k45_mk k45_mkM info45 at_T45 rd_T45)
set_option linter.unusedVariables false
set_option linter.unusedSimpArgs false

/-- A request's own part may be read. -/
theorem own_good (g : Nat) (A : Option Addr) (c : Nat) (m : AM) (hm : m.ok) (b : List Int) (w : World) (h : RB w g A b.length c m) (hC : Kd.C (Kd.int .u8) w A b.length b) (hc : b.length ≤ c) (h2 : 2 ≤ b.length) (hmx : b.length ≤ 1100) (hB : Byt b) (hg : ∀ ad, A = some ad → ad.block ≠ g) (hs : (sizeM (rd b 1)).2 = true) (hl : ¬ (b.length : Int) < 24 + (sizeM (rd b 1)).1) :
    Calls Try.prog 24 #[.pointer (some ⟨g, 0, none⟩)] w fun e w' => e = .returned (.tuple #[]) ∧ RB w' g A b.length c (m3 b m) ∧ Fr w w' (fun k => k = g) := by
  unfold sizeM at hs hl
  by_cases h0 : rd b 1 = 0
  · exact own_0 g A c m hm b w h hC hc hmx hB hg h0 (by rw [if_pos h0] at hl; simp at hl; omega)
  · rw [if_neg h0] at hs hl
    by_cases h1 : rd b 1 = 1
    · exact own_1 g A c m hm b w h hC hc hmx hB hg h1 (by rw [if_pos h1] at hl; simp at hl; omega)
    · rw [if_neg h1] at hs hl
      by_cases h22 : rd b 1 = 2
      · exact own_2 g A c m hm b w h hC hc hmx hB hg h22 (by rw [if_pos h22] at hl; simp at hl; omega)
      · rw [if_neg h22] at hs; cases hs
theorem m3_op (b : List Int) (m : AM) : (m3 b m).op = rd b 1 ∧ (m3 b m).os = m.os := by
  unfold m3
  by_cases h0 : rd b 1 = 0
  · by_cases h2 : rd b 1 = 2
    · omega
    · simp [h0]
  · by_cases h2 : rd b 1 = 2
    · simp [h2]
    · simp [h0, h2]
/-- What a request's first result is; 0: it is read. -/
def readC (b : List Int) (fm : Int) : Int :=
  if ¬ headC b = 0 then headC b else if ¬ (mapB (cut2 b 8 16) = true ∧ mapV (cut2 b 8 16) = fm) then 12 else if (sizeM (rd b 1)).2 = false then 4 else if (b.length : Int) < 24 + (sizeM (rd b 1)).1 then 3 else outO b (rd b 1)
def RdBad (w : World) (x : Int) (e : Ending) (w' : World) : Prop := e = .returned (.tuple #[az.val, .int .i64 x, .bool true]) ∧ Below w.heap.size w w'
def RdPost (w : World) (b : List Int) (fm : Int) (e : Ending) (w' : World) : Prop :=
  (¬ readC b fm = 0 ∧ RdBad w (readC b fm) e w') ∨ (readC b fm = 0 ∧ ∃ L v, cutM (b.length + 1) b (24 + (sizeM (rd b 1)).1.toNat) [] = some L ∧ e = .returned (.tuple #[AM.val { m3 b (m1 b az) with os := v }, .int .i64 0, .bool true]) ∧ k45.R 45 w' w.heap.size (fun _ => True) v (keepL L) ∧ Below w.heap.size w w')
theorem rd_bad {w w' : World} {b : List Int} {fm : Int} (x : Int) (h : readC b fm = x) (hx : ¬ x = 0) (hb : Below w.heap.size w w') : RdPost w b fm (.returned (.tuple #[.agg az.cells.toArray, .int .i64 x, .bool true])) w' :=
  .inl ⟨by rw [h]; exact hx, by rw [h]; exact ⟨rfl, hb⟩⟩
theorem ty29 : ∀ q, q ∈ 45 :: k45.E → q ≠ 29 := by
  intro q hq
  have : q ∈ ([45, 5] : List Nat) := hq
  simp at this
  rcases this with rfl | rfl <;> decide
theorem ty3 : ∀ q, q ∈ 45 :: k45.E → q ≠ 3 := by
  intro q hq
  have : q ∈ ([45, 5] : List Nat) := hq
  simp at this
  rcases this with rfl | rfl <;> decide
theorem ty4 : ∀ q, q ∈ 45 :: k45.E → q ≠ 4 := by
  intro q hq
  have : q ∈ ([45, 5] : List Nat) := hq
  simp at this
  rcases this with rfl | rfl <;> decide
/-- What stays in the loop. -/
structure Cm (w0 wr : World) (g : Nat) (fm : Int) : Prop where
  res : Res wr w0.heap.size az 0 false
  from_ : wr.heap[w0.heap.size]? = some (.cells #[.int .u32 fm] 23 (0, 0))
  ptr : wr.heap[g + 1]? = some (.cells #[Value.pointer (some ⟨g, 0, none⟩)] 50 (0, 0))
  parts : wr.heap[g + 1 + 1]? = some (.cells (parts w0.heap.size g) 1 (0, 0))
  low : Below w0.heap.size w0 wr
  hg : w0.heap.size + 4 ≤ g
theorem Cm.fr {w0 wr w' : World} {g : Nat} {fm : Int} (h : Cm w0 wr g fm) (k : Fr wr w' (fun k => k = g)) : Cm w0 w' g fm :=
  ⟨h.res.fr k (fun b hb => by have := h.hg; omega), k.blk h.from_ (by have := h.hg; omega), k.blk h.ptr (by omega), k.blk h.parts (by omega), below_fr h.low h.low.size k (fun b hb => by have := h.hg; omega), h.hg⟩
theorem Cm.below {w0 wr w' : World} {g : Nat} {fm : Int} (h : Cm w0 wr g fm) (k : Below wr.heap.size wr w') : Cm w0 w' g fm :=
  ⟨h.res.below k, blk_below h.from_ k, blk_below h.ptr k, blk_below h.parts k, below_step h.low k, h.hg⟩
def St (b : List Int) (fm : Int) (w0 : World) (g : Nat) (A : Option Addr) (c : Nat) : Nat → World → Prop
  | 0, w => RB w g A b.length c az
  | 1, w => RB w g A b.length c (m1 b az) ∧ headC b = 0
  | 2, w => RB w g A b.length c (m1 b az) ∧ headC b = 0 ∧ (mapB (cut2 b 8 16) = true ∧ mapV (cut2 b 8 16) = fm)
  | 3, w => RB w g A b.length c (m3 b (m1 b az)) ∧ headC b = 0 ∧ (mapB (cut2 b 8 16) = true ∧ mapV (cut2 b 8 16) = fm) ∧ (sizeM (rd b 1)).2 = true ∧ ¬ (b.length : Int) < 24 + (sizeM (rd b 1)).1
  | _, w => readC b fm = 0 ∧ ∃ L v, cutM (b.length + 1) b (24 + (sizeM (rd b 1)).1.toNat) [] = some L ∧ RB w g A b.length c { m3 b (m1 b az) with os := v } ∧ k45.R 45 w w0.heap.size (fun _ => True) v (keepL L)
theorem headC_len (b : List Int) (h : headC b = 0) : rd b 0 = 2 ∧ 24 ≤ b.length ∧ b.length ≤ 1100 ∧ b.length % 4 = 0 := by
  unfold headC at h
  split at h
  · cases h
  · split at h
    · cases h
    · rename_i h1 h2
      refine ⟨by simpa using h1, by omega, by omega, by omega⟩
/-- What a good result says. -/
theorem readC_good (b : List Int) (fm : Int) (h : readC b fm = 0) : headC b = 0 ∧ (mapB (cut2 b 8 16) = true ∧ mapV (cut2 b 8 16) = fm) ∧ (sizeM (rd b 1)).2 = true ∧ ¬ (b.length : Int) < 24 + (sizeM (rd b 1)).1 ∧ outO b (rd b 1) = 0 := by
  unfold readC at h
  by_cases h1 : headC b = 0
  · rw [if_neg (by simpa using h1)] at h
    by_cases h2 : mapB (cut2 b 8 16) = true ∧ mapV (cut2 b 8 16) = fm
    · rw [if_neg (by simpa using h2)] at h
      by_cases h3 : (sizeM (rd b 1)).2 = false
      · rw [if_pos h3] at h; cases h
      · rw [if_neg h3] at h
        by_cases h4 : (b.length : Int) < 24 + (sizeM (rd b 1)).1
        · rw [if_pos h4] at h; cases h
        · rw [if_neg h4] at h
          exact ⟨h1, h2, by simpa using h3, h4, h⟩
    · rw [if_pos (by simpa using h2)] at h; cases h
  · rw [if_pos (by simpa using h1)] at h; exact absurd h h1
theorem okm {fm : Int} (b : List Int) {L : List S45} (v : Value) (hc : cutM (b.length + 1) b (24 + (sizeM (rd b 1)).1.toNat) [] = some L) (hv : v.oneCell' = true) (h : headC b = 0 ∧ (mapB (cut2 b 8 16) = true ∧ mapV (cut2 b 8 16) = fm) ∧ (sizeM (rd b 1)).2 = true ∧ ¬ (b.length : Int) < 24 + (sizeM (rd b 1)).1 ∧ outO b (rd b 1) = 0) : ({ m3 b (m1 b az) with os := v } : AM).ok := by
  have h24 := (headC_len b h.1).2.1
  have h3 := m3_ok b (m1_ok b h24 az_ok) (by have := h.2.2.2.1; omega) h.2.2.1
  exact ⟨h3.cl, h3.no, h3.wa, h3.fa, hv⟩
set_option maxHeartbeats 4000000 in
set_option maxRecDepth 100000 in
theorem Read_calls (A : Option Addr) (c : Nat) (b : List Int) (fm : Int) (w : World) (hC : Kd.C (Kd.int .u8) w A b.length b) (hl : 2 ≤ b.length) (hcc : b.length ≤ c) (hB : Byt b) (hb : rd b 1 < 128) :
    Calls Try.prog 9 #[.slice A b.length c, .int .u32 fm] w fun e w' => RdPost w b fm e w' := by
  have HB := Aside0.mk hB
  have HCC := Aside0.mk (And.intro hcc hl)
  have h0 : 0 ≤ rd b 1 := (hB.rd 1).1
  have hmf : ∀ (fn : Fn) (first cap : Array Value) (w : World), (Instr.makeFunc fn first cap).run Try.prog w = .ok (.func fn first cap) w := fun _ _ _ _ => rfl
  have HC := Aside0.mk hC
  obtain ⟨ad, e1, c1⟩ := at_one hC 1 (by omega) (by omega)
  subst e1
  have c1' : (W0 w fm).cell? ⟨ad.block, ad.off + 1, none⟩ = some (.int .u8 (rd b 1)) := pw_cell_below (W0_below w fm) c1
  have hn1 : (0 : Int) ≤ 1 ∧ (1 : Int) < (b.length : Int) := ⟨by omega, by omega⟩
  have hand := and_128 (rd b 1) h0 hb
  have hlt : ¬ (b.length : Int) < 2 := by omega
  have hlb := decide_eq_false hlt
  have h29 := z29
  have h52 := z52
  have hne : ¬ zc52 = #[] := zc52_ne
  have hset := zc52_set
  unfold W0 at c1'
  have CB0 : Aside0 (w.cell? ⟨ad.block, ad.off + 1, none⟩ = some (.int .u8 (rd b 1))) := ⟨c1⟩
  clear hC c1
  go_enter_defers Try.func9, Try.ntmps9
  go_upto_region 3 with fail
  clear c1' hn1 hand hlt hlb h29
  show Code.wp _ _ _ _ (W0 w fm)
  have X0 := Aside0.mk (W0_res w fm)
  have F0 := Aside0.mk (W0_from w fm)
  have B0 := Aside0.mk (W0_below w fm)
  have S0 := Aside0.mk (W0_size w fm)
  generalize W0 w fm = w1 at *
  go_upto_region 7 with fail
  show Code.wp _ _ _ _ (W1 w1 w.heap.size (some ad) b.length c)
  have R1 := Aside0.mk (W1_rb w1 w.heap.size (some ad) b.length c)
  have B1 := Aside0.mk (below_step B0.out (W1_below w1 w.heap.size (some ad) b.length c))
  have X1 := Aside0.mk (X0.out.below (W1_below w1 w.heap.size (some ad) b.length c))
  have F1 : Aside0 ((W1 w1 w.heap.size (some ad) b.length c).heap[w.heap.size]? = some (.cells #[.int .u32 fm] 23 (0, 0))) := ⟨blk_below F0.out (W1_below w1 w.heap.size (some ad) b.length c)⟩
  have PT1 := Aside0.mk (W1_ptr w1 w.heap.size (some ad) b.length c)
  have PA1 := Aside0.mk (W1_parts w1 w.heap.size (some ad) b.length c)
  generalize W1 w1 w.heap.size (some ad) b.length c = w2 at *
  have C3 := Aside0.mk (Kd.C_below HC.out B1.out)
  have CM : Aside0 (Cm w w2 w1.heap.size fm) := ⟨⟨X1.out, F1.out, PT1.out, PA1.out, B1.out, by rw [S0.out]; exact Nat.le_refl _⟩⟩
  have HG : Aside0 (∀ ad', some ad = some ad' → ad'.block ≠ w1.heap.size) := ⟨fun ad' e => by
    cases e
    have h1 := World.block_lt_of_cell? _ _ CB0.out
    have h2 : (⟨ad.block, ad.off + 1, none⟩ : Addr).block < w.heap.size := h1
    have h3 : ad.block < w.heap.size := h2
    have h4 := S0.out
    omega⟩
  generalize w1.heap.size = g at *
  clear X0 F0 B0 S0 B1 X1 F1 PT1 PA1 HC hl h0 hb CB0 h52 hne hset hcc hB
  go_loopg [36] 4 (fun q v36 wr => ∃ i : Nat, v36 = .int .i64 (i : Int) ∧ Aside0 (i + q = 4) ∧ Aside0 (Cm w wr g fm) ∧ Aside0 (Kd.C (Kd.int .u8) wr (some ad) b.length b) ∧ Aside0 (St b fm w g (some ad) c i wr))
  case atStart => exact ⟨0, rfl, ⟨rfl⟩, CM, C3, ⟨R1.out⟩⟩
  case round =>
    clear CM R1 C3
    obtain ⟨i, rfl, Hi, CM, CC, SS⟩ := hrel
    have hgk : gk = 0 ∨ gk = 1 ∨ gk = 2 ∨ gk = 3 ∨ gk = 4 := by have := Hi.out; omega
    rcases hgk with rfl | rfl | rfl | rfl | rfl
    · have hi : i = 4 := by have := Hi.out; omega
      subst hi
      obtain ⟨HRC0, L, v, hcut, hRB, hKR⟩ := SS.out
      have HRC := Aside0.mk HRC0
      have HCU := Aside0.mk hcut
      have RBW := Aside0.mk hRB
      have KR := Aside0.mk hKR
      have kp : wr.cell? ⟨g + 1, 0, none⟩ = some (Value.pointer (some ⟨g, 0, none⟩)) := blk_cell CM.out.ptr 0
      obtain ⟨_, _, ev⟩ := Kd.R_slice KR.out
      have OK2 : Aside0 (({ m3 b (m1 b az) with os := v } : AM).ok) := ⟨by
        have hlen := AM.len az_ok
        have h1 := hRB
        exact okm b v hcut (by rw [ev]; rfl) (readC_good b fm HRC0)⟩
      have GR := Aside0.mk RBW.out.rall
      have LN := Aside0.mk (AM.len OK2.out)
      clear hcut hRB hKR HRC0 SS ev
      go_wp2_with (first
        | (refine wpList_load_mid rfl 29 (.tmp 45) rfl g 1 rfl (AM.cells { m3 b (m1 b az) with os := v }) _ GR.out Try.underlying29 rfl (by rw [LN.out]; exact info29) ?_)
        | (refine wp_fill rfl 29 (.tmp 4) (.tmp 46) rfl (w.heap.size + 1) _ 29 (AM.cells { m3 b (m1 b az) with os := v }) CM.out.res.ask rfl rfl (by rw [LN.out, List.size_toArray, AM.len az_ok]) (by rw [info29, List.size_toArray, AM.len az_ok]) (AM.one OK2.out) ?_; intro w3 hx3 hf3; have R3 := Aside0.mk (Res.after CM.out.res hx3 hf3); have F3 := Aside0.mk hf3; have k5 := R3.out.k5; have f5 := R3.out.f5; have k6 := R3.out.k6; have f6 := R3.out.f6; clear hx3 hf3))
      have KR3 : Aside0 (k45.R 45 w3 w.heap.size (fun _ => True) v (keepL L)) := ⟨R_frT KR.out F3.out (fun k hk _ => by subst hk; exact ⟨_, _, CM.out.res.ask, ty29⟩)⟩
      have B3 : Aside0 (Below w.heap.size w w3) := ⟨below_fr CM.out.low CM.out.low.size F3.out (fun k hk => by omega)⟩
      refine leaves_cons (f := 20) (args := #[.pointer (some ⟨w.heap.size + 1, 0, none⟩), .pointer (some ⟨w.heap.size + 1 + 1, 0, none⟩), .pointer (some ⟨w.heap.size + 1 + 1 + 1, 0, none⟩)]) (by simp) (by simp [go_sem]) ?_
      refine (idle_calls w.heap.size _).mono ?_
      rintro e u' w9 ⟨rfl, rfl, rfl⟩
      have R9 := R3.out.set 0 true
      refine ⟨_, results_ask rfl _ _ (w.heap.size + 1) (w.heap.size + 1 + 1) (w.heap.size + 1 + 1 + 1) (AM.cells { m3 b (m1 b az) with os := v }) _ _ _ _ rfl rfl rfl R9.ask LN.out R9.k5 R9.k6, .inr ⟨HRC.out, L, v, HCU.out, rfl, ?_, ?_⟩⟩
      · exact Kd.R_set (Kd.R_set KR3.out R3.out.code ty3 0 (.int .i64 0)) (blk_far R3.out.is (by simp) _) ty4 0 (.bool true)
      · exact (B3.out.setCell (by show w.heap.size ≤ w.heap.size + 1 + 1; omega) _).setCell (by show w.heap.size ≤ w.heap.size + 1 + 1 + 1; omega) _
    · have hi : i = 3 := by have := Hi.out; omega
      subst hi
      obtain ⟨hRB, hh, hcl, hs, hn⟩ := SS.out
      obtain ⟨hb0, h24, h11, h4⟩ := headC_len b hh
      have RBW := Aside0.mk hRB
      have HH := Aside0.mk (And.intro hh (And.intro hcl (And.intro hs hn)))
      have HL := Aside0.mk (And.intro h24 h11)
      have O3 := Aside0.mk (m3_ok b (m1_ok b h24 az_ok) (by omega) hs)
      have HOP := Aside0.mk (m3_op b (m1 b az))
      clear hRB hh hcl hs hn hb0 h24 h11 h4 SS
      have kp : wr.cell? ⟨g + 1 + 1, 3, none⟩ = some (Value.func (Fn.func 25) #[Value.pointer (some ⟨g, 0, none⟩)] #[]) := blk_cell CM.out.parts 3
      go_wp2_with fail
      refine (options_calls g (some ad) c _ O3.out HOP.out.2 b _ RBW.out CC.out HCC.out.1 HL.out.2 HB.out (by rw [HOP.out.1]; exact HH.out.2.2.1) (by rw [HOP.out.1]; have := HH.out.2.2.2; omega)).mono ?_
      rintro e w3 ⟨hf, ⟨hne, he⟩ | ⟨hz, rfl, L, v, hcut, hrb, hkr⟩⟩
      · rw [HOP.out.1] at hne he
        have HRC : Aside0 (readC b fm = outO b (rd b 1)) := ⟨by unfold readC; rw [if_neg (by simpa using HH.out.1), if_neg (by simpa using HH.out.2.1), if_neg (by simp [HH.out.2.2.1]), if_neg (by have := HH.out.2.2.2; omega)]⟩
        have HNZ := Aside0.mk hne
        have CM2 := Aside0.mk (CM.out.fr hf)
        unfold thrown at he
        subst he
        clear hf hne
        go_wp2
        refine leaves_cons (f := 20) (args := #[.pointer (some ⟨w.heap.size + 1, 0, none⟩), .pointer (some ⟨w.heap.size + 1 + 1, 0, none⟩), .pointer (some ⟨w.heap.size + 1 + 1 + 1, 0, none⟩)]) (by simp) (by simp [go_sem]) ?_
        refine (catch_calls w.heap.size az 0 false (outO b (rd b 1)) _ CM2.out.res az_ok).mono ?_
        rintro e u' w9 ⟨rfl, rfl, hr, hb9⟩
        exact ⟨_, results_ask rfl _ _ (w.heap.size + 1) (w.heap.size + 1 + 1) (w.heap.size + 1 + 1 + 1) az.cells _ _ _ _ rfl rfl rfl hr.ask (AM.len az_ok) hr.k5 hr.k6, rd_bad (outO b (rd b 1)) HRC.out (by first | decide | assumption | exact HNZ.out) (CM2.out.low.trans hb9)⟩
      · rw [HOP.out.1] at hz hcut
        have HRC : readC b fm = 0 := by unfold readC; rw [if_neg (by simpa using HH.out.1), if_neg (by simpa using HH.out.2.1), if_neg (by simp [HH.out.2.2.1]), if_neg (by have := HH.out.2.2.2; omega)]; exact hz
        have CM2 := Aside0.mk (CM.out.fr hf)
        have CC2 := Aside0.mk (C_fr CC.out hf (HG.out ad rfl))
        have SS2 : Aside0 (St b fm w g (some ad) c 4 w3) := ⟨⟨HRC, L, v, hcut, hrb, Kd.R_lower hkr CM.out.low.size⟩⟩
        clear hf hz hcut hrb hkr HRC
        go_wp2_with fail
        go_roundg 0
        case measure => omega
        case rel => exact ⟨4, by first | rfl | go_num, ⟨rfl⟩, CM2, CC2, SS2⟩
    · have hi : i = 2 := by have := Hi.out; omega
      subst hi
      obtain ⟨hRB, hh, hcl⟩ := SS.out
      obtain ⟨hb0, h24, h11, h4⟩ := headC_len b hh
      have RBW := Aside0.mk hRB
      have HH := Aside0.mk (And.intro hh hcl)
      have HL := Aside0.mk (And.intro h24 h11)
      have O1 := Aside0.mk (m1_ok b h24 az_ok)
      clear hRB hh hcl hb0 h24 h11 h4 SS
      have kp : wr.cell? ⟨g + 1 + 1, 2, none⟩ = some (Value.func (Fn.func 24) #[Value.pointer (some ⟨g, 0, none⟩)] #[]) := blk_cell CM.out.parts 2
      by_cases hs : (sizeM (rd b 1)).2 = true
      · by_cases hn : (b.length : Int) < 24 + (sizeM (rd b 1)).1
        · have HRC : Aside0 (readC b fm = 3) := ⟨by unfold readC; rw [if_neg (by simpa using HH.out.1), if_neg (by simpa using HH.out.2), if_neg (by simp [hs]), if_pos hn]⟩
          have HS := Aside0.mk (And.intro hs hn)
          clear hs hn
          go_wp2_with fail
          refine (own_len g (some ad) c _ O1.out b _ RBW.out CC.out HCC.out.2 HB.out HS.out.1 HS.out.2).mono ?_
          rintro e w3 ⟨he, hf⟩
          have CM2 := Aside0.mk (CM.out.fr hf)
          unfold thrown at he
          subst he
          clear hf
          go_wp2
          refine leaves_cons (f := 20) (args := #[.pointer (some ⟨w.heap.size + 1, 0, none⟩), .pointer (some ⟨w.heap.size + 1 + 1, 0, none⟩), .pointer (some ⟨w.heap.size + 1 + 1 + 1, 0, none⟩)]) (by simp) (by simp [go_sem]) ?_
          refine (catch_calls w.heap.size az 0 false (3) _ CM2.out.res az_ok).mono ?_
          rintro e u' w9 ⟨rfl, rfl, hr, hb9⟩
          exact ⟨_, results_ask rfl _ _ (w.heap.size + 1) (w.heap.size + 1 + 1) (w.heap.size + 1 + 1 + 1) az.cells _ _ _ _ rfl rfl rfl hr.ask (AM.len az_ok) hr.k5 hr.k6, rd_bad (3) HRC.out (by first | decide | assumption | exact HNZ.out) (CM2.out.low.trans hb9)⟩
        · have HS := Aside0.mk (And.intro hs hn)
          clear hs hn
          go_wp2_with fail
          refine (own_good g (some ad) c _ O1.out b _ RBW.out CC.out HCC.out.1 HCC.out.2 HL.out.2 HB.out HG.out HS.out.1 (by have := HS.out.2; omega)).mono ?_
          rintro e w3 ⟨rfl, hrb, hf⟩
          have CM2 := Aside0.mk (CM.out.fr hf)
          have CC2 := Aside0.mk (C_fr CC.out hf (HG.out ad rfl))
          have SS2 : Aside0 (St b fm w g (some ad) c 3 w3) := ⟨⟨hrb, HH.out.1, HH.out.2, HS.out.1, by have := HS.out.2; omega⟩⟩
          clear hf hrb
          go_wp2_with fail
          go_roundg 1
          case measure => omega
          case rel => exact ⟨3, by first | rfl | go_num, ⟨rfl⟩, CM2, CC2, SS2⟩
      · have hs' : (sizeM (rd b 1)).2 = false := by simpa using hs
        have HRC : Aside0 (readC b fm = 4) := ⟨by unfold readC; rw [if_neg (by simpa using HH.out.1), if_neg (by simpa using HH.out.2), if_pos hs']⟩
        have HS := Aside0.mk hs'
        clear hs hs'
        go_wp2_with fail
        refine (own_op g (some ad) c _ O1.out b _ RBW.out CC.out HCC.out.2 HB.out HS.out).mono ?_
        rintro e w3 ⟨he, hf⟩
        have CM2 := Aside0.mk (CM.out.fr hf)
        unfold thrown at he
        subst he
        clear hf
        go_wp2
        refine leaves_cons (f := 20) (args := #[.pointer (some ⟨w.heap.size + 1, 0, none⟩), .pointer (some ⟨w.heap.size + 1 + 1, 0, none⟩), .pointer (some ⟨w.heap.size + 1 + 1 + 1, 0, none⟩)]) (by simp) (by simp [go_sem]) ?_
        refine (catch_calls w.heap.size az 0 false (4) _ CM2.out.res az_ok).mono ?_
        rintro e u' w9 ⟨rfl, rfl, hr, hb9⟩
        exact ⟨_, results_ask rfl _ _ (w.heap.size + 1) (w.heap.size + 1 + 1) (w.heap.size + 1 + 1 + 1) az.cells _ _ _ _ rfl rfl rfl hr.ask (AM.len az_ok) hr.k5 hr.k6, rd_bad (4) HRC.out (by first | decide | assumption | exact HNZ.out) (CM2.out.low.trans hb9)⟩
    · have hi : i = 1 := by have := Hi.out; omega
      subst hi
      obtain ⟨hRB, hh⟩ := SS.out
      obtain ⟨hb0, h24, h11, h4⟩ := headC_len b hh
      have RBW := Aside0.mk hRB
      have HH := Aside0.mk hh
      have O1 := Aside0.mk (m1_ok b h24 az_ok)
      have BY : Aside0 (Byt (m1 b az).cl) := ⟨(HB.out.drop 8).take 16⟩
      clear hRB hh hb0 h24 h11 h4 SS
      have kp : wr.cell? ⟨g + 1 + 1, 1, none⟩ = some (Value.func (Fn.func 21) #[] #[Value.pointer (some ⟨g + 1, 0, none⟩), Value.pointer (some ⟨w.heap.size, 0, none⟩)]) := blk_cell CM.out.parts 1
      by_cases hcl : mapB (cut2 b 8 16) = true ∧ mapV (cut2 b 8 16) = fm
      · have HS := Aside0.mk hcl
        clear hcl
        go_wp2_with fail
        refine (client_good w.heap.size g fm (some ad) _ c (m1 b az) O1.out BY.out _ RBW.out CM.out.ptr CM.out.from_ HS.out.1 HS.out.2).mono ?_
        rintro e w3 ⟨rfl, hb3⟩
        have CM2 := Aside0.mk (CM.out.below hb3)
        have CC2 := Aside0.mk (Kd.C_below CC.out hb3)
        have SS2 : Aside0 (St b fm w g (some ad) c 2 w3) := ⟨⟨RBW.out.below hb3, HH.out, HS.out⟩⟩
        clear hb3
        go_wp2_with fail
        go_roundg 2
        case measure => omega
        case rel => exact ⟨2, by first | rfl | go_num, ⟨rfl⟩, CM2, CC2, SS2⟩
      · have HRC : Aside0 (readC b fm = 12) := ⟨by unfold readC; rw [if_neg (by simpa using HH.out), if_pos hcl]⟩
        have HS := Aside0.mk hcl
        clear hcl
        go_wp2_with fail
        refine (client_bad w.heap.size g fm (some ad) _ c (m1 b az) O1.out BY.out _ RBW.out CM.out.ptr CM.out.from_ HS.out).mono ?_
        rintro e w3 ⟨he, hb3⟩
        have CM2 := Aside0.mk (CM.out.below hb3)
        unfold thrown at he
        subst he
        clear hb3
        go_wp2
        refine leaves_cons (f := 20) (args := #[.pointer (some ⟨w.heap.size + 1, 0, none⟩), .pointer (some ⟨w.heap.size + 1 + 1, 0, none⟩), .pointer (some ⟨w.heap.size + 1 + 1 + 1, 0, none⟩)]) (by simp) (by simp [go_sem]) ?_
        refine (catch_calls w.heap.size az 0 false (12) _ CM2.out.res az_ok).mono ?_
        rintro e u' w9 ⟨rfl, rfl, hr, hb9⟩
        exact ⟨_, results_ask rfl _ _ (w.heap.size + 1) (w.heap.size + 1 + 1) (w.heap.size + 1 + 1 + 1) az.cells _ _ _ _ rfl rfl rfl hr.ask (AM.len az_ok) hr.k5 hr.k6, rd_bad (12) HRC.out (by first | decide | assumption | exact HNZ.out) (CM2.out.low.trans hb9)⟩
    · have hi : i = 0 := by have := Hi.out; omega
      subst hi
      have RBW : Aside0 (RB wr g (some ad) b.length c az) := ⟨SS.out⟩
      clear SS
      have kp : wr.cell? ⟨g + 1 + 1, 0, none⟩ = some (Value.func (Fn.func 23) #[Value.pointer (some ⟨g, 0, none⟩)] #[]) := blk_cell CM.out.parts 0
      by_cases hb0 : rd b 0 = 2
      · by_cases hn : b.length < 24 ∨ 1100 < b.length ∨ ¬ b.length % 4 = 0
        · have HRC : Aside0 (readC b fm = 3) := ⟨by
            have hh : headC b = 3 := by unfold headC; rw [if_neg (by simpa using hb0), if_pos hn]
            unfold readC
            rw [hh, if_pos (by decide)]⟩
          have HS := Aside0.mk (And.intro hb0 hn)
          clear hb0 hn
          go_wp2_with fail
          refine (head_len g (some ad) c az b _ RBW.out CC.out HCC.out.2 HS.out.1 HS.out.2).mono ?_
          rintro e w3 ⟨he, rfl⟩
          unfold thrown at he
          subst he
          go_wp2
          refine leaves_cons (f := 20) (args := #[.pointer (some ⟨w.heap.size + 1, 0, none⟩), .pointer (some ⟨w.heap.size + 1 + 1, 0, none⟩), .pointer (some ⟨w.heap.size + 1 + 1 + 1, 0, none⟩)]) (by simp) (by simp [go_sem]) ?_
          refine (catch_calls w.heap.size az 0 false (3) _ CM.out.res az_ok).mono ?_
          rintro e u' w9 ⟨rfl, rfl, hr, hb9⟩
          exact ⟨_, results_ask rfl _ _ (w.heap.size + 1) (w.heap.size + 1 + 1) (w.heap.size + 1 + 1 + 1) az.cells _ _ _ _ rfl rfl rfl hr.ask (AM.len az_ok) hr.k5 hr.k6, rd_bad (3) HRC.out (by first | decide | assumption | exact HNZ.out) (CM.out.low.trans hb9)⟩
        · have HS : Aside0 (rd b 0 = 2 ∧ 24 ≤ b.length ∧ b.length ≤ 1100 ∧ b.length % 4 = 0) := ⟨by omega⟩
          have HH0 : Aside0 (headC b = 0) := ⟨by unfold headC; rw [if_neg (by simpa using hb0), if_neg hn]⟩
          clear hb0 hn
          go_wp2_with fail
          refine (head_good g (some ad) c az az_ok b _ RBW.out CC.out HCC.out.1 HB.out HG.out HS.out.1 HS.out.2.1 HS.out.2.2.1 HS.out.2.2.2).mono ?_
          rintro e w3 ⟨rfl, hrb, hf⟩
          have CM2 := Aside0.mk (CM.out.fr hf)
          have CC2 := Aside0.mk (C_fr CC.out hf (HG.out ad rfl))
          have SS2 : Aside0 (St b fm w g (some ad) c 1 w3) := ⟨⟨hrb, HH0.out⟩⟩
          clear hf hrb
          go_wp2_with fail
          go_roundg 3
          case measure => omega
          case rel => exact ⟨1, by first | rfl | go_num, ⟨rfl⟩, CM2, CC2, SS2⟩
      · have HRC : Aside0 (readC b fm = 1) := ⟨by unfold readC headC; rw [if_pos hb0]; rfl⟩
        have HS := Aside0.mk hb0
        clear hb0
        go_wp2_with fail
        refine (head_version g (some ad) c az b _ RBW.out CC.out HCC.out.2 HS.out).mono ?_
        rintro e w3 ⟨he, rfl⟩
        unfold thrown at he
        subst he
        go_wp2
        refine leaves_cons (f := 20) (args := #[.pointer (some ⟨w.heap.size + 1, 0, none⟩), .pointer (some ⟨w.heap.size + 1 + 1, 0, none⟩), .pointer (some ⟨w.heap.size + 1 + 1 + 1, 0, none⟩)]) (by simp) (by simp [go_sem]) ?_
        refine (catch_calls w.heap.size az 0 false (1) _ CM.out.res az_ok).mono ?_
        rintro e u' w9 ⟨rfl, rfl, hr, hb9⟩
        exact ⟨_, results_ask rfl _ _ (w.heap.size + 1) (w.heap.size + 1 + 1) (w.heap.size + 1 + 1 + 1) az.cells _ _ _ _ rfl rfl rfl hr.ask (AM.len az_ok) hr.k5 hr.k6, rd_bad (1) HRC.out (by first | decide | assumption | exact HNZ.out) (CM.out.low.trans hb9)⟩
end Go.Proofs.Ytpjkbokojlpjoaa.Ak
