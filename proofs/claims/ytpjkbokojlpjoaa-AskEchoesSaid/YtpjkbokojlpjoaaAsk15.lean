/- ask: the options are read. -/
import Derived.Test.YtpjkbokojlpjoaaAsk14
namespace Go.Proofs.Ytpjkbokojlpjoaa.Ak
open Go.RowKit Go.Proofs.YtpjkbokojlpjoaaW.PrintWords Go.Proofs.YtpjkbokojlpjoaaW.PrintLast Go.Proofs.YtpjkbokojlpjoaaW.PrintMore Go.Proofs.Ytpjkbokojlpjoaa.Bs Go.Proofs.Ytpjkbokojlpjoaa.Fr Go.Proofs.Ytpjkbokojlpjoaa.Oct
open Go.Proofs.Ytpjkbokojlpjoaa.PAskReads (S45 k45 z45 k45_open k45_openM k45_mk k45_mkM info45 at_T45 rd_T45)
set_option linter.unusedVariables false
set_option linter.unusedSimpArgs false

section
variable {P : Program} {ops : Array Oper} {Q : Exit → Act → World → Prop}
/-- A call that panics, in a region that draws its order. -/
theorem goesP_ {oi : Oper} {N : Option Tmp} {a : Act} {w : World} {K : Act → World → Prop} {f : FuncId} {fn : Func} {xs : Array Operand} {ts : Array TypeId} (hf : P.funcs[f]? = some fn) (hname : (fn.name == "runtime.NumGoroutine") = false) (hb : fn.body.isSome = true) (args : Array Value)
    (hw : Region.wanted oi (yielded ops a.tmps) = true) (hN : oi.dst = N) (hop : oi.op = .call { callee := .value (.func f), args := xs, argTypes := ts }) (hargs : xs.map a.eval = args)
    (h : Calls P f args w fun e w' => ∃ ch, e = .panicked ch ∧ Q (.panic ch) a w') : if Region.wanted oi (yielded ops a.tmps) = true then Oper.wp P oi a w K Q else K (a.put N undef) w := by
  have he := enters_ hf hname hb args w
  have hrun : (execOp a.eval oi).run P w = .ok (.enter f args) w := by
    unfold execOp
    simp [hop, resolve, Deferred.ofValue, invoke, Act.eval, hargs, he]
  rw [if_pos hw]
  subst hN
  unfold Oper.wp
  rw [hrun, Oper.upon_enter]
  refine h.mono ?_
  rintro e w' ⟨ch, rfl, hq⟩
  exact hq
end
def bumpF (s : Int → Int) (c : Int) : Int → Int := fun x => if x = c then s c + 1 else s x
/-- What is wrong with options, in order. -/
def wrM (op : Int) : (Int → Int) → List S45 → Int
  | _, [] => 0
  | s, o :: l => if o.f0 ≥ 128 then wrM op s l else if ¬ (1 ≤ o.f0 ∧ o.f0 ≤ 3) then 5 else if op = 0 ∨ (op = 2 ∧ ¬ o.f0 = 1) then 6 else if (s o.f0 + 1 > 1 ∧ ¬ o.f0 = 3) ∨ ¬ (o.f1.length : Int) = longM o.f0 then 6 else wrM op (bumpF s o.f0) l
def keepL (l : List S45) : List S45 := l.filter (fun o => decide (o.f0 < 128))
theorem keepL_snoc (l : List S45) (o : S45) : keepL (l ++ [o]) = if o.f0 < 128 then keepL l ++ [o] else keepL l := by
  unfold keepL
  rw [List.filter_append]
  by_cases h : o.f0 < 128
  · rw [if_pos h]; simp [h]
  · rw [if_neg h]; simp [h]
theorem drop_rd (L : List S45) (i : Nat) (h : i < L.length) : L.drop i = rd_T45 L i :: L.drop (i + 1) := by
  rw [List.drop_eq_getElem_cons h]
  congr 1
  unfold rd_T45
  simp [List.getD_eq_getElem?_getD, List.getElem?_eq_getElem h]
theorem take_rd45 (L : List S45) (i : Nat) (h : i < L.length) : L.take (i + 1) = L.take i ++ [rd_T45 L i] := by
  rw [List.take_succ_eq_append_getElem h]
  congr 2
  unfold rd_T45
  simp [List.getD_eq_getElem?_getD, List.getElem?_eq_getElem h]
def outR (op : Int) : Option (List S45) → Int
  | none => 6
  | some L => wrM op (fun _ => 0) L
def outO (b : List Int) (op : Int) : Int := outR op (cutM (b.length + 1) b (24 + (sizeM op).1.toNat) [])
/-- Rows are as before where blocks of other types were written. -/
theorem R_frT {α : Type} {d : Kd α} {e : Nat} {w w1 : World} {base : Nat} {ok : Nat → Prop} {v : Value} {xs : List α} {F : Nat → Prop} (h : d.R e w base ok v xs) (k : Fr w w1 F) (hF : ∀ b, F b → b < w.heap.size → ∃ t cells, w.heap[b]? = some (.cells cells t (0, 0)) ∧ ∀ q, q ∈ e :: d.E → q ≠ t) : d.R e w1 base ok v xs := by
  refine Kd.R_mono (Kd.R_step (Kd.R_bound h) (fun b hb hlt => ?_)) (fun _ hk => hk.1)
  refine k.2.2 b hlt (fun hf => ?_)
  obtain ⟨t, cells, h1, h2⟩ := hF b hf hlt
  obtain ⟨_, _, _, q, hq, cells', hc⟩ := hb
  rw [h1] at hc
  have e := Option.some.inj hc
  injection e with e1 e2 e3
  exact h2 q hq e2.symm
theorem ty52 : ∀ q, q ∈ 45 :: k45.E → q ≠ 52 := by
  intro q hq
  have : q ∈ ([45, 5] : List Nat) := hq
  simp at this
  rcases this with rfl | rfl <;> decide
theorem ty72 : ∀ q, q ∈ 45 :: k45.E → q ≠ 72 := by
  intro q hq
  have : q ∈ ([45, 5] : List Nat) := hq
  simp at this
  rcases this with rfl | rfl <;> decide
theorem ty72' : ∀ q, q ∈ 5 :: (Kd.int .u8).E → q ≠ 72 := by
  intro q hq
  have : q ∈ ([5] : List Nat) := hq
  simp at this
  subst this
  decide
def zc72 : Array Value := (List.replicate 128 (Value.int .i64 0)).toArray
theorem z72 (w : World) : (zeroValue 72).run Try.prog w = .ok (.agg zc72) w := by kernel_rfl
theorem zc72_encs : zc72 = (encs (Value.int .i64) (List.replicate 128 0)).toArray := by unfold zc72 encs; rw [List.map_replicate]
/-- How often an option was met. -/
structure Met (w : World) (gm : Nat) (ms : List Int) (s : Int → Int) (i : Nat) : Prop where
  blk : w.heap[gm]? = some (.cells (encs (Value.int .i64) ms).toArray 72 (0, 0))
  len : ms.length = 128
  at_ : ∀ c : Nat, 1 ≤ c → c ≤ 3 → rd ms c = s c ∧ 0 ≤ s c ∧ s c ≤ i
theorem Met.cell {w : World} {gm : Nat} {ms : List Int} {s : Int → Int} {i : Nat} (h : Met w gm ms s i) (c : Nat) (h1 : 1 ≤ c) (h3 : c ≤ 3) : w.cell? ⟨gm, c, none⟩ = some (.int .i64 (s c)) ∧ w.frozen? ⟨gm, c, none⟩ = false := by
  refine ⟨?_, blk_frozen h.blk _⟩
  rw [blk_cell h.blk c]
  have hl := h.len
  have e := (h.at_ c h1 h3).1
  rw [← e]
  unfold encs rd
  simp [List.getElem?_eq_getElem (by omega : c < ms.length), List.getD_eq_getElem?_getD]
theorem Met.up {w : World} {gm : Nat} {ms : List Int} {s : Int → Int} {i : Nat} (h : Met w gm ms s i) (c : Nat) (h1 : 1 ≤ c) (h3 : c ≤ 3) : Met (w.setCell ⟨gm, c, none⟩ (.int .i64 (s c + 1))) gm (ms.set c (s c + 1)) (bumpF s c) (i + 1) := by
  refine ⟨?_, by rw [List.length_set]; exact h.len, fun k k1 k3 => ?_⟩
  · have hb := blk_set h.blk c (.int .i64 (s c + 1))
    rw [hb]
    unfold encs
    rw [List.setIfInBounds_toArray, List.map_set]
  · have hl := h.len
    have hk := h.at_ k k1 k3
    unfold bumpF
    by_cases e : k = c
    · subst e
      have hs : rd (ms.set k (s k + 1)) k = s k + 1 := by
        unfold rd
        simp [List.getD_eq_getElem?_getD, List.getElem?_set_self (by omega : k < ms.length)]
      rw [hs, if_pos rfl]
      omega
    · have hs : rd (ms.set c (s c + 1)) k = rd ms k := by
        unfold rd
        simp [List.getD_eq_getElem?_getD, List.getElem?_set_ne (fun h => e h.symm)]
      rw [hs, if_neg (by omega)]
      omega
theorem Met.mono {w w' : World} {gm : Nat} {ms : List Int} {s : Int → Int} {i j : Nat} (h : Met w gm ms s i) (hb : w'.heap[gm]? = w.heap[gm]?) (hij : i ≤ j) : Met w' gm ms s j :=
  ⟨by rw [hb]; exact h.blk, h.len, fun c c1 c3 => by have := h.at_ c c1 c3; omega⟩
/-- What the options' part leaves. -/
def OptPost (w : World) (g : Nat) (A : Option Addr) (n c : Nat) (m : AM) (b : List Int) (e : Ending) (w' : World) : Prop :=
  Fr w w' (fun k => k = g) ∧ ((¬ outO b m.op = 0 ∧ e = thrown (outO b m.op)) ∨ (outO b m.op = 0 ∧ e = .returned (.tuple #[]) ∧ ∃ L v, cutM (b.length + 1) b (24 + (sizeM m.op).1.toNat) [] = some L ∧ RB w' g A n c { m with os := v } ∧ k45.R 45 w' w.heap.size (fun _ => True) v (keepL L)))
theorem OptPost.bad {w w' : World} {g n c : Nat} {A : Option Addr} {m : AM} {b : List Int} (hf : Fr w w' (fun k => k = g)) (x : Int) (h : outO b m.op = x) (hx : ¬ x = 0) : OptPost w g A n c m b (.panicked [{ v := .iface 48 (.int .i64 x), recovered := false }]) w' :=
  ⟨hf, .inl ⟨by rw [h]; exact hx, by rw [h]; rfl⟩⟩
theorem info45s : (Try.prog.info? 45).map (·.size) = some 2 := by kernel_rfl
theorem one2 (x : Int) (A : Option Addr) (n c : Nat) : ∀ v ∈ ([.int .i64 x, .slice A n c] : List Value), v.oneCell' = true := by
  intro v hv
  simp only [List.mem_cons, List.not_mem_nil, or_false] at hv
  rcases hv with rfl | rfl <;> rfl
set_option maxHeartbeats 4000000 in
set_option maxRecDepth 100000 in
theorem options_calls (g : Nat) (A : Option Addr) (c : Nat) (m : AM) (hm : m.ok) (ho : m.os = .slice none 0 0) (b : List Int) (w : World) (h : RB w g A b.length c m) (hC : Kd.C (Kd.int .u8) w A b.length b) (hc : b.length ≤ c) (hmx : b.length ≤ 1100) (hB : Byt b) (hs : (sizeM m.op).2 = true) (hl : 24 + (sizeM m.op).1 ≤ b.length) :
    Calls Try.prog 25 #[.pointer (some ⟨g, 0, none⟩)] w fun e w' => OptPost w g A b.length c m b e w' := by
  have h72 := z72
  have H0 := Aside0.mk (h.below (below_alloc (Below.refl _ _) (.cells zc72 72)))
  have C0 := Aside0.mk (Kd.C_below hC (below_alloc (Below.refl _ _) (.cells zc72 72)))
  have M0 : Aside0 (Met (w.alloc (.cells zc72 72)) w.heap.size (List.replicate 128 0) (fun _ => 0) 0) := ⟨⟨by rw [blk_new, zc72_encs], by simp, fun c c1 c3 => ⟨by
    have : c = 1 ∨ c = 2 ∨ c = 3 := by omega
    rcases this with rfl | rfl | rfl <;> rfl, by decide, by decide⟩⟩⟩
  have HL := Aside0.mk (And.intro hc (And.intro hmx (And.intro hs hl)))
  have HB := Aside0.mk hB
  have HM := Aside0.mk hm
  have HO := Aside0.mk ho
  have GL : Aside0 (g < w.heap.size) := ⟨blk_lt h⟩
  have F0 : Aside0 (Fr w (w.alloc (.cells zc72 72)) (fun k => k = g)) := ⟨Fr.alloc (Fr.refl _ _) _⟩
  have S0 : Aside0 ((w.alloc (.cells zc72 72)).heap.size = w.heap.size + 1) := ⟨World.size_alloc _ _⟩
  clear h hC hc hmx hB hs hl hm ho
  go_enter Try.func25, Try.ntmps25
  go_wp2_with fail
  obtain ⟨R, hR⟩ : ∃ R, cutM (b.length + 1) b (24 + (sizeM m.op).1.toNat) [] = R := ⟨_, rfl⟩
  refine (cut_calls g A c m HM.out b R _ H0.out C0.out HL.out.1 HL.out.2.1 HB.out HL.out.2.2.1 HL.out.2.2.2 hR).mono ?_
  have HR := Aside0.mk hR
  have HOUT : Aside0 (outO b m.op = outR m.op R) := ⟨by unfold outO; rw [hR]⟩
  clear hR h72
  generalize w.alloc (.cells zc72 72) = w1 at *
  rintro e w2 ⟨hb2, ⟨rfl, he⟩ | ⟨L, rfl, vL, rfl, hrL⟩⟩
  · unfold thrown at he
    subst he
    exact ⟨rfl, OptPost.bad (F0.out.below hb2) 6 HOUT.out (by decide)⟩
  · have F2 := Aside0.mk (F0.out.below hb2)
    have H2 := Aside0.mk (H0.out.below hb2)
    have M2 := Aside0.mk (M0.out.mono (blk_below M0.out.blk hb2 |>.trans M0.out.blk.symm) (Nat.le_refl 0))
    have RL2 : Aside0 (k45.R 45 w2 w.heap.size (fun k => k < w2.heap.size) vL L) := ⟨Kd.R_mono (Kd.R_bound (Kd.R_lower hrL (by rw [S0.out]; exact Nat.le_succ _))) (fun k hk => hk.2.2.1)⟩
    have S2 : Aside0 (w.heap.size < w2.heap.size ∧ g < w2.heap.size) := ⟨by have h1 := hb2.size; have h2 := S0.out; have h3 := GL.out; omega⟩
    have HLL : Aside0 (L.length ≤ 1100) := ⟨by
      have h1 := cutM_len b _ _ _ _ HR.out (by have h := HL.out.2.2.2; have := sizeM_le m.op; omega)
      have h2 := HL.out.2.1
      simp at h1
      omega⟩
    obtain ⟨AL, cL, rfl⟩ := Kd.R_slice RL2.out
    clear hb2 hrL F0 H0 M0 C0 S0
    have HOUT2 : Aside0 (wrM m.op (fun _ => 0) (L.drop 0) = outO b m.op) := ⟨HOUT.out.symm⟩
    have RO2 : Aside0 (k45.R 45 w2 w.heap.size (fun _ => True) m.os (keepL (L.take 0))) := ⟨by rw [HO.out]; exact Kd.R_nil _ _ _ _ _⟩
    have OB2 : Aside0 (∀ k, m.os.ownBlock = some k → w2.heap.size ≤ k) := ⟨fun k hk => by rw [HO.out] at hk; simp [Value.ownBlock] at hk⟩
    have HH2 : Aside0 (RB w2 g A b.length c { m with os := m.os }) := ⟨H2.out⟩
    go_upto_region 2 with fail
    go_loopg [4, 8] L.length (fun q v4 v8 wr => ∃ (i : Nat) (s : Int → Int) (ms : List Int) (v : Value), v8 = .int .i64 (i : Int) ∧ Aside0 (i + q = L.length) ∧ Aside0 (wrM m.op s (L.drop i) = outO b m.op) ∧ Aside0 (Met wr w.heap.size ms s i) ∧ Aside0 (RB wr g A b.length c { m with os := v }) ∧ Aside0 (k45.R 45 wr w.heap.size (fun _ => True) v (keepL (L.take i))) ∧ Aside0 (∀ k, v.ownBlock = some k → w2.heap.size ≤ k) ∧ Aside0 (Fr w2 wr (fun k => k = g ∨ k = w.heap.size)))
    case atStart => exact ⟨0, _, _, m.os, rfl, ⟨by omega⟩, HOUT2, M2, HH2, RO2, OB2, ⟨Fr.refl _ _⟩⟩
    case round =>
      clear HOUT2 RO2 OB2 HH2
      obtain ⟨i, s, ms, v, rfl, Hi, HW, MM, HR1, RO, OB, FF⟩ := hrel
      have FW : Aside0 (Fr w wr (fun k => k = g)) := ⟨F2.out.trans FF.out (fun k hk => by rcases hk with rfl | rfl; exact .inl rfl; exact .inr (Nat.le_refl _))⟩
      cases gk with
      | zero =>
        have hlt : ¬ ((i : Int) < (L.length : Int)) := by have := Hi.out; omega
        have hlb := decide_eq_false hlt
        have HF : Aside0 (outO b m.op = 0 ∧ keepL (L.take i) = keepL L) := ⟨by
          have h1 := HW.out
          rw [List.drop_of_length_le (by omega)] at h1
          exact ⟨h1.symm, by rw [List.take_of_length_le (by omega)]⟩⟩
        go_wp2
        go_end0
        exact ⟨FW.out, .inr ⟨HF.out.1, rfl, L, v, HR.out, HR1.out, by rw [← HF.out.2]; exact RO.out⟩⟩
      | succ q =>
        have hlt : (i : Int) < (L.length : Int) := by have := Hi.out; omega
        have hlb := decide_eq_true hlt
        have hi0 : (0 : Int) ≤ i ∧ (i : Int) < (L.length : Int) := ⟨by omega, hlt⟩
        have RLr := Aside0.mk (R_frT RL2.out FF.out (fun k hk _ => by
          rcases hk with rfl | rfl
          · exact ⟨_, _, H2.out, ty52⟩
          · exact ⟨_, _, M2.out.blk, ty72⟩))
        have hCL := (Kd.R_reads' RLr.out).2.2
        obtain ⟨ad, A1, c1, e1, ka, kb, lb, cb⟩ := at_T45 hCL (i : Int) (by omega) hlt
        subst e1
        have HDR : Aside0 (L.drop i = rd_T45 L i :: L.drop (i + 1) ∧ L.take (i + 1) = L.take i ++ [rd_T45 L i]) := ⟨drop_rd L i (by omega), take_rd45 L i (by omega)⟩
        have HDA : Aside0 ((Kd.int .u8).R 5 wr w.heap.size (fun k => k < w2.heap.size) (.slice A1 (rd_T45 L i).f1.length c1) (rd_T45 L i).f1) := ⟨by
          obtain ⟨cc, _, hM, hcc⟩ := Kd.R_get RLr.out z45 (i : Int) (by omega) hlt
          obtain ⟨v1, rfl, hv1⟩ := k45_openM hM
          have e2 := hcc 1 v1 rfl
          have e3 : w.heap.size = w.heap.size := rfl
          rw [show (i : Int).toNat * k45.sz + 1 = (i : Int).toNat * 2 + 1 from rfl, add_field _ _ 1 (by decide), kb] at e2
          have e4 := Option.some.inj e2
          subst e4
          exact Kd.R_mono hv1 (fun _ hk => hk.1)⟩
        obtain ⟨o, hoo⟩ : ∃ o, rd_T45 L i = o := ⟨_, rfl⟩
        rw [hoo] at ka kb lb cb HDR HDA
        have hsc := HW.out
        rw [HDR.out.1] at hsc
        simp only [wrM] at hsc
        rw [Int.toNat_natCast] at ka kb
        clear hoo hCL
        have ES := Aside0.mk hsc
        clear hsc
        obtain ⟨xf, hxf⟩ : ∃ x, o.f0 = x := ⟨_, rfl⟩
        have HXF := Aside0.mk hxf
        rw [hxf] at ka ES
        clear hxf cb
        have N3 := Aside0.mk (blk_new wr (.cells #[.int .i64 0, .slice none 0 0] 45))
        go_upto_region 4 with (refine wp_fill rfl 45 (.tmp 4) (.tmp 11) rfl wr.heap.size _ 45 [.int .i64 xf, .slice A1 o.f1.length c1] N3.out rfl rfl rfl info45s (one2 _ _ _ _) ?_; intro w3 hx3 hf3; have X3 := Aside0.mk hx3; have F3 := Aside0.mk hf3; clear hx3 hf3)
        have BW : Aside0 (Below wr.heap.size wr w3) := ⟨below_fr (below_alloc (Below.refl _ _) (.cells #[.int .i64 0, .slice none 0 0] 45)) (by rw [World.size_alloc]; exact Nat.le_succ _) F3.out (fun k hk => by rw [hk]; exact Nat.le_refl _)⟩
        have GW : Aside0 (w.heap.size < wr.heap.size ∧ g < wr.heap.size ∧ w2.heap.size ≤ wr.heap.size) := ⟨by have h1 := FF.out.size; have h2 := S2.out; omega⟩
        have MM3 := Aside0.mk (MM.out.mono (blk_below MM.out.blk BW.out |>.trans MM.out.blk.symm) (Nat.le_refl i))
        have HR3 := Aside0.mk (HR1.out.below BW.out)
        have RO3 := Aside0.mk (Kd.R_below RO.out BW.out)
        have DA3 := Aside0.mk (Kd.R_below HDA.out BW.out)
        have FF3 := Aside0.mk (FF.out.below BW.out)
        have FW3 := Aside0.mk (FW.out.below BW.out)
        clear N3 F3 BW MM HR1 RO HDA FF FW RLr ka kb lb hi0
        generalize wr.heap.size = g4 at *
        have k40 : w3.cell? ⟨g4, 0, none⟩ = some (.int .i64 xf) := blk_cell X3.out 0
        by_cases h128 : xf ≥ 128
        · have h128b := decide_eq_true h128
          have HW3 : Aside0 (wrM m.op s (L.drop (i + 1)) = outO b m.op) := ⟨by have h := ES.out; rw [if_pos h128] at h; exact h⟩
          have HK : Aside0 (keepL (L.take (i + 1)) = keepL (L.take i)) := ⟨by rw [HDR.out.2, keepL_snoc, if_neg (by rw [HXF.out]; omega)]⟩
          have hil : (i : Int) ≤ 1100 := by have h1 := Hi.out; have h2 := HLL.out; omega
          go_wp2
          go_roundg q
          case measure => omega
          case rel => exact ⟨i + 1, s, ms, v, by go_num, ⟨by have := Hi.out; omega⟩, HW3, ⟨MM3.out.mono rfl (Nat.le_succ i)⟩, HR3, ⟨by rw [HK.out]; exact RO3.out⟩, OB, FF3⟩
        · have h128b := decide_eq_false h128
          by_cases hkn : 1 ≤ xf ∧ xf ≤ 3
          · have HKN : Aside0 (decide (1 ≤ xf ∧ xf ≤ 3) = true) := ⟨decide_eq_true hkn⟩
            have ES2 : Aside0 ((if m.op = 0 ∨ m.op = 2 ∧ ¬xf = 1 then 6 else if s xf + 1 > 1 ∧ ¬xf = 3 ∨ ¬(o.f1.length : Int) = longM xf then 6 else wrM m.op (bumpF s xf) (L.drop (i + 1))) = outO b m.op) := ⟨by have h := ES.out; rw [if_neg h128, if_neg (by simpa using hkn)] at h; exact h⟩
            obtain ⟨cn, rfl⟩ := Int.eq_ofNat_of_zero_le (show 0 ≤ xf by omega)
            obtain ⟨km, fm⟩ := MM3.out.cell cn (by omega) (by omega)
            have hsb := (MM3.out.at_ cn (by omega) (by omega)).2
            have hil : (i : Int) ≤ 1100 := by have h1 := Hi.out; have h2 := HLL.out; omega
            have hsw : 0 ≤ s cn ∧ s cn ≤ 1100 := by omega
            have HC3 : Aside0 (1 ≤ cn ∧ cn ≤ 3) := ⟨by omega⟩
            have hcb : (0 : Int) ≤ (cn : Int) ∧ (cn : Int) < 128 := by omega
            clear hsb hil ES h128
            go_wp2_with fail
            refine (Known_calls _ _).mono ?_
            rintro e w3 ⟨rfl, rfl⟩
            rw [HKN.out]
            go_wp2_with fail
            refine (refuse_ok 5 _).mono ?_
            rintro e w3 ⟨rfl, rfl⟩
            go_upto_region 7 with fail
            have MM4 := Aside0.mk (MM3.out.up cn HC3.out.1 HC3.out.2)
            have NG : Aside0 (g ≠ w.heap.size ∧ g4 ≠ w.heap.size ∧ g4 ≠ g) := ⟨by have h1 := GL.out; have h2 := GW.out; omega⟩
            have HR4 := Aside0.mk (HR3.out.fr (set_fr w3 w.heap.size cn (.int .i64 (s cn + 1))) NG.out.1)
            have X4 := Aside0.mk ((set_fr w3 w.heap.size cn (.int .i64 (s cn + 1))).blk X3.out NG.out.2.1)
            have RO4 := Aside0.mk (Kd.R_set RO3.out MM3.out.blk ty72 cn (.int .i64 (s cn + 1)))
            have DA4 := Aside0.mk (Kd.R_set DA3.out MM3.out.blk ty72' cn (.int .i64 (s cn + 1)))
            have FF4 := Aside0.mk (FF3.out.set (g := w.heap.size) (o := cn) (.inl (.inr rfl)) (.int .i64 (s cn + 1)))
            have FW4 := Aside0.mk (FW3.out.set (g := w.heap.size) (o := cn) (.inr (Nat.le_refl _)) (.int .i64 (s cn + 1)))
            have km4 : (w3.setCell ⟨w.heap.size, cn, none⟩ (.int .i64 (s cn + 1))).cell? ⟨w.heap.size, cn, none⟩ = some (.int .i64 (s cn + 1)) := by
              have h := (MM4.out.cell cn HC3.out.1 HC3.out.2).1
              rw [h]
              unfold bumpF
              rw [if_pos rfl]
            clear k40 km fm MM3 HR3 X3 RO3 DA3 FF3 FW3
            generalize w3.setCell ⟨w.heap.size, cn, none⟩ (.int .i64 (s cn + 1)) = w4 at *
            have k40 : w4.cell? ⟨g4, 0, none⟩ = some (.int .i64 cn) := blk_cell X4.out 0
            have k41 : w4.cell? ⟨g4, 1, none⟩ = some (.slice A1 o.f1.length c1) := blk_cell X4.out 1
            have k1 : w4.cell? ⟨g, 1, none⟩ = some (.int .i64 m.op) := HR4.out.kop
            by_cases hbad : m.op = 0 ∨ m.op = 2 ∧ ¬ (cn : Int) = 1
            · have HOC : Aside0 (outO b m.op = 6) := ⟨by have h := ES2.out; rw [if_pos hbad] at h; exact h.symm⟩
              by_cases hop0 : m.op = 0
              · have hb0 : (m.op == 0) = true := by simpa using hop0
                clear hbad hop0
                go_wp2_with fail
                refine (refuse_bad 6 _).mono ?_
                rintro e w5 ⟨he, rfl⟩
                unfold thrown at he
                subst he
                exact ⟨rfl, OptPost.bad FW4.out 6 HOC.out (by decide)⟩
              · have hb0 : (m.op == 0) = false := by simpa using hop0
                have h22 : m.op = 2 ∧ ¬ (cn : Int) = 1 := by rcases hbad with h | h; exact absurd h hop0; exact h
                have hb2 : (m.op == 2) = true := by simpa using h22.1
                have hn1 : ((cn : Int) != 1) = true := by simpa using h22.2
                clear hbad hop0 h22
                go_wp2_with fail
                refine (refuse_bad 6 _).mono ?_
                rintro e w5 ⟨he, rfl⟩
                unfold thrown at he
                subst he
                exact ⟨rfl, OptPost.bad FW4.out 6 HOC.out (by decide)⟩
            · have ES3 : Aside0 ((if s cn + 1 > 1 ∧ ¬(cn : Int) = 3 ∨ ¬(o.f1.length : Int) = longM cn then 6 else wrM m.op (bumpF s cn) (L.drop (i + 1))) = outO b m.op) := ⟨by have h := ES2.out; rw [if_neg hbad] at h; exact h⟩
              have hop0 : ¬ m.op = 0 := fun h => hbad (.inl h)
              have hb0 : (m.op == 0) = false := by simpa using hop0
              have h22 : ¬ (m.op = 2 ∧ ¬ (cn : Int) = 1) := fun h => hbad (.inr h)
              have hpick : Aside0 (((m.op == 2) = false) ∨ ((m.op == 2) = true ∧ ((cn : Int) != 1) = false)) := ⟨by
                by_cases h2 : m.op = 2
                · right
                  refine ⟨by simpa using h2, ?_⟩
                  have h3 : (cn : Int) = 1 := by
                    by_cases h3 : (cn : Int) = 1
                    · exact h3
                    · exact absurd ⟨h2, h3⟩ h22
                  simpa using h3
                · left; simpa using h2⟩
              clear hbad hop0 h22 ES2
              have HEND : ∀ (x : Bool), Aside0 (x = true) → True := fun _ _ => trivial
              rcases hpick.out with hb2 | ⟨hb2, hn1⟩
              all_goals (
                go_wp2_with fail
                refine (refuse_ok 6 _).mono ?_
                rintro e w4 ⟨rfl, rfl⟩
                go_upto_region 8 with fail
                have hs1 : wrap64 (s cn + 1) = s cn + 1 := by unfold wrap64; omega
                clear hs1
                by_cases hcnt : s cn + 1 > 1
                · have hcb9 := decide_eq_true hcnt
                  by_cases h3 : (cn : Int) = 3
                  · have h3b : ((cn : Int) != 3) = false := by simpa using h3
                    have HNO : Aside0 (¬ (s cn + 1 > 1 ∧ ¬ (cn : Int) = 3)) := ⟨fun h => h.2 h3⟩
                    clear h3
                    by_cases hle : (o.f1.length : Int) = longM cn
                    · have hlb9 : ((o.f1.length : Int) != longM cn) = false := by simpa using hle
                      have HW9 : Aside0 (wrM m.op (bumpF s cn) (L.drop (i + 1)) = outO b m.op) := ⟨by have h := ES3.out; rw [if_neg (by intro h2; rcases h2 with h2 | h2; exact HNO.out h2; exact h2 hle)] at h; exact h⟩
                      refine start_ (n := 20) (S := fun w' => w'.cell? ⟨g4, 0, none⟩ = some (.int .i64 cn) ∧ w'.cell? ⟨g4, 1, none⟩ = some (.slice A1 o.f1.length c1) ∧ w'.cell? ⟨w.heap.size, cn, none⟩ = some (.int .i64 (s cn + 1))) (ds := []) #[false, false, false, false, false, false, false, false, false, false, false, false, false, false, false, false, false, false, false, false] (by kernel_rfl) rfl rfl ⟨k40, k41, km4⟩ (fun hHeld => ?_)
                      refine pure_ (i := 0) (N := some 46) (v := ?_) (a' := ?_) #[true, false, false, false, false, false, false, false, false, false, false, false, false, false, false, false, false, false, false, false] rfl rfl (by kernel_rfl) (fun _ _ _ h => h) (Or.inl ⟨by rfl, ?_⟩) ?_ ?_
                      rotate_left
                      · intro w'
                        go_simp
                        with_reducible rfl
                      rotate_left
                      · simp only [Act.put, List.setIfInBounds_toArray, List.set_cons_zero, List.set_cons_succ, i64_w, i32_w]
                        rfl
                      refine take_ (i := 1) (N := some 47) (v := ?_) (a' := ?_) #[true, true, false, false, false, false, false, false, false, false, false, false, false, false, false, false, false, false, false, false] rfl rfl (by kernel_rfl) (fun _ _ _ h => h) (Or.inl ⟨by rfl, ?_⟩) hHeld ?_ ?_
                      rotate_left
                      · rintro w' ⟨s0, s1, s2⟩
                        go_simp
                        with_reducible rfl
                      rotate_left
                      · simp only [Act.put, List.setIfInBounds_toArray, List.set_cons_zero, List.set_cons_succ, i64_w, i32_w]
                        rfl
                      refine pure_ (i := 2) (N := some 48) (v := ?_) (a' := ?_) #[true, true, true, false, false, false, false, false, false, false, false, false, false, false, false, false, false, false, false, false] rfl rfl (by kernel_rfl) (fun _ _ _ h => h) (Or.inl ⟨by rfl, ?_⟩) ?_ ?_
                      rotate_left
                      · intro w'
                        go_simp
                        with_reducible rfl
                      rotate_left
                      · simp only [Act.put, List.setIfInBounds_toArray, List.set_cons_zero, List.set_cons_succ, i64_w, i32_w]
                        rfl
                      refine take_ (i := 3) (N := some 49) (v := ?_) (a' := ?_) #[true, true, true, true, false, false, false, false, false, false, false, false, false, false, false, false, false, false, false, false] rfl rfl (by kernel_rfl) (fun _ _ _ h => h) (Or.inl ⟨by rfl, ?_⟩) hHeld ?_ ?_
                      rotate_left
                      · rintro w' ⟨s0, s1, s2⟩
                        go_simp
                        with_reducible rfl
                      rotate_left
                      · simp only [Act.put, List.setIfInBounds_toArray, List.set_cons_zero, List.set_cons_succ, i64_w, i32_w]
                        rfl
                      refine pure_ (i := 4) (N := some 50) (v := ?_) (a' := ?_) #[true, true, true, true, true, false, false, false, false, false, false, false, false, false, false, false, false, false, false, false] rfl rfl (by kernel_rfl) (fun _ _ _ h => h) (Or.inl ⟨by rfl, ?_⟩) ?_ ?_
                      rotate_left
                      · intro w'
                        go_simp
                        with_reducible rfl
                      rotate_left
                      · simp only [Act.put, List.setIfInBounds_toArray, List.set_cons_zero, List.set_cons_succ, i64_w, i32_w]
                        rfl
                      refine pure_ (i := 5) (N := some 51) (v := ?_) (a' := ?_) #[true, true, true, true, true, true, false, false, false, false, false, false, false, false, false, false, false, false, false, false] rfl rfl (by kernel_rfl) (fun _ _ _ h => h) (Or.inl ⟨by rfl, ?_⟩) ?_ ?_
                      rotate_left
                      · intro w'
                        go_simp
                        with_reducible rfl
                      rotate_left
                      · simp only [Act.put, List.setIfInBounds_toArray, List.set_cons_zero, List.set_cons_succ, i64_w, i32_w]
                        rfl
                      refine pure_ (i := 6) (N := some 52) (v := ?_) (a' := ?_) #[true, true, true, true, true, true, true, false, false, false, false, false, false, false, false, false, false, false, false, false] rfl rfl (by kernel_rfl) (fun _ _ _ h => h) (Or.inl ⟨by rfl, ?_⟩) ?_ ?_
                      rotate_left
                      · intro w'
                        go_simp
                        with_reducible rfl
                      rotate_left
                      · simp only [Act.put, List.setIfInBounds_toArray, List.set_cons_zero, List.set_cons_succ, i64_w, i32_w]
                        rfl
                      refine take_ (i := 7) (N := some 53) (v := ?_) (a' := ?_) #[true, true, true, true, true, true, true, true, false, false, false, false, false, false, false, false, false, false, false, false] rfl rfl (by kernel_rfl) (fun _ _ _ h => h) (Or.inl ⟨by rfl, ?_⟩) hHeld ?_ ?_
                      rotate_left
                      · rintro w' ⟨s0, s1, s2⟩
                        go_simp
                        with_reducible rfl
                      rotate_left
                      · simp only [Act.put, List.setIfInBounds_toArray, List.set_cons_zero, List.set_cons_succ, i64_w, i32_w]
                        rfl
                      refine pure_ (i := 8) (N := some 54) (v := ?_) (a' := ?_) #[true, true, true, true, true, true, true, true, true, false, false, false, false, false, false, false, false, false, false, false] rfl rfl (by kernel_rfl) (fun _ _ _ h => h) (Or.inl ⟨by rfl, ?_⟩) ?_ ?_
                      rotate_left
                      · intro w'
                        go_simp
                        with_reducible rfl
                      rotate_left
                      · simp only [Act.put, List.setIfInBounds_toArray, List.set_cons_zero, List.set_cons_succ, i64_w, i32_w]
                        rfl
                      refine pure_ (i := 9) (N := some 55) (v := ?_) (a' := ?_) #[true, true, true, true, true, true, true, true, true, true, false, false, false, false, false, false, false, false, false, false] rfl rfl (by kernel_rfl) (fun _ _ _ h => h) (Or.inl ⟨by rfl, ?_⟩) ?_ ?_
                      rotate_left
                      · intro w'
                        go_simp
                        with_reducible rfl
                      rotate_left
                      · simp only [Act.put, List.setIfInBounds_toArray, List.set_cons_zero, List.set_cons_succ, i64_w, i32_w]
                        rfl
                      refine pure_ (i := 10) (N := some 56) (v := ?_) (a' := ?_) #[true, true, true, true, true, true, true, true, true, true, true, false, false, false, false, false, false, false, false, false] rfl rfl (by kernel_rfl) (fun _ _ _ h => h) (Or.inl ⟨by rfl, ?_⟩) ?_ ?_
                      rotate_left
                      · intro w'
                        go_simp
                        with_reducible rfl
                      rotate_left
                      · simp only [Act.put, List.setIfInBounds_toArray, List.set_cons_zero, List.set_cons_succ, i64_w, i32_w]
                        rfl
                      refine pure_ (i := 11) (N := some 57) (v := ?_) (a' := ?_) #[true, true, true, true, true, true, true, true, true, true, true, true, false, false, false, false, false, false, false, false] rfl rfl (by kernel_rfl) (fun _ _ _ h => h) (Or.inl ⟨by rfl, ?_⟩) ?_ ?_
                      rotate_left
                      · intro w'
                        go_simp
                        with_reducible rfl
                      rotate_left
                      · simp only [Act.put, List.setIfInBounds_toArray, List.set_cons_zero, List.set_cons_succ, i64_w, i32_w]
                        rfl
                      refine pure_ (i := 14) (N := some 60) (v := ?_) (a' := ?_) #[true, true, true, true, true, true, true, true, true, true, true, true, false, false, true, false, false, false, false, false] rfl rfl (by kernel_rfl) (fun _ _ _ h => h) (Or.inl ⟨by rfl, ?_⟩) ?_ ?_
                      rotate_left
                      · intro w'
                        go_simp
                        with_reducible rfl
                      rotate_left
                      · simp only [Act.put, List.setIfInBounds_toArray, List.set_cons_zero, List.set_cons_succ, i64_w, i32_w]
                        rfl
                      refine take_ (i := 12) (N := some 58) (v := ?_) (a' := ?_) #[true, true, true, true, true, true, true, true, true, true, true, true, true, false, true, false, false, false, false, false] rfl rfl (by kernel_rfl) (fun _ _ _ h => h) (Or.inl ⟨by rfl, ?_⟩) hHeld ?_ ?_
                      rotate_left
                      · rintro w' ⟨s0, s1, s2⟩
                        go_simp
                        with_reducible rfl
                      rotate_left
                      · simp only [Act.put, List.setIfInBounds_toArray, List.set_cons_zero, List.set_cons_succ, i64_w, i32_w]
                        rfl
                      refine pure_ (i := 13) (N := some 59) (v := ?_) (a' := ?_) #[true, true, true, true, true, true, true, true, true, true, true, true, true, true, true, false, false, false, false, false] rfl rfl (by kernel_rfl) (fun _ _ _ h => h) (Or.inl ⟨by rfl, ?_⟩) ?_ ?_
                      rotate_left
                      · intro w'
                        go_simp
                        with_reducible rfl
                      rotate_left
                      · simp only [Act.put, List.setIfInBounds_toArray, List.set_cons_zero, List.set_cons_succ, i64_w, i32_w]
                        rfl
                      refine take_ (i := 15) (N := some 61) (v := ?_) (a' := ?_) #[true, true, true, true, true, true, true, true, true, true, true, true, true, true, true, true, false, false, false, false] rfl rfl (by kernel_rfl) (fun _ _ _ h => h) (Or.inl ⟨by rfl, ?_⟩) hHeld ?_ ?_
                      rotate_left
                      · rintro w' ⟨s0, s1, s2⟩
                        go_simp
                        with_reducible rfl
                      rotate_left
                      · simp only [Act.put, List.setIfInBounds_toArray, List.set_cons_zero, List.set_cons_succ, i64_w, i32_w]
                        rfl
                      refine one_ (i := 16) (N := some 62) #[true, true, true, true, true, true, true, true, true, true, true, true, true, true, true, true, true, false, false, false] rfl rfl (by kernel_rfl) (by decide) (fun K hK => ?_)
                      refine goes_ Try.func40 (by kernel_rfl) rfl #[.int .i64 cn] (by rfl) rfl rfl (by simp only [List.map_toArray, List.map_cons, List.map_nil]; rfl) ?_
                      with_reducible refine (long_calls cn _).mono ?_
                      rintro e w8 ⟨rfl, rfl⟩
                      refine ⟨_, rfl, ?_⟩
                      refine hK.out _ _ ⟨k40, k41, km4⟩ (fun hHeld => ?_)
                      clear hK K
                      refine norm_ (a' := ?_) ?_ ?_
                      rotate_left
                      · show Act.put _ (some 62) _ = _
                        simp only [Act.put, List.setIfInBounds_toArray, List.set_cons_zero, List.set_cons_succ, i64_w, i32_w]
                        rfl
                      refine pure_ (i := 17) (N := some 63) (v := ?_) (a' := ?_) #[true, true, true, true, true, true, true, true, true, true, true, true, true, true, true, true, true, true, false, false] rfl rfl (by kernel_rfl) (fun _ _ _ h => h) (Or.inl ⟨by rfl, ?_⟩) ?_ ?_
                      rotate_left
                      · intro w'
                        go_simp
                        with_reducible rfl
                      rotate_left
                      · simp only [Act.put, List.setIfInBounds_toArray, List.set_cons_zero, List.set_cons_succ, i64_w, i32_w]
                        rfl
                      refine pure_ (i := 18) (N := some 64) (v := ?_) (a' := ?_) #[true, true, true, true, true, true, true, true, true, true, true, true, true, true, true, true, true, true, true, false] rfl rfl (by kernel_rfl) (fun _ _ _ h => h) (Or.inl ⟨by rfl, ?_⟩) ?_ ?_
                      rotate_left
                      · intro w'
                        go_simp
                        with_reducible rfl
                      rotate_left
                      · simp only [Act.put, List.setIfInBounds_toArray, List.set_cons_zero, List.set_cons_succ, i64_w, i32_w]
                        rfl
                      refine one_ (i := 19) (N := some 65) #[true, true, true, true, true, true, true, true, true, true, true, true, true, true, true, true, true, true, true, true] rfl rfl (by kernel_rfl) (by decide) (fun K hK => ?_)
                      refine goes_ Try.func22 (by kernel_rfl) rfl #[.bool false, .int .i64 6] (by rfl) rfl rfl (by simp only [List.map_toArray, List.map_cons, List.map_nil]; rfl) ?_
                      with_reducible refine (refuse_ok 6 _).mono ?_
                      rintro e w8 ⟨rfl, rfl⟩
                      refine ⟨_, rfl, ?_⟩
                      refine hK.out _ _ ⟨k40, k41, km4⟩ (fun hHeld => ?_)
                      clear hK K
                      refine norm_ (a' := ?_) ?_ ?_
                      rotate_left
                      · show Act.put _ (some 65) _ = _
                        simp only [Act.put, List.setIfInBounds_toArray, List.set_cons_zero, List.set_cons_succ, i64_w, i32_w]
                        rfl
                      refine done_ (by kernel_rfl) ?_
                      go_upto_region 9 with fail
                      have OV : Aside0 (v.oneCell' = true) := ⟨by obtain ⟨_, _, e⟩ := Kd.R_slice RO4.out; rw [e]; rfl⟩
                      have kos : w4.drew.drew.cell? ⟨g, 67, none⟩ = some v := HR4.out.kos ⟨HM.out.cl, HM.out.no, HM.out.wa, HM.out.fa, OV.out⟩
                      have HKL : Aside0 (((keepL (L.take i)).length + 1) * 32 ≤ 140737488355328) := ⟨by
                        have h1 : (keepL (L.take i)).length ≤ (L.take i).length := List.length_filter_le _ _
                        rw [List.length_take] at h1
                        have h2 := HLL.out
                        omega⟩
                      have F4S : Aside0 (w2.heap.size ≤ w4.heap.size) := ⟨FF4.out.size⟩
                      refine start_ (n := 13) (S := fun w' => w'.cell? ⟨g, 67, none⟩ = some v ∧ w'.cell? ⟨g4, 0, none⟩ = some (.int .i64 cn) ∧ w'.cell? ⟨g4, 1, none⟩ = some (.slice A1 o.f1.length c1)) (ds := [8, 12]) #[false, false, false, false, false, false, false, false, false, false, false, false, false] (by kernel_rfl) rfl rfl ⟨kos, k40, k41⟩ (fun hHeld => ?_)
                      refine pure_ (i := 0) (N := some 66) (v := ?_) (a' := ?_) #[true, false, false, false, false, false, false, false, false, false, false, false, false] rfl rfl (by kernel_rfl) (fun _ _ _ h => h) (Or.inl ⟨by rfl, ?_⟩) ?_ ?_
                      rotate_left
                      · intro w'
                        go_simp
                        with_reducible rfl
                      rotate_left
                      · simp only [Act.put, List.setIfInBounds_toArray, List.set_cons_zero, List.set_cons_succ, i64_w, i32_w]
                        rfl
                      refine pure_ (i := 1) (N := some 67) (v := ?_) (a' := ?_) #[true, true, false, false, false, false, false, false, false, false, false, false, false] rfl rfl (by kernel_rfl) (fun _ _ _ h => h) (Or.inl ⟨by rfl, ?_⟩) ?_ ?_
                      rotate_left
                      · intro w'
                        go_simp
                        with_reducible rfl
                      rotate_left
                      · simp only [Act.put, List.setIfInBounds_toArray, List.set_cons_zero, List.set_cons_succ, i64_w, i32_w]
                        rfl
                      refine pure_ (i := 2) (N := some 68) (v := ?_) (a' := ?_) #[true, true, true, false, false, false, false, false, false, false, false, false, false] rfl rfl (by kernel_rfl) (fun _ _ _ h => h) (Or.inl ⟨by rfl, ?_⟩) ?_ ?_
                      rotate_left
                      · intro w'
                        go_simp
                        with_reducible rfl
                      rotate_left
                      · simp only [Act.put, List.setIfInBounds_toArray, List.set_cons_zero, List.set_cons_succ, i64_w, i32_w]
                        rfl
                      refine pure_ (i := 3) (N := some 69) (v := ?_) (a' := ?_) #[true, true, true, true, false, false, false, false, false, false, false, false, false] rfl rfl (by kernel_rfl) (fun _ _ _ h => h) (Or.inl ⟨by rfl, ?_⟩) ?_ ?_
                      rotate_left
                      · intro w'
                        go_simp
                        with_reducible rfl
                      rotate_left
                      · simp only [Act.put, List.setIfInBounds_toArray, List.set_cons_zero, List.set_cons_succ, i64_w, i32_w]
                        rfl
                      refine pure_ (i := 4) (N := some 70) (v := ?_) (a' := ?_) #[true, true, true, true, true, false, false, false, false, false, false, false, false] rfl rfl (by kernel_rfl) (fun _ _ _ h => h) (Or.inl ⟨by rfl, ?_⟩) ?_ ?_
                      rotate_left
                      · intro w'
                        go_simp
                        with_reducible rfl
                      rotate_left
                      · simp only [Act.put, List.setIfInBounds_toArray, List.set_cons_zero, List.set_cons_succ, i64_w, i32_w]
                        rfl
                      refine take_ (i := 5) (N := some 71) (v := ?_) (a' := ?_) #[true, true, true, true, true, true, false, false, false, false, false, false, false] rfl rfl (by kernel_rfl) (fun _ _ _ h => h) (Or.inl ⟨by rfl, ?_⟩) hHeld ?_ ?_
                      rotate_left
                      · rintro w' ⟨s0, s1, s2⟩
                        go_simp
                        with_reducible rfl
                      rotate_left
                      · simp only [Act.put, List.setIfInBounds_toArray, List.set_cons_zero, List.set_cons_succ, i64_w, i32_w]
                        rfl
                      refine take_ (i := 6) (N := some 72) (v := ?_) (a' := ?_) #[true, true, true, true, true, true, true, false, false, false, false, false, false] rfl rfl (by kernel_rfl) (fun _ _ _ h => h) (Or.inl ⟨by rfl, ?_⟩) hHeld ?_ ?_
                      rotate_left
                      · rintro w' ⟨s0, s1, s2⟩
                        go_simp
                        with_reducible rfl
                      rotate_left
                      · simp only [Act.put, List.setIfInBounds_toArray, List.set_cons_zero, List.set_cons_succ, i64_w, i32_w]
                        rfl
                      refine one_ (i := 7) (N := some 73) #[true, true, true, true, true, true, true, true, false, false, false, false, false] rfl rfl (by kernel_rfl) (by decide) (fun K hK => ?_)
                      refine value_ (w1 := ?_) (v := ?_) (by rfl) rfl ?_ ?_
                      rotate_left 2
                      · go_simp
                        constructor
                        · rfl
                        · rfl
                      refine hK.out _ _ ⟨(cell_alloc_old (w := w4.drew.drew) kos _), (cell_alloc_old (w := w4.drew.drew) k40 _), (cell_alloc_old (w := w4.drew.drew) k41 _)⟩ (fun hHeld => ?_)
                      clear hK K
                      refine norm_ (a' := ?_) ?_ ?_
                      rotate_left
                      · show Act.put _ (some 73) _ = _
                        simp only [Act.put, List.setIfInBounds_toArray, List.set_cons_zero, List.set_cons_succ, i64_w, i32_w]
                        rfl
                      refine last_ (i := 8) (N := some 74) #[true, true, true, true, true, true, true, true, true, false, false, false, false] rfl rfl (by kernel_rfl) (by decide) (fun K hK => ?_)
                      refine Kd.R_append_step k45 (w0 := w4.drew.drew) w.heap.size (by rfl) (.tmp 71) (.tmp 73) 27 45 (.agg #[.int .i64 0, .slice none 0 0]) 32 rfl Try.underlying27 info45 rfl (by decide) (by decide) v (keepL (L.take i)) o [.int .i64 cn, .slice A1 o.f1.length c1] (fun _ => True) (fun k => k < w2.heap.size) rfl rfl (by rw [← HXF.out]; exact k45_mkM _ _ _ o DA4.out) (fun k hk => ⟨trivial, fun he => by have := OB.out k he.symm; omega⟩) (fun _ _ => trivial) (Kd.R_drew (Kd.R_drew RO4.out)) (Below.refl _ _) (by have := FW4.out.size; exact this) HKL.out ?_
                      intro v9 w9 hr9 _ hg9 hat9
                      have h67 := blk_grown (w := w4.drew.drew) HR4.out hg9 (fun he => by have := OB.out g he.symm; have := S2.out; omega)
                      have hgm := blk_grown (w := w4.drew.drew) MM4.out.blk hg9 (fun he => by have := OB.out _ he.symm; have := S2.out; omega)
                      have R9 := Aside0.mk hr9
                      have F9 : Aside0 (Fr w2 w9 (fun k => k = g ∨ k = w.heap.size)) := ⟨FF4.out.drew.drew.grown hg9 (fun k hk => .inr (OB.out k hk))⟩
                      have OB9 : Aside0 (∀ k, v9.ownBlock = some k → w2.heap.size ≤ k) := ⟨fun k hk => hat9.elim (fun e1 => OB.out k (by rw [← e1]; exact hk)) (fun ⟨bb, e1, e2⟩ => by rw [e1] at hk; injection hk with hk; subst hk; exact Nat.le_trans F4S.out e2)⟩
                      obtain ⟨A9, c9, rfl⟩ := Kd.R_slice hr9
                      have hl9 : (keepL (L.take i) ++ [o]).length = (keepL (L.take i)).length + 1 := by simp
                      rw [hl9] at R9 OB9 ⊢
                      clear hl9
                      have HR9 : Aside0 (RB w9 g A b.length c { m with os := v }) := ⟨h67⟩
                      have GM9 := Aside0.mk hgm
                      have k67 : w9.cell? ⟨g, 67, none⟩ = some v := HR9.out.kos ⟨HM.out.cl, HM.out.no, HM.out.wa, HM.out.fa, OV.out⟩
                      have f67 := HR9.out.fz 67
                      clear hr9 hg9 hat9 h67 hgm
                      refine hK.out _ _ ?_
                      clear hK K
                      refine norm_ (a' := ?_) ?_ ?_
                      rotate_left
                      · show Act.put _ (some 74) _ = _
                        simp only [Act.put, List.setIfInBounds_toArray, List.set_cons_zero, List.set_cons_succ, i64_w, i32_w]
                        rfl
                      refine pure_ (i := 9) (N := some 75) (v := ?_) (a' := ?_) #[true, true, true, true, true, true, true, true, true, true, false, false, false] rfl rfl (by kernel_rfl) (fun _ _ _ h => h) (Or.inl ⟨by rfl, ?_⟩) ?_ ?_
                      rotate_left
                      · intro w'
                        go_simp
                        with_reducible rfl
                      rotate_left
                      · simp only [Act.put, List.setIfInBounds_toArray, List.set_cons_zero, List.set_cons_succ, i64_w, i32_w]
                        rfl
                      refine pure_ (i := 10) (N := some 76) (v := ?_) (a' := ?_) #[true, true, true, true, true, true, true, true, true, true, true, false, false] rfl rfl (by kernel_rfl) (fun _ _ _ h => h) (Or.inl ⟨by rfl, ?_⟩) ?_ ?_
                      rotate_left
                      · intro w'
                        go_simp
                        with_reducible rfl
                      rotate_left
                      · simp only [Act.put, List.setIfInBounds_toArray, List.set_cons_zero, List.set_cons_succ, i64_w, i32_w]
                        rfl
                      refine pure_ (i := 11) (N := some 77) (v := ?_) (a' := ?_) #[true, true, true, true, true, true, true, true, true, true, true, true, false] rfl rfl (by kernel_rfl) (fun _ _ _ h => h) (Or.inl ⟨by rfl, ?_⟩) ?_ ?_
                      rotate_left
                      · intro w'
                        go_simp
                        with_reducible rfl
                      rotate_left
                      · simp only [Act.put, List.setIfInBounds_toArray, List.set_cons_zero, List.set_cons_succ, i64_w, i32_w]
                        rfl
                      refine last_ (i := 12) (N := none) #[true, true, true, true, true, true, true, true, true, true, true, true, true] rfl rfl (by kernel_rfl) (by decide) (fun K hK => ?_)
                      refine skip_ (w1 := w9.setCell ⟨g, 67, none⟩ (.slice A9 ((keepL (L.take i)).length + 1) c9)) (by rfl) rfl ?_ ?_
                      · first | (go_simp; done) | (go_simp; rfl)
                      refine hK.out _ _ ?_
                      clear hK K
                      refine done_ (by kernel_rfl) ?_
                      have HKP : Aside0 (keepL (L.take (i + 1)) = keepL (L.take i) ++ [o]) := ⟨by rw [HDR.out.2, keepL_snoc, if_pos (by rw [HXF.out]; have := HC3.out; omega)]⟩
                      have HR10 := Aside0.mk (HR9.out.os_ ⟨HM.out.cl, HM.out.no, HM.out.wa, HM.out.fa, OV.out⟩ (.slice A9 ((keepL (L.take i)).length + 1) c9))
                      have RO10 : Aside0 (k45.R 45 (w9.setCell ⟨g, 67, none⟩ (.slice A9 ((keepL (L.take i)).length + 1) c9)) w.heap.size (fun _ => True) (.slice A9 ((keepL (L.take i)).length + 1) c9) (keepL (L.take (i + 1)))) := ⟨by rw [HKP.out]; exact Kd.R_set R9.out HR9.out ty52 67 _⟩
                      have FF10 := Aside0.mk (F9.out.set (g := g) (o := 67) (.inl (.inl rfl)) (.slice A9 ((keepL (L.take i)).length + 1) c9))
                      have MM10 : Aside0 (Met (w9.setCell ⟨g, 67, none⟩ (.slice A9 ((keepL (L.take i)).length + 1) c9)) w.heap.size (ms.set cn (s cn + 1)) (bumpF s cn) (i + 1)) := ⟨MM4.out.mono (by rw [(set_fr w9 g 67 (.slice A9 ((keepL (L.take i)).length + 1) c9)).blk GM9.out (fun e => NG.out.1 e.symm)]; exact MM4.out.blk.symm) (Nat.le_refl _)⟩
                      have hil : (i : Int) ≤ 1100 := by have h1 := Hi.out; have h2 := HLL.out; omega
                      go_wp2
                      go_roundg q
                      case measure => omega
                      case rel => exact ⟨i + 1, bumpF s cn, ms.set cn (s cn + 1), _, by go_num, ⟨by have := Hi.out; omega⟩, HW9, MM10, HR10, RO10, OB9, FF10⟩
                    · have hlb9 : ((o.f1.length : Int) != longM cn) = true := by simpa using hle
                      have HOC : Aside0 (outO b m.op = 6) := ⟨by have h := ES3.out; rw [if_pos (.inr hle)] at h; exact h.symm⟩
                      refine start_ (n := 20) (S := fun w' => w'.cell? ⟨g4, 0, none⟩ = some (.int .i64 cn) ∧ w'.cell? ⟨g4, 1, none⟩ = some (.slice A1 o.f1.length c1) ∧ w'.cell? ⟨w.heap.size, cn, none⟩ = some (.int .i64 (s cn + 1))) (ds := []) #[false, false, false, false, false, false, false, false, false, false, false, false, false, false, false, false, false, false, false, false] (by kernel_rfl) rfl rfl ⟨k40, k41, km4⟩ (fun hHeld => ?_)
                      refine pure_ (i := 0) (N := some 46) (v := ?_) (a' := ?_) #[true, false, false, false, false, false, false, false, false, false, false, false, false, false, false, false, false, false, false, false] rfl rfl (by kernel_rfl) (fun _ _ _ h => h) (Or.inl ⟨by rfl, ?_⟩) ?_ ?_
                      rotate_left
                      · intro w'
                        go_simp
                        with_reducible rfl
                      rotate_left
                      · simp only [Act.put, List.setIfInBounds_toArray, List.set_cons_zero, List.set_cons_succ, i64_w, i32_w]
                        rfl
                      refine take_ (i := 1) (N := some 47) (v := ?_) (a' := ?_) #[true, true, false, false, false, false, false, false, false, false, false, false, false, false, false, false, false, false, false, false] rfl rfl (by kernel_rfl) (fun _ _ _ h => h) (Or.inl ⟨by rfl, ?_⟩) hHeld ?_ ?_
                      rotate_left
                      · rintro w' ⟨s0, s1, s2⟩
                        go_simp
                        with_reducible rfl
                      rotate_left
                      · simp only [Act.put, List.setIfInBounds_toArray, List.set_cons_zero, List.set_cons_succ, i64_w, i32_w]
                        rfl
                      refine pure_ (i := 2) (N := some 48) (v := ?_) (a' := ?_) #[true, true, true, false, false, false, false, false, false, false, false, false, false, false, false, false, false, false, false, false] rfl rfl (by kernel_rfl) (fun _ _ _ h => h) (Or.inl ⟨by rfl, ?_⟩) ?_ ?_
                      rotate_left
                      · intro w'
                        go_simp
                        with_reducible rfl
                      rotate_left
                      · simp only [Act.put, List.setIfInBounds_toArray, List.set_cons_zero, List.set_cons_succ, i64_w, i32_w]
                        rfl
                      refine take_ (i := 3) (N := some 49) (v := ?_) (a' := ?_) #[true, true, true, true, false, false, false, false, false, false, false, false, false, false, false, false, false, false, false, false] rfl rfl (by kernel_rfl) (fun _ _ _ h => h) (Or.inl ⟨by rfl, ?_⟩) hHeld ?_ ?_
                      rotate_left
                      · rintro w' ⟨s0, s1, s2⟩
                        go_simp
                        with_reducible rfl
                      rotate_left
                      · simp only [Act.put, List.setIfInBounds_toArray, List.set_cons_zero, List.set_cons_succ, i64_w, i32_w]
                        rfl
                      refine pure_ (i := 4) (N := some 50) (v := ?_) (a' := ?_) #[true, true, true, true, true, false, false, false, false, false, false, false, false, false, false, false, false, false, false, false] rfl rfl (by kernel_rfl) (fun _ _ _ h => h) (Or.inl ⟨by rfl, ?_⟩) ?_ ?_
                      rotate_left
                      · intro w'
                        go_simp
                        with_reducible rfl
                      rotate_left
                      · simp only [Act.put, List.setIfInBounds_toArray, List.set_cons_zero, List.set_cons_succ, i64_w, i32_w]
                        rfl
                      refine pure_ (i := 5) (N := some 51) (v := ?_) (a' := ?_) #[true, true, true, true, true, true, false, false, false, false, false, false, false, false, false, false, false, false, false, false] rfl rfl (by kernel_rfl) (fun _ _ _ h => h) (Or.inl ⟨by rfl, ?_⟩) ?_ ?_
                      rotate_left
                      · intro w'
                        go_simp
                        with_reducible rfl
                      rotate_left
                      · simp only [Act.put, List.setIfInBounds_toArray, List.set_cons_zero, List.set_cons_succ, i64_w, i32_w]
                        rfl
                      refine pure_ (i := 6) (N := some 52) (v := ?_) (a' := ?_) #[true, true, true, true, true, true, true, false, false, false, false, false, false, false, false, false, false, false, false, false] rfl rfl (by kernel_rfl) (fun _ _ _ h => h) (Or.inl ⟨by rfl, ?_⟩) ?_ ?_
                      rotate_left
                      · intro w'
                        go_simp
                        with_reducible rfl
                      rotate_left
                      · simp only [Act.put, List.setIfInBounds_toArray, List.set_cons_zero, List.set_cons_succ, i64_w, i32_w]
                        rfl
                      refine take_ (i := 7) (N := some 53) (v := ?_) (a' := ?_) #[true, true, true, true, true, true, true, true, false, false, false, false, false, false, false, false, false, false, false, false] rfl rfl (by kernel_rfl) (fun _ _ _ h => h) (Or.inl ⟨by rfl, ?_⟩) hHeld ?_ ?_
                      rotate_left
                      · rintro w' ⟨s0, s1, s2⟩
                        go_simp
                        with_reducible rfl
                      rotate_left
                      · simp only [Act.put, List.setIfInBounds_toArray, List.set_cons_zero, List.set_cons_succ, i64_w, i32_w]
                        rfl
                      refine pure_ (i := 8) (N := some 54) (v := ?_) (a' := ?_) #[true, true, true, true, true, true, true, true, true, false, false, false, false, false, false, false, false, false, false, false] rfl rfl (by kernel_rfl) (fun _ _ _ h => h) (Or.inl ⟨by rfl, ?_⟩) ?_ ?_
                      rotate_left
                      · intro w'
                        go_simp
                        with_reducible rfl
                      rotate_left
                      · simp only [Act.put, List.setIfInBounds_toArray, List.set_cons_zero, List.set_cons_succ, i64_w, i32_w]
                        rfl
                      refine pure_ (i := 9) (N := some 55) (v := ?_) (a' := ?_) #[true, true, true, true, true, true, true, true, true, true, false, false, false, false, false, false, false, false, false, false] rfl rfl (by kernel_rfl) (fun _ _ _ h => h) (Or.inl ⟨by rfl, ?_⟩) ?_ ?_
                      rotate_left
                      · intro w'
                        go_simp
                        with_reducible rfl
                      rotate_left
                      · simp only [Act.put, List.setIfInBounds_toArray, List.set_cons_zero, List.set_cons_succ, i64_w, i32_w]
                        rfl
                      refine pure_ (i := 10) (N := some 56) (v := ?_) (a' := ?_) #[true, true, true, true, true, true, true, true, true, true, true, false, false, false, false, false, false, false, false, false] rfl rfl (by kernel_rfl) (fun _ _ _ h => h) (Or.inl ⟨by rfl, ?_⟩) ?_ ?_
                      rotate_left
                      · intro w'
                        go_simp
                        with_reducible rfl
                      rotate_left
                      · simp only [Act.put, List.setIfInBounds_toArray, List.set_cons_zero, List.set_cons_succ, i64_w, i32_w]
                        rfl
                      refine pure_ (i := 11) (N := some 57) (v := ?_) (a' := ?_) #[true, true, true, true, true, true, true, true, true, true, true, true, false, false, false, false, false, false, false, false] rfl rfl (by kernel_rfl) (fun _ _ _ h => h) (Or.inl ⟨by rfl, ?_⟩) ?_ ?_
                      rotate_left
                      · intro w'
                        go_simp
                        with_reducible rfl
                      rotate_left
                      · simp only [Act.put, List.setIfInBounds_toArray, List.set_cons_zero, List.set_cons_succ, i64_w, i32_w]
                        rfl
                      refine pure_ (i := 14) (N := some 60) (v := ?_) (a' := ?_) #[true, true, true, true, true, true, true, true, true, true, true, true, false, false, true, false, false, false, false, false] rfl rfl (by kernel_rfl) (fun _ _ _ h => h) (Or.inl ⟨by rfl, ?_⟩) ?_ ?_
                      rotate_left
                      · intro w'
                        go_simp
                        with_reducible rfl
                      rotate_left
                      · simp only [Act.put, List.setIfInBounds_toArray, List.set_cons_zero, List.set_cons_succ, i64_w, i32_w]
                        rfl
                      refine take_ (i := 12) (N := some 58) (v := ?_) (a' := ?_) #[true, true, true, true, true, true, true, true, true, true, true, true, true, false, true, false, false, false, false, false] rfl rfl (by kernel_rfl) (fun _ _ _ h => h) (Or.inl ⟨by rfl, ?_⟩) hHeld ?_ ?_
                      rotate_left
                      · rintro w' ⟨s0, s1, s2⟩
                        go_simp
                        with_reducible rfl
                      rotate_left
                      · simp only [Act.put, List.setIfInBounds_toArray, List.set_cons_zero, List.set_cons_succ, i64_w, i32_w]
                        rfl
                      refine pure_ (i := 13) (N := some 59) (v := ?_) (a' := ?_) #[true, true, true, true, true, true, true, true, true, true, true, true, true, true, true, false, false, false, false, false] rfl rfl (by kernel_rfl) (fun _ _ _ h => h) (Or.inl ⟨by rfl, ?_⟩) ?_ ?_
                      rotate_left
                      · intro w'
                        go_simp
                        with_reducible rfl
                      rotate_left
                      · simp only [Act.put, List.setIfInBounds_toArray, List.set_cons_zero, List.set_cons_succ, i64_w, i32_w]
                        rfl
                      refine take_ (i := 15) (N := some 61) (v := ?_) (a' := ?_) #[true, true, true, true, true, true, true, true, true, true, true, true, true, true, true, true, false, false, false, false] rfl rfl (by kernel_rfl) (fun _ _ _ h => h) (Or.inl ⟨by rfl, ?_⟩) hHeld ?_ ?_
                      rotate_left
                      · rintro w' ⟨s0, s1, s2⟩
                        go_simp
                        with_reducible rfl
                      rotate_left
                      · simp only [Act.put, List.setIfInBounds_toArray, List.set_cons_zero, List.set_cons_succ, i64_w, i32_w]
                        rfl
                      refine one_ (i := 16) (N := some 62) #[true, true, true, true, true, true, true, true, true, true, true, true, true, true, true, true, true, false, false, false] rfl rfl (by kernel_rfl) (by decide) (fun K hK => ?_)
                      refine goes_ Try.func40 (by kernel_rfl) rfl #[.int .i64 cn] (by rfl) rfl rfl (by simp only [List.map_toArray, List.map_cons, List.map_nil]; rfl) ?_
                      with_reducible refine (long_calls cn _).mono ?_
                      rintro e w8 ⟨rfl, rfl⟩
                      refine ⟨_, rfl, ?_⟩
                      refine hK.out _ _ ⟨k40, k41, km4⟩ (fun hHeld => ?_)
                      clear hK K
                      refine norm_ (a' := ?_) ?_ ?_
                      rotate_left
                      · show Act.put _ (some 62) _ = _
                        simp only [Act.put, List.setIfInBounds_toArray, List.set_cons_zero, List.set_cons_succ, i64_w, i32_w]
                        rfl
                      refine pure_ (i := 17) (N := some 63) (v := ?_) (a' := ?_) #[true, true, true, true, true, true, true, true, true, true, true, true, true, true, true, true, true, true, false, false] rfl rfl (by kernel_rfl) (fun _ _ _ h => h) (Or.inl ⟨by rfl, ?_⟩) ?_ ?_
                      rotate_left
                      · intro w'
                        go_simp
                        with_reducible rfl
                      rotate_left
                      · simp only [Act.put, List.setIfInBounds_toArray, List.set_cons_zero, List.set_cons_succ, i64_w, i32_w]
                        rfl
                      refine pure_ (i := 18) (N := some 64) (v := ?_) (a' := ?_) #[true, true, true, true, true, true, true, true, true, true, true, true, true, true, true, true, true, true, true, false] rfl rfl (by kernel_rfl) (fun _ _ _ h => h) (Or.inl ⟨by rfl, ?_⟩) ?_ ?_
                      rotate_left
                      · intro w'
                        go_simp
                        with_reducible rfl
                      rotate_left
                      · simp only [Act.put, List.setIfInBounds_toArray, List.set_cons_zero, List.set_cons_succ, i64_w, i32_w]
                        rfl
                      refine one_ (i := 19) (N := some 65) #[true, true, true, true, true, true, true, true, true, true, true, true, true, true, true, true, true, true, true, true] rfl rfl (by kernel_rfl) (by decide) (fun K hK => ?_)
                      refine goesP_ Try.func22 (by kernel_rfl) rfl #[.bool true, .int .i64 6] (by rfl) rfl rfl (by simp only [List.map_toArray, List.map_cons, List.map_nil]; rfl) ?_
                      refine (refuse_bad 6 _).mono ?_
                      rintro e w8 ⟨he, rfl⟩
                      refine ⟨_, he, ?_⟩
                      exact ⟨rfl, OptPost.bad FW4.out.drew 6 HOC.out (by decide)⟩
                  · have h3b : ((cn : Int) != 3) = true := by simpa using h3
                    have HOC : Aside0 (outO b m.op = 6) := ⟨by have h := ES3.out; rw [if_pos (.inl ⟨hcnt, h3⟩)] at h; exact h.symm⟩
                    refine start_ (n := 20) (S := fun w' => w'.cell? ⟨g4, 0, none⟩ = some (.int .i64 cn) ∧ w'.cell? ⟨g4, 1, none⟩ = some (.slice A1 o.f1.length c1) ∧ w'.cell? ⟨w.heap.size, cn, none⟩ = some (.int .i64 (s cn + 1))) (ds := []) #[false, false, false, false, false, false, false, false, false, false, false, false, false, false, false, false, false, false, false, false] (by kernel_rfl) rfl rfl ⟨k40, k41, km4⟩ (fun hHeld => ?_)
                    refine pure_ (i := 0) (N := some 46) (v := ?_) (a' := ?_) #[true, false, false, false, false, false, false, false, false, false, false, false, false, false, false, false, false, false, false, false] rfl rfl (by kernel_rfl) (fun _ _ _ h => h) (Or.inl ⟨by rfl, ?_⟩) ?_ ?_
                    rotate_left
                    · intro w'
                      go_simp
                      with_reducible rfl
                    rotate_left
                    · simp only [Act.put, List.setIfInBounds_toArray, List.set_cons_zero, List.set_cons_succ, i64_w, i32_w]
                      rfl
                    refine take_ (i := 1) (N := some 47) (v := ?_) (a' := ?_) #[true, true, false, false, false, false, false, false, false, false, false, false, false, false, false, false, false, false, false, false] rfl rfl (by kernel_rfl) (fun _ _ _ h => h) (Or.inl ⟨by rfl, ?_⟩) hHeld ?_ ?_
                    rotate_left
                    · rintro w' ⟨s0, s1, s2⟩
                      go_simp
                      with_reducible rfl
                    rotate_left
                    · simp only [Act.put, List.setIfInBounds_toArray, List.set_cons_zero, List.set_cons_succ, i64_w, i32_w]
                      rfl
                    refine pure_ (i := 2) (N := some 48) (v := ?_) (a' := ?_) #[true, true, true, false, false, false, false, false, false, false, false, false, false, false, false, false, false, false, false, false] rfl rfl (by kernel_rfl) (fun _ _ _ h => h) (Or.inl ⟨by rfl, ?_⟩) ?_ ?_
                    rotate_left
                    · intro w'
                      go_simp
                      with_reducible rfl
                    rotate_left
                    · simp only [Act.put, List.setIfInBounds_toArray, List.set_cons_zero, List.set_cons_succ, i64_w, i32_w]
                      rfl
                    refine take_ (i := 3) (N := some 49) (v := ?_) (a' := ?_) #[true, true, true, true, false, false, false, false, false, false, false, false, false, false, false, false, false, false, false, false] rfl rfl (by kernel_rfl) (fun _ _ _ h => h) (Or.inl ⟨by rfl, ?_⟩) hHeld ?_ ?_
                    rotate_left
                    · rintro w' ⟨s0, s1, s2⟩
                      go_simp
                      with_reducible rfl
                    rotate_left
                    · simp only [Act.put, List.setIfInBounds_toArray, List.set_cons_zero, List.set_cons_succ, i64_w, i32_w]
                      rfl
                    refine pure_ (i := 4) (N := some 50) (v := ?_) (a' := ?_) #[true, true, true, true, true, false, false, false, false, false, false, false, false, false, false, false, false, false, false, false] rfl rfl (by kernel_rfl) (fun _ _ _ h => h) (Or.inl ⟨by rfl, ?_⟩) ?_ ?_
                    rotate_left
                    · intro w'
                      go_simp
                      with_reducible rfl
                    rotate_left
                    · simp only [Act.put, List.setIfInBounds_toArray, List.set_cons_zero, List.set_cons_succ, i64_w, i32_w]
                      rfl
                    refine pure_ (i := 5) (N := some 51) (v := ?_) (a' := ?_) #[true, true, true, true, true, true, false, false, false, false, false, false, false, false, false, false, false, false, false, false] rfl rfl (by kernel_rfl) (fun _ _ _ h => h) (Or.inl ⟨by rfl, ?_⟩) ?_ ?_
                    rotate_left
                    · intro w'
                      go_simp
                      with_reducible rfl
                    rotate_left
                    · simp only [Act.put, List.setIfInBounds_toArray, List.set_cons_zero, List.set_cons_succ, i64_w, i32_w]
                      rfl
                    refine pure_ (i := 6) (N := some 52) (v := ?_) (a' := ?_) #[true, true, true, true, true, true, true, false, false, false, false, false, false, false, false, false, false, false, false, false] rfl rfl (by kernel_rfl) (fun _ _ _ h => h) (Or.inl ⟨by rfl, ?_⟩) ?_ ?_
                    rotate_left
                    · intro w'
                      go_simp
                      with_reducible rfl
                    rotate_left
                    · simp only [Act.put, List.setIfInBounds_toArray, List.set_cons_zero, List.set_cons_succ, i64_w, i32_w]
                      rfl
                    refine take_ (i := 7) (N := some 53) (v := ?_) (a' := ?_) #[true, true, true, true, true, true, true, true, false, false, false, false, false, false, false, false, false, false, false, false] rfl rfl (by kernel_rfl) (fun _ _ _ h => h) (Or.inl ⟨by rfl, ?_⟩) hHeld ?_ ?_
                    rotate_left
                    · rintro w' ⟨s0, s1, s2⟩
                      go_simp
                      with_reducible rfl
                    rotate_left
                    · simp only [Act.put, List.setIfInBounds_toArray, List.set_cons_zero, List.set_cons_succ, i64_w, i32_w]
                      rfl
                    refine pure_ (i := 8) (N := some 54) (v := ?_) (a' := ?_) #[true, true, true, true, true, true, true, true, true, false, false, false, false, false, false, false, false, false, false, false] rfl rfl (by kernel_rfl) (fun _ _ _ h => h) (Or.inl ⟨by rfl, ?_⟩) ?_ ?_
                    rotate_left
                    · intro w'
                      go_simp
                      with_reducible rfl
                    rotate_left
                    · simp only [Act.put, List.setIfInBounds_toArray, List.set_cons_zero, List.set_cons_succ, i64_w, i32_w]
                      rfl
                    refine pure_ (i := 9) (N := some 55) (v := ?_) (a' := ?_) #[true, true, true, true, true, true, true, true, true, true, false, false, false, false, false, false, false, false, false, false] rfl rfl (by kernel_rfl) (fun _ _ _ h => h) (Or.inl ⟨by rfl, ?_⟩) ?_ ?_
                    rotate_left
                    · intro w'
                      go_simp
                      with_reducible rfl
                    rotate_left
                    · simp only [Act.put, List.setIfInBounds_toArray, List.set_cons_zero, List.set_cons_succ, i64_w, i32_w]
                      rfl
                    refine pure_ (i := 10) (N := some 56) (v := ?_) (a' := ?_) #[true, true, true, true, true, true, true, true, true, true, true, false, false, false, false, false, false, false, false, false] rfl rfl (by kernel_rfl) (fun _ _ _ h => h) (Or.inl ⟨by rfl, ?_⟩) ?_ ?_
                    rotate_left
                    · intro w'
                      go_simp
                      with_reducible rfl
                    rotate_left
                    · simp only [Act.put, List.setIfInBounds_toArray, List.set_cons_zero, List.set_cons_succ, i64_w, i32_w]
                      rfl
                    refine pure_ (i := 11) (N := some 57) (v := undef) (a' := ?_) #[true, true, true, true, true, true, true, true, true, true, true, true, false, false, false, false, false, false, false, false] rfl rfl (by kernel_rfl) (fun _ _ _ h => h) (Or.inr ⟨by rfl, rfl⟩) ?_ ?_
                    rotate_left
                    · simp only [Act.put, List.setIfInBounds_toArray, List.set_cons_zero, List.set_cons_succ, i64_w, i32_w]
                      rfl
                    refine pure_ (i := 12) (N := some 58) (v := undef) (a' := ?_) #[true, true, true, true, true, true, true, true, true, true, true, true, true, false, false, false, false, false, false, false] rfl rfl (by kernel_rfl) (fun _ _ _ h => h) (Or.inr ⟨by rfl, rfl⟩) ?_ ?_
                    rotate_left
                    · simp only [Act.put, List.setIfInBounds_toArray, List.set_cons_zero, List.set_cons_succ, i64_w, i32_w]
                      rfl
                    refine pure_ (i := 13) (N := some 59) (v := undef) (a' := ?_) #[true, true, true, true, true, true, true, true, true, true, true, true, true, true, false, false, false, false, false, false] rfl rfl (by kernel_rfl) (fun _ _ _ h => h) (Or.inr ⟨by rfl, rfl⟩) ?_ ?_
                    rotate_left
                    · simp only [Act.put, List.setIfInBounds_toArray, List.set_cons_zero, List.set_cons_succ, i64_w, i32_w]
                      rfl
                    refine pure_ (i := 14) (N := some 60) (v := undef) (a' := ?_) #[true, true, true, true, true, true, true, true, true, true, true, true, true, true, true, false, false, false, false, false] rfl rfl (by kernel_rfl) (fun _ _ _ h => h) (Or.inr ⟨by rfl, rfl⟩) ?_ ?_
                    rotate_left
                    · simp only [Act.put, List.setIfInBounds_toArray, List.set_cons_zero, List.set_cons_succ, i64_w, i32_w]
                      rfl
                    refine pure_ (i := 15) (N := some 61) (v := undef) (a' := ?_) #[true, true, true, true, true, true, true, true, true, true, true, true, true, true, true, true, false, false, false, false] rfl rfl (by kernel_rfl) (fun _ _ _ h => h) (Or.inr ⟨by rfl, rfl⟩) ?_ ?_
                    rotate_left
                    · simp only [Act.put, List.setIfInBounds_toArray, List.set_cons_zero, List.set_cons_succ, i64_w, i32_w]
                      rfl
                    refine pure_ (i := 16) (N := some 62) (v := undef) (a' := ?_) #[true, true, true, true, true, true, true, true, true, true, true, true, true, true, true, true, true, false, false, false] rfl rfl (by kernel_rfl) (fun _ _ _ h => h) (Or.inr ⟨by rfl, rfl⟩) ?_ ?_
                    rotate_left
                    · simp only [Act.put, List.setIfInBounds_toArray, List.set_cons_zero, List.set_cons_succ, i64_w, i32_w]
                      rfl
                    refine pure_ (i := 17) (N := some 63) (v := undef) (a' := ?_) #[true, true, true, true, true, true, true, true, true, true, true, true, true, true, true, true, true, true, false, false] rfl rfl (by kernel_rfl) (fun _ _ _ h => h) (Or.inr ⟨by rfl, rfl⟩) ?_ ?_
                    rotate_left
                    · simp only [Act.put, List.setIfInBounds_toArray, List.set_cons_zero, List.set_cons_succ, i64_w, i32_w]
                      rfl
                    refine pure_ (i := 18) (N := some 64) (v := ?_) (a' := ?_) #[true, true, true, true, true, true, true, true, true, true, true, true, true, true, true, true, true, true, true, false] rfl rfl (by kernel_rfl) (fun _ _ _ h => h) (Or.inl ⟨by rfl, ?_⟩) ?_ ?_
                    rotate_left
                    · intro w'
                      go_simp
                      with_reducible rfl
                    rotate_left
                    · simp only [Act.put, List.setIfInBounds_toArray, List.set_cons_zero, List.set_cons_succ, i64_w, i32_w]
                      rfl
                    refine one_ (i := 19) (N := some 65) #[true, true, true, true, true, true, true, true, true, true, true, true, true, true, true, true, true, true, true, true] rfl rfl (by kernel_rfl) (by decide) (fun K hK => ?_)
                    refine goesP_ Try.func22 (by kernel_rfl) rfl #[.bool true, .int .i64 6] (by rfl) rfl rfl (by simp only [List.map_toArray, List.map_cons, List.map_nil]; rfl) ?_
                    refine (refuse_bad 6 _).mono ?_
                    rintro e w8 ⟨he, rfl⟩
                    refine ⟨_, he, ?_⟩
                    exact ⟨rfl, OptPost.bad FW4.out.drew 6 HOC.out (by decide)⟩
                · have hcb9 := decide_eq_false hcnt
                  have HNO : Aside0 (¬ (s cn + 1 > 1 ∧ ¬ (cn : Int) = 3)) := ⟨fun h => hcnt h.1⟩
                  by_cases hle : (o.f1.length : Int) = longM cn
                  · have hlb9 : ((o.f1.length : Int) != longM cn) = false := by simpa using hle
                    have HW9 : Aside0 (wrM m.op (bumpF s cn) (L.drop (i + 1)) = outO b m.op) := ⟨by have h := ES3.out; rw [if_neg (by intro h2; rcases h2 with h2 | h2; exact HNO.out h2; exact h2 hle)] at h; exact h⟩
                    refine start_ (n := 20) (S := fun w' => w'.cell? ⟨g4, 0, none⟩ = some (.int .i64 cn) ∧ w'.cell? ⟨g4, 1, none⟩ = some (.slice A1 o.f1.length c1) ∧ w'.cell? ⟨w.heap.size, cn, none⟩ = some (.int .i64 (s cn + 1))) (ds := []) #[false, false, false, false, false, false, false, false, false, false, false, false, false, false, false, false, false, false, false, false] (by kernel_rfl) rfl rfl ⟨k40, k41, km4⟩ (fun hHeld => ?_)
                    refine pure_ (i := 0) (N := some 46) (v := ?_) (a' := ?_) #[true, false, false, false, false, false, false, false, false, false, false, false, false, false, false, false, false, false, false, false] rfl rfl (by kernel_rfl) (fun _ _ _ h => h) (Or.inl ⟨by rfl, ?_⟩) ?_ ?_
                    rotate_left
                    · intro w'
                      go_simp
                      with_reducible rfl
                    rotate_left
                    · simp only [Act.put, List.setIfInBounds_toArray, List.set_cons_zero, List.set_cons_succ, i64_w, i32_w]
                      rfl
                    refine take_ (i := 1) (N := some 47) (v := ?_) (a' := ?_) #[true, true, false, false, false, false, false, false, false, false, false, false, false, false, false, false, false, false, false, false] rfl rfl (by kernel_rfl) (fun _ _ _ h => h) (Or.inl ⟨by rfl, ?_⟩) hHeld ?_ ?_
                    rotate_left
                    · rintro w' ⟨s0, s1, s2⟩
                      go_simp
                      with_reducible rfl
                    rotate_left
                    · simp only [Act.put, List.setIfInBounds_toArray, List.set_cons_zero, List.set_cons_succ, i64_w, i32_w]
                      rfl
                    refine pure_ (i := 2) (N := some 48) (v := ?_) (a' := ?_) #[true, true, true, false, false, false, false, false, false, false, false, false, false, false, false, false, false, false, false, false] rfl rfl (by kernel_rfl) (fun _ _ _ h => h) (Or.inl ⟨by rfl, ?_⟩) ?_ ?_
                    rotate_left
                    · intro w'
                      go_simp
                      with_reducible rfl
                    rotate_left
                    · simp only [Act.put, List.setIfInBounds_toArray, List.set_cons_zero, List.set_cons_succ, i64_w, i32_w]
                      rfl
                    refine take_ (i := 3) (N := some 49) (v := ?_) (a' := ?_) #[true, true, true, true, false, false, false, false, false, false, false, false, false, false, false, false, false, false, false, false] rfl rfl (by kernel_rfl) (fun _ _ _ h => h) (Or.inl ⟨by rfl, ?_⟩) hHeld ?_ ?_
                    rotate_left
                    · rintro w' ⟨s0, s1, s2⟩
                      go_simp
                      with_reducible rfl
                    rotate_left
                    · simp only [Act.put, List.setIfInBounds_toArray, List.set_cons_zero, List.set_cons_succ, i64_w, i32_w]
                      rfl
                    refine pure_ (i := 4) (N := some 50) (v := ?_) (a' := ?_) #[true, true, true, true, true, false, false, false, false, false, false, false, false, false, false, false, false, false, false, false] rfl rfl (by kernel_rfl) (fun _ _ _ h => h) (Or.inl ⟨by rfl, ?_⟩) ?_ ?_
                    rotate_left
                    · intro w'
                      go_simp
                      with_reducible rfl
                    rotate_left
                    · simp only [Act.put, List.setIfInBounds_toArray, List.set_cons_zero, List.set_cons_succ, i64_w, i32_w]
                      rfl
                    refine pure_ (i := 5) (N := some 51) (v := ?_) (a' := ?_) #[true, true, true, true, true, true, false, false, false, false, false, false, false, false, false, false, false, false, false, false] rfl rfl (by kernel_rfl) (fun _ _ _ h => h) (Or.inl ⟨by rfl, ?_⟩) ?_ ?_
                    rotate_left
                    · intro w'
                      go_simp
                      with_reducible rfl
                    rotate_left
                    · simp only [Act.put, List.setIfInBounds_toArray, List.set_cons_zero, List.set_cons_succ, i64_w, i32_w]
                      rfl
                    refine pure_ (i := 6) (N := some 52) (v := undef) (a' := ?_) #[true, true, true, true, true, true, true, false, false, false, false, false, false, false, false, false, false, false, false, false] rfl rfl (by kernel_rfl) (fun _ _ _ h => h) (Or.inr ⟨by rfl, rfl⟩) ?_ ?_
                    rotate_left
                    · simp only [Act.put, List.setIfInBounds_toArray, List.set_cons_zero, List.set_cons_succ, i64_w, i32_w]
                      rfl
                    refine pure_ (i := 7) (N := some 53) (v := undef) (a' := ?_) #[true, true, true, true, true, true, true, true, false, false, false, false, false, false, false, false, false, false, false, false] rfl rfl (by kernel_rfl) (fun _ _ _ h => h) (Or.inr ⟨by rfl, rfl⟩) ?_ ?_
                    rotate_left
                    · simp only [Act.put, List.setIfInBounds_toArray, List.set_cons_zero, List.set_cons_succ, i64_w, i32_w]
                      rfl
                    refine pure_ (i := 8) (N := some 54) (v := undef) (a' := ?_) #[true, true, true, true, true, true, true, true, true, false, false, false, false, false, false, false, false, false, false, false] rfl rfl (by kernel_rfl) (fun _ _ _ h => h) (Or.inr ⟨by rfl, rfl⟩) ?_ ?_
                    rotate_left
                    · simp only [Act.put, List.setIfInBounds_toArray, List.set_cons_zero, List.set_cons_succ, i64_w, i32_w]
                      rfl
                    refine pure_ (i := 9) (N := some 55) (v := ?_) (a' := ?_) #[true, true, true, true, true, true, true, true, true, true, false, false, false, false, false, false, false, false, false, false] rfl rfl (by kernel_rfl) (fun _ _ _ h => h) (Or.inl ⟨by rfl, ?_⟩) ?_ ?_
                    rotate_left
                    · intro w'
                      go_simp
                      with_reducible rfl
                    rotate_left
                    · simp only [Act.put, List.setIfInBounds_toArray, List.set_cons_zero, List.set_cons_succ, i64_w, i32_w]
                      rfl
                    refine pure_ (i := 10) (N := some 56) (v := ?_) (a' := ?_) #[true, true, true, true, true, true, true, true, true, true, true, false, false, false, false, false, false, false, false, false] rfl rfl (by kernel_rfl) (fun _ _ _ h => h) (Or.inl ⟨by rfl, ?_⟩) ?_ ?_
                    rotate_left
                    · intro w'
                      go_simp
                      with_reducible rfl
                    rotate_left
                    · simp only [Act.put, List.setIfInBounds_toArray, List.set_cons_zero, List.set_cons_succ, i64_w, i32_w]
                      rfl
                    refine pure_ (i := 11) (N := some 57) (v := ?_) (a' := ?_) #[true, true, true, true, true, true, true, true, true, true, true, true, false, false, false, false, false, false, false, false] rfl rfl (by kernel_rfl) (fun _ _ _ h => h) (Or.inl ⟨by rfl, ?_⟩) ?_ ?_
                    rotate_left
                    · intro w'
                      go_simp
                      with_reducible rfl
                    rotate_left
                    · simp only [Act.put, List.setIfInBounds_toArray, List.set_cons_zero, List.set_cons_succ, i64_w, i32_w]
                      rfl
                    refine pure_ (i := 14) (N := some 60) (v := ?_) (a' := ?_) #[true, true, true, true, true, true, true, true, true, true, true, true, false, false, true, false, false, false, false, false] rfl rfl (by kernel_rfl) (fun _ _ _ h => h) (Or.inl ⟨by rfl, ?_⟩) ?_ ?_
                    rotate_left
                    · intro w'
                      go_simp
                      with_reducible rfl
                    rotate_left
                    · simp only [Act.put, List.setIfInBounds_toArray, List.set_cons_zero, List.set_cons_succ, i64_w, i32_w]
                      rfl
                    refine take_ (i := 12) (N := some 58) (v := ?_) (a' := ?_) #[true, true, true, true, true, true, true, true, true, true, true, true, true, false, true, false, false, false, false, false] rfl rfl (by kernel_rfl) (fun _ _ _ h => h) (Or.inl ⟨by rfl, ?_⟩) hHeld ?_ ?_
                    rotate_left
                    · rintro w' ⟨s0, s1, s2⟩
                      go_simp
                      with_reducible rfl
                    rotate_left
                    · simp only [Act.put, List.setIfInBounds_toArray, List.set_cons_zero, List.set_cons_succ, i64_w, i32_w]
                      rfl
                    refine pure_ (i := 13) (N := some 59) (v := ?_) (a' := ?_) #[true, true, true, true, true, true, true, true, true, true, true, true, true, true, true, false, false, false, false, false] rfl rfl (by kernel_rfl) (fun _ _ _ h => h) (Or.inl ⟨by rfl, ?_⟩) ?_ ?_
                    rotate_left
                    · intro w'
                      go_simp
                      with_reducible rfl
                    rotate_left
                    · simp only [Act.put, List.setIfInBounds_toArray, List.set_cons_zero, List.set_cons_succ, i64_w, i32_w]
                      rfl
                    refine take_ (i := 15) (N := some 61) (v := ?_) (a' := ?_) #[true, true, true, true, true, true, true, true, true, true, true, true, true, true, true, true, false, false, false, false] rfl rfl (by kernel_rfl) (fun _ _ _ h => h) (Or.inl ⟨by rfl, ?_⟩) hHeld ?_ ?_
                    rotate_left
                    · rintro w' ⟨s0, s1, s2⟩
                      go_simp
                      with_reducible rfl
                    rotate_left
                    · simp only [Act.put, List.setIfInBounds_toArray, List.set_cons_zero, List.set_cons_succ, i64_w, i32_w]
                      rfl
                    refine one_ (i := 16) (N := some 62) #[true, true, true, true, true, true, true, true, true, true, true, true, true, true, true, true, true, false, false, false] rfl rfl (by kernel_rfl) (by decide) (fun K hK => ?_)
                    refine goes_ Try.func40 (by kernel_rfl) rfl #[.int .i64 cn] (by rfl) rfl rfl (by simp only [List.map_toArray, List.map_cons, List.map_nil]; rfl) ?_
                    with_reducible refine (long_calls cn _).mono ?_
                    rintro e w8 ⟨rfl, rfl⟩
                    refine ⟨_, rfl, ?_⟩
                    refine hK.out _ _ ⟨k40, k41, km4⟩ (fun hHeld => ?_)
                    clear hK K
                    refine norm_ (a' := ?_) ?_ ?_
                    rotate_left
                    · show Act.put _ (some 62) _ = _
                      simp only [Act.put, List.setIfInBounds_toArray, List.set_cons_zero, List.set_cons_succ, i64_w, i32_w]
                      rfl
                    refine pure_ (i := 17) (N := some 63) (v := ?_) (a' := ?_) #[true, true, true, true, true, true, true, true, true, true, true, true, true, true, true, true, true, true, false, false] rfl rfl (by kernel_rfl) (fun _ _ _ h => h) (Or.inl ⟨by rfl, ?_⟩) ?_ ?_
                    rotate_left
                    · intro w'
                      go_simp
                      with_reducible rfl
                    rotate_left
                    · simp only [Act.put, List.setIfInBounds_toArray, List.set_cons_zero, List.set_cons_succ, i64_w, i32_w]
                      rfl
                    refine pure_ (i := 18) (N := some 64) (v := ?_) (a' := ?_) #[true, true, true, true, true, true, true, true, true, true, true, true, true, true, true, true, true, true, true, false] rfl rfl (by kernel_rfl) (fun _ _ _ h => h) (Or.inl ⟨by rfl, ?_⟩) ?_ ?_
                    rotate_left
                    · intro w'
                      go_simp
                      with_reducible rfl
                    rotate_left
                    · simp only [Act.put, List.setIfInBounds_toArray, List.set_cons_zero, List.set_cons_succ, i64_w, i32_w]
                      rfl
                    refine one_ (i := 19) (N := some 65) #[true, true, true, true, true, true, true, true, true, true, true, true, true, true, true, true, true, true, true, true] rfl rfl (by kernel_rfl) (by decide) (fun K hK => ?_)
                    refine goes_ Try.func22 (by kernel_rfl) rfl #[.bool false, .int .i64 6] (by rfl) rfl rfl (by simp only [List.map_toArray, List.map_cons, List.map_nil]; rfl) ?_
                    with_reducible refine (refuse_ok 6 _).mono ?_
                    rintro e w8 ⟨rfl, rfl⟩
                    refine ⟨_, rfl, ?_⟩
                    refine hK.out _ _ ⟨k40, k41, km4⟩ (fun hHeld => ?_)
                    clear hK K
                    refine norm_ (a' := ?_) ?_ ?_
                    rotate_left
                    · show Act.put _ (some 65) _ = _
                      simp only [Act.put, List.setIfInBounds_toArray, List.set_cons_zero, List.set_cons_succ, i64_w, i32_w]
                      rfl
                    refine done_ (by kernel_rfl) ?_
                    go_upto_region 9 with fail
                    have OV : Aside0 (v.oneCell' = true) := ⟨by obtain ⟨_, _, e⟩ := Kd.R_slice RO4.out; rw [e]; rfl⟩
                    have kos : w4.drew.drew.cell? ⟨g, 67, none⟩ = some v := HR4.out.kos ⟨HM.out.cl, HM.out.no, HM.out.wa, HM.out.fa, OV.out⟩
                    have HKL : Aside0 (((keepL (L.take i)).length + 1) * 32 ≤ 140737488355328) := ⟨by
                      have h1 : (keepL (L.take i)).length ≤ (L.take i).length := List.length_filter_le _ _
                      rw [List.length_take] at h1
                      have h2 := HLL.out
                      omega⟩
                    have F4S : Aside0 (w2.heap.size ≤ w4.heap.size) := ⟨FF4.out.size⟩
                    refine start_ (n := 13) (S := fun w' => w'.cell? ⟨g, 67, none⟩ = some v ∧ w'.cell? ⟨g4, 0, none⟩ = some (.int .i64 cn) ∧ w'.cell? ⟨g4, 1, none⟩ = some (.slice A1 o.f1.length c1)) (ds := [8, 12]) #[false, false, false, false, false, false, false, false, false, false, false, false, false] (by kernel_rfl) rfl rfl ⟨kos, k40, k41⟩ (fun hHeld => ?_)
                    refine pure_ (i := 0) (N := some 66) (v := ?_) (a' := ?_) #[true, false, false, false, false, false, false, false, false, false, false, false, false] rfl rfl (by kernel_rfl) (fun _ _ _ h => h) (Or.inl ⟨by rfl, ?_⟩) ?_ ?_
                    rotate_left
                    · intro w'
                      go_simp
                      with_reducible rfl
                    rotate_left
                    · simp only [Act.put, List.setIfInBounds_toArray, List.set_cons_zero, List.set_cons_succ, i64_w, i32_w]
                      rfl
                    refine pure_ (i := 1) (N := some 67) (v := ?_) (a' := ?_) #[true, true, false, false, false, false, false, false, false, false, false, false, false] rfl rfl (by kernel_rfl) (fun _ _ _ h => h) (Or.inl ⟨by rfl, ?_⟩) ?_ ?_
                    rotate_left
                    · intro w'
                      go_simp
                      with_reducible rfl
                    rotate_left
                    · simp only [Act.put, List.setIfInBounds_toArray, List.set_cons_zero, List.set_cons_succ, i64_w, i32_w]
                      rfl
                    refine pure_ (i := 2) (N := some 68) (v := ?_) (a' := ?_) #[true, true, true, false, false, false, false, false, false, false, false, false, false] rfl rfl (by kernel_rfl) (fun _ _ _ h => h) (Or.inl ⟨by rfl, ?_⟩) ?_ ?_
                    rotate_left
                    · intro w'
                      go_simp
                      with_reducible rfl
                    rotate_left
                    · simp only [Act.put, List.setIfInBounds_toArray, List.set_cons_zero, List.set_cons_succ, i64_w, i32_w]
                      rfl
                    refine pure_ (i := 3) (N := some 69) (v := ?_) (a' := ?_) #[true, true, true, true, false, false, false, false, false, false, false, false, false] rfl rfl (by kernel_rfl) (fun _ _ _ h => h) (Or.inl ⟨by rfl, ?_⟩) ?_ ?_
                    rotate_left
                    · intro w'
                      go_simp
                      with_reducible rfl
                    rotate_left
                    · simp only [Act.put, List.setIfInBounds_toArray, List.set_cons_zero, List.set_cons_succ, i64_w, i32_w]
                      rfl
                    refine pure_ (i := 4) (N := some 70) (v := ?_) (a' := ?_) #[true, true, true, true, true, false, false, false, false, false, false, false, false] rfl rfl (by kernel_rfl) (fun _ _ _ h => h) (Or.inl ⟨by rfl, ?_⟩) ?_ ?_
                    rotate_left
                    · intro w'
                      go_simp
                      with_reducible rfl
                    rotate_left
                    · simp only [Act.put, List.setIfInBounds_toArray, List.set_cons_zero, List.set_cons_succ, i64_w, i32_w]
                      rfl
                    refine take_ (i := 5) (N := some 71) (v := ?_) (a' := ?_) #[true, true, true, true, true, true, false, false, false, false, false, false, false] rfl rfl (by kernel_rfl) (fun _ _ _ h => h) (Or.inl ⟨by rfl, ?_⟩) hHeld ?_ ?_
                    rotate_left
                    · rintro w' ⟨s0, s1, s2⟩
                      go_simp
                      with_reducible rfl
                    rotate_left
                    · simp only [Act.put, List.setIfInBounds_toArray, List.set_cons_zero, List.set_cons_succ, i64_w, i32_w]
                      rfl
                    refine take_ (i := 6) (N := some 72) (v := ?_) (a' := ?_) #[true, true, true, true, true, true, true, false, false, false, false, false, false] rfl rfl (by kernel_rfl) (fun _ _ _ h => h) (Or.inl ⟨by rfl, ?_⟩) hHeld ?_ ?_
                    rotate_left
                    · rintro w' ⟨s0, s1, s2⟩
                      go_simp
                      with_reducible rfl
                    rotate_left
                    · simp only [Act.put, List.setIfInBounds_toArray, List.set_cons_zero, List.set_cons_succ, i64_w, i32_w]
                      rfl
                    refine one_ (i := 7) (N := some 73) #[true, true, true, true, true, true, true, true, false, false, false, false, false] rfl rfl (by kernel_rfl) (by decide) (fun K hK => ?_)
                    refine value_ (w1 := ?_) (v := ?_) (by rfl) rfl ?_ ?_
                    rotate_left 2
                    · go_simp
                      constructor
                      · rfl
                      · rfl
                    refine hK.out _ _ ⟨(cell_alloc_old (w := w4.drew.drew) kos _), (cell_alloc_old (w := w4.drew.drew) k40 _), (cell_alloc_old (w := w4.drew.drew) k41 _)⟩ (fun hHeld => ?_)
                    clear hK K
                    refine norm_ (a' := ?_) ?_ ?_
                    rotate_left
                    · show Act.put _ (some 73) _ = _
                      simp only [Act.put, List.setIfInBounds_toArray, List.set_cons_zero, List.set_cons_succ, i64_w, i32_w]
                      rfl
                    refine last_ (i := 8) (N := some 74) #[true, true, true, true, true, true, true, true, true, false, false, false, false] rfl rfl (by kernel_rfl) (by decide) (fun K hK => ?_)
                    refine Kd.R_append_step k45 (w0 := w4.drew.drew) w.heap.size (by rfl) (.tmp 71) (.tmp 73) 27 45 (.agg #[.int .i64 0, .slice none 0 0]) 32 rfl Try.underlying27 info45 rfl (by decide) (by decide) v (keepL (L.take i)) o [.int .i64 cn, .slice A1 o.f1.length c1] (fun _ => True) (fun k => k < w2.heap.size) rfl rfl (by rw [← HXF.out]; exact k45_mkM _ _ _ o DA4.out) (fun k hk => ⟨trivial, fun he => by have := OB.out k he.symm; omega⟩) (fun _ _ => trivial) (Kd.R_drew (Kd.R_drew RO4.out)) (Below.refl _ _) (by have := FW4.out.size; exact this) HKL.out ?_
                    intro v9 w9 hr9 _ hg9 hat9
                    have h67 := blk_grown (w := w4.drew.drew) HR4.out hg9 (fun he => by have := OB.out g he.symm; have := S2.out; omega)
                    have hgm := blk_grown (w := w4.drew.drew) MM4.out.blk hg9 (fun he => by have := OB.out _ he.symm; have := S2.out; omega)
                    have R9 := Aside0.mk hr9
                    have F9 : Aside0 (Fr w2 w9 (fun k => k = g ∨ k = w.heap.size)) := ⟨FF4.out.drew.drew.grown hg9 (fun k hk => .inr (OB.out k hk))⟩
                    have OB9 : Aside0 (∀ k, v9.ownBlock = some k → w2.heap.size ≤ k) := ⟨fun k hk => hat9.elim (fun e1 => OB.out k (by rw [← e1]; exact hk)) (fun ⟨bb, e1, e2⟩ => by rw [e1] at hk; injection hk with hk; subst hk; exact Nat.le_trans F4S.out e2)⟩
                    obtain ⟨A9, c9, rfl⟩ := Kd.R_slice hr9
                    have hl9 : (keepL (L.take i) ++ [o]).length = (keepL (L.take i)).length + 1 := by simp
                    rw [hl9] at R9 OB9 ⊢
                    clear hl9
                    have HR9 : Aside0 (RB w9 g A b.length c { m with os := v }) := ⟨h67⟩
                    have GM9 := Aside0.mk hgm
                    have k67 : w9.cell? ⟨g, 67, none⟩ = some v := HR9.out.kos ⟨HM.out.cl, HM.out.no, HM.out.wa, HM.out.fa, OV.out⟩
                    have f67 := HR9.out.fz 67
                    clear hr9 hg9 hat9 h67 hgm
                    refine hK.out _ _ ?_
                    clear hK K
                    refine norm_ (a' := ?_) ?_ ?_
                    rotate_left
                    · show Act.put _ (some 74) _ = _
                      simp only [Act.put, List.setIfInBounds_toArray, List.set_cons_zero, List.set_cons_succ, i64_w, i32_w]
                      rfl
                    refine pure_ (i := 9) (N := some 75) (v := ?_) (a' := ?_) #[true, true, true, true, true, true, true, true, true, true, false, false, false] rfl rfl (by kernel_rfl) (fun _ _ _ h => h) (Or.inl ⟨by rfl, ?_⟩) ?_ ?_
                    rotate_left
                    · intro w'
                      go_simp
                      with_reducible rfl
                    rotate_left
                    · simp only [Act.put, List.setIfInBounds_toArray, List.set_cons_zero, List.set_cons_succ, i64_w, i32_w]
                      rfl
                    refine pure_ (i := 10) (N := some 76) (v := ?_) (a' := ?_) #[true, true, true, true, true, true, true, true, true, true, true, false, false] rfl rfl (by kernel_rfl) (fun _ _ _ h => h) (Or.inl ⟨by rfl, ?_⟩) ?_ ?_
                    rotate_left
                    · intro w'
                      go_simp
                      with_reducible rfl
                    rotate_left
                    · simp only [Act.put, List.setIfInBounds_toArray, List.set_cons_zero, List.set_cons_succ, i64_w, i32_w]
                      rfl
                    refine pure_ (i := 11) (N := some 77) (v := ?_) (a' := ?_) #[true, true, true, true, true, true, true, true, true, true, true, true, false] rfl rfl (by kernel_rfl) (fun _ _ _ h => h) (Or.inl ⟨by rfl, ?_⟩) ?_ ?_
                    rotate_left
                    · intro w'
                      go_simp
                      with_reducible rfl
                    rotate_left
                    · simp only [Act.put, List.setIfInBounds_toArray, List.set_cons_zero, List.set_cons_succ, i64_w, i32_w]
                      rfl
                    refine last_ (i := 12) (N := none) #[true, true, true, true, true, true, true, true, true, true, true, true, true] rfl rfl (by kernel_rfl) (by decide) (fun K hK => ?_)
                    refine skip_ (w1 := w9.setCell ⟨g, 67, none⟩ (.slice A9 ((keepL (L.take i)).length + 1) c9)) (by rfl) rfl ?_ ?_
                    · first | (go_simp; done) | (go_simp; rfl)
                    refine hK.out _ _ ?_
                    clear hK K
                    refine done_ (by kernel_rfl) ?_
                    have HKP : Aside0 (keepL (L.take (i + 1)) = keepL (L.take i) ++ [o]) := ⟨by rw [HDR.out.2, keepL_snoc, if_pos (by rw [HXF.out]; have := HC3.out; omega)]⟩
                    have HR10 := Aside0.mk (HR9.out.os_ ⟨HM.out.cl, HM.out.no, HM.out.wa, HM.out.fa, OV.out⟩ (.slice A9 ((keepL (L.take i)).length + 1) c9))
                    have RO10 : Aside0 (k45.R 45 (w9.setCell ⟨g, 67, none⟩ (.slice A9 ((keepL (L.take i)).length + 1) c9)) w.heap.size (fun _ => True) (.slice A9 ((keepL (L.take i)).length + 1) c9) (keepL (L.take (i + 1)))) := ⟨by rw [HKP.out]; exact Kd.R_set R9.out HR9.out ty52 67 _⟩
                    have FF10 := Aside0.mk (F9.out.set (g := g) (o := 67) (.inl (.inl rfl)) (.slice A9 ((keepL (L.take i)).length + 1) c9))
                    have MM10 : Aside0 (Met (w9.setCell ⟨g, 67, none⟩ (.slice A9 ((keepL (L.take i)).length + 1) c9)) w.heap.size (ms.set cn (s cn + 1)) (bumpF s cn) (i + 1)) := ⟨MM4.out.mono (by rw [(set_fr w9 g 67 (.slice A9 ((keepL (L.take i)).length + 1) c9)).blk GM9.out (fun e => NG.out.1 e.symm)]; exact MM4.out.blk.symm) (Nat.le_refl _)⟩
                    have hil : (i : Int) ≤ 1100 := by have h1 := Hi.out; have h2 := HLL.out; omega
                    go_wp2
                    go_roundg q
                    case measure => omega
                    case rel => exact ⟨i + 1, bumpF s cn, ms.set cn (s cn + 1), _, by go_num, ⟨by have := Hi.out; omega⟩, HW9, MM10, HR10, RO10, OB9, FF10⟩
                  · have hlb9 : ((o.f1.length : Int) != longM cn) = true := by simpa using hle
                    have HOC : Aside0 (outO b m.op = 6) := ⟨by have h := ES3.out; rw [if_pos (.inr hle)] at h; exact h.symm⟩
                    refine start_ (n := 20) (S := fun w' => w'.cell? ⟨g4, 0, none⟩ = some (.int .i64 cn) ∧ w'.cell? ⟨g4, 1, none⟩ = some (.slice A1 o.f1.length c1) ∧ w'.cell? ⟨w.heap.size, cn, none⟩ = some (.int .i64 (s cn + 1))) (ds := []) #[false, false, false, false, false, false, false, false, false, false, false, false, false, false, false, false, false, false, false, false] (by kernel_rfl) rfl rfl ⟨k40, k41, km4⟩ (fun hHeld => ?_)
                    refine pure_ (i := 0) (N := some 46) (v := ?_) (a' := ?_) #[true, false, false, false, false, false, false, false, false, false, false, false, false, false, false, false, false, false, false, false] rfl rfl (by kernel_rfl) (fun _ _ _ h => h) (Or.inl ⟨by rfl, ?_⟩) ?_ ?_
                    rotate_left
                    · intro w'
                      go_simp
                      with_reducible rfl
                    rotate_left
                    · simp only [Act.put, List.setIfInBounds_toArray, List.set_cons_zero, List.set_cons_succ, i64_w, i32_w]
                      rfl
                    refine take_ (i := 1) (N := some 47) (v := ?_) (a' := ?_) #[true, true, false, false, false, false, false, false, false, false, false, false, false, false, false, false, false, false, false, false] rfl rfl (by kernel_rfl) (fun _ _ _ h => h) (Or.inl ⟨by rfl, ?_⟩) hHeld ?_ ?_
                    rotate_left
                    · rintro w' ⟨s0, s1, s2⟩
                      go_simp
                      with_reducible rfl
                    rotate_left
                    · simp only [Act.put, List.setIfInBounds_toArray, List.set_cons_zero, List.set_cons_succ, i64_w, i32_w]
                      rfl
                    refine pure_ (i := 2) (N := some 48) (v := ?_) (a' := ?_) #[true, true, true, false, false, false, false, false, false, false, false, false, false, false, false, false, false, false, false, false] rfl rfl (by kernel_rfl) (fun _ _ _ h => h) (Or.inl ⟨by rfl, ?_⟩) ?_ ?_
                    rotate_left
                    · intro w'
                      go_simp
                      with_reducible rfl
                    rotate_left
                    · simp only [Act.put, List.setIfInBounds_toArray, List.set_cons_zero, List.set_cons_succ, i64_w, i32_w]
                      rfl
                    refine take_ (i := 3) (N := some 49) (v := ?_) (a' := ?_) #[true, true, true, true, false, false, false, false, false, false, false, false, false, false, false, false, false, false, false, false] rfl rfl (by kernel_rfl) (fun _ _ _ h => h) (Or.inl ⟨by rfl, ?_⟩) hHeld ?_ ?_
                    rotate_left
                    · rintro w' ⟨s0, s1, s2⟩
                      go_simp
                      with_reducible rfl
                    rotate_left
                    · simp only [Act.put, List.setIfInBounds_toArray, List.set_cons_zero, List.set_cons_succ, i64_w, i32_w]
                      rfl
                    refine pure_ (i := 4) (N := some 50) (v := ?_) (a' := ?_) #[true, true, true, true, true, false, false, false, false, false, false, false, false, false, false, false, false, false, false, false] rfl rfl (by kernel_rfl) (fun _ _ _ h => h) (Or.inl ⟨by rfl, ?_⟩) ?_ ?_
                    rotate_left
                    · intro w'
                      go_simp
                      with_reducible rfl
                    rotate_left
                    · simp only [Act.put, List.setIfInBounds_toArray, List.set_cons_zero, List.set_cons_succ, i64_w, i32_w]
                      rfl
                    refine pure_ (i := 5) (N := some 51) (v := ?_) (a' := ?_) #[true, true, true, true, true, true, false, false, false, false, false, false, false, false, false, false, false, false, false, false] rfl rfl (by kernel_rfl) (fun _ _ _ h => h) (Or.inl ⟨by rfl, ?_⟩) ?_ ?_
                    rotate_left
                    · intro w'
                      go_simp
                      with_reducible rfl
                    rotate_left
                    · simp only [Act.put, List.setIfInBounds_toArray, List.set_cons_zero, List.set_cons_succ, i64_w, i32_w]
                      rfl
                    refine pure_ (i := 6) (N := some 52) (v := undef) (a' := ?_) #[true, true, true, true, true, true, true, false, false, false, false, false, false, false, false, false, false, false, false, false] rfl rfl (by kernel_rfl) (fun _ _ _ h => h) (Or.inr ⟨by rfl, rfl⟩) ?_ ?_
                    rotate_left
                    · simp only [Act.put, List.setIfInBounds_toArray, List.set_cons_zero, List.set_cons_succ, i64_w, i32_w]
                      rfl
                    refine pure_ (i := 7) (N := some 53) (v := undef) (a' := ?_) #[true, true, true, true, true, true, true, true, false, false, false, false, false, false, false, false, false, false, false, false] rfl rfl (by kernel_rfl) (fun _ _ _ h => h) (Or.inr ⟨by rfl, rfl⟩) ?_ ?_
                    rotate_left
                    · simp only [Act.put, List.setIfInBounds_toArray, List.set_cons_zero, List.set_cons_succ, i64_w, i32_w]
                      rfl
                    refine pure_ (i := 8) (N := some 54) (v := undef) (a' := ?_) #[true, true, true, true, true, true, true, true, true, false, false, false, false, false, false, false, false, false, false, false] rfl rfl (by kernel_rfl) (fun _ _ _ h => h) (Or.inr ⟨by rfl, rfl⟩) ?_ ?_
                    rotate_left
                    · simp only [Act.put, List.setIfInBounds_toArray, List.set_cons_zero, List.set_cons_succ, i64_w, i32_w]
                      rfl
                    refine pure_ (i := 9) (N := some 55) (v := ?_) (a' := ?_) #[true, true, true, true, true, true, true, true, true, true, false, false, false, false, false, false, false, false, false, false] rfl rfl (by kernel_rfl) (fun _ _ _ h => h) (Or.inl ⟨by rfl, ?_⟩) ?_ ?_
                    rotate_left
                    · intro w'
                      go_simp
                      with_reducible rfl
                    rotate_left
                    · simp only [Act.put, List.setIfInBounds_toArray, List.set_cons_zero, List.set_cons_succ, i64_w, i32_w]
                      rfl
                    refine pure_ (i := 10) (N := some 56) (v := ?_) (a' := ?_) #[true, true, true, true, true, true, true, true, true, true, true, false, false, false, false, false, false, false, false, false] rfl rfl (by kernel_rfl) (fun _ _ _ h => h) (Or.inl ⟨by rfl, ?_⟩) ?_ ?_
                    rotate_left
                    · intro w'
                      go_simp
                      with_reducible rfl
                    rotate_left
                    · simp only [Act.put, List.setIfInBounds_toArray, List.set_cons_zero, List.set_cons_succ, i64_w, i32_w]
                      rfl
                    refine pure_ (i := 11) (N := some 57) (v := ?_) (a' := ?_) #[true, true, true, true, true, true, true, true, true, true, true, true, false, false, false, false, false, false, false, false] rfl rfl (by kernel_rfl) (fun _ _ _ h => h) (Or.inl ⟨by rfl, ?_⟩) ?_ ?_
                    rotate_left
                    · intro w'
                      go_simp
                      with_reducible rfl
                    rotate_left
                    · simp only [Act.put, List.setIfInBounds_toArray, List.set_cons_zero, List.set_cons_succ, i64_w, i32_w]
                      rfl
                    refine pure_ (i := 14) (N := some 60) (v := ?_) (a' := ?_) #[true, true, true, true, true, true, true, true, true, true, true, true, false, false, true, false, false, false, false, false] rfl rfl (by kernel_rfl) (fun _ _ _ h => h) (Or.inl ⟨by rfl, ?_⟩) ?_ ?_
                    rotate_left
                    · intro w'
                      go_simp
                      with_reducible rfl
                    rotate_left
                    · simp only [Act.put, List.setIfInBounds_toArray, List.set_cons_zero, List.set_cons_succ, i64_w, i32_w]
                      rfl
                    refine take_ (i := 12) (N := some 58) (v := ?_) (a' := ?_) #[true, true, true, true, true, true, true, true, true, true, true, true, true, false, true, false, false, false, false, false] rfl rfl (by kernel_rfl) (fun _ _ _ h => h) (Or.inl ⟨by rfl, ?_⟩) hHeld ?_ ?_
                    rotate_left
                    · rintro w' ⟨s0, s1, s2⟩
                      go_simp
                      with_reducible rfl
                    rotate_left
                    · simp only [Act.put, List.setIfInBounds_toArray, List.set_cons_zero, List.set_cons_succ, i64_w, i32_w]
                      rfl
                    refine pure_ (i := 13) (N := some 59) (v := ?_) (a' := ?_) #[true, true, true, true, true, true, true, true, true, true, true, true, true, true, true, false, false, false, false, false] rfl rfl (by kernel_rfl) (fun _ _ _ h => h) (Or.inl ⟨by rfl, ?_⟩) ?_ ?_
                    rotate_left
                    · intro w'
                      go_simp
                      with_reducible rfl
                    rotate_left
                    · simp only [Act.put, List.setIfInBounds_toArray, List.set_cons_zero, List.set_cons_succ, i64_w, i32_w]
                      rfl
                    refine take_ (i := 15) (N := some 61) (v := ?_) (a' := ?_) #[true, true, true, true, true, true, true, true, true, true, true, true, true, true, true, true, false, false, false, false] rfl rfl (by kernel_rfl) (fun _ _ _ h => h) (Or.inl ⟨by rfl, ?_⟩) hHeld ?_ ?_
                    rotate_left
                    · rintro w' ⟨s0, s1, s2⟩
                      go_simp
                      with_reducible rfl
                    rotate_left
                    · simp only [Act.put, List.setIfInBounds_toArray, List.set_cons_zero, List.set_cons_succ, i64_w, i32_w]
                      rfl
                    refine one_ (i := 16) (N := some 62) #[true, true, true, true, true, true, true, true, true, true, true, true, true, true, true, true, true, false, false, false] rfl rfl (by kernel_rfl) (by decide) (fun K hK => ?_)
                    refine goes_ Try.func40 (by kernel_rfl) rfl #[.int .i64 cn] (by rfl) rfl rfl (by simp only [List.map_toArray, List.map_cons, List.map_nil]; rfl) ?_
                    with_reducible refine (long_calls cn _).mono ?_
                    rintro e w8 ⟨rfl, rfl⟩
                    refine ⟨_, rfl, ?_⟩
                    refine hK.out _ _ ⟨k40, k41, km4⟩ (fun hHeld => ?_)
                    clear hK K
                    refine norm_ (a' := ?_) ?_ ?_
                    rotate_left
                    · show Act.put _ (some 62) _ = _
                      simp only [Act.put, List.setIfInBounds_toArray, List.set_cons_zero, List.set_cons_succ, i64_w, i32_w]
                      rfl
                    refine pure_ (i := 17) (N := some 63) (v := ?_) (a' := ?_) #[true, true, true, true, true, true, true, true, true, true, true, true, true, true, true, true, true, true, false, false] rfl rfl (by kernel_rfl) (fun _ _ _ h => h) (Or.inl ⟨by rfl, ?_⟩) ?_ ?_
                    rotate_left
                    · intro w'
                      go_simp
                      with_reducible rfl
                    rotate_left
                    · simp only [Act.put, List.setIfInBounds_toArray, List.set_cons_zero, List.set_cons_succ, i64_w, i32_w]
                      rfl
                    refine pure_ (i := 18) (N := some 64) (v := ?_) (a' := ?_) #[true, true, true, true, true, true, true, true, true, true, true, true, true, true, true, true, true, true, true, false] rfl rfl (by kernel_rfl) (fun _ _ _ h => h) (Or.inl ⟨by rfl, ?_⟩) ?_ ?_
                    rotate_left
                    · intro w'
                      go_simp
                      with_reducible rfl
                    rotate_left
                    · simp only [Act.put, List.setIfInBounds_toArray, List.set_cons_zero, List.set_cons_succ, i64_w, i32_w]
                      rfl
                    refine one_ (i := 19) (N := some 65) #[true, true, true, true, true, true, true, true, true, true, true, true, true, true, true, true, true, true, true, true] rfl rfl (by kernel_rfl) (by decide) (fun K hK => ?_)
                    refine goesP_ Try.func22 (by kernel_rfl) rfl #[.bool true, .int .i64 6] (by rfl) rfl rfl (by simp only [List.map_toArray, List.map_cons, List.map_nil]; rfl) ?_
                    refine (refuse_bad 6 _).mono ?_
                    rintro e w8 ⟨he, rfl⟩
                    refine ⟨_, he, ?_⟩
                    exact ⟨rfl, OptPost.bad FW4.out.drew 6 HOC.out (by decide)⟩)
          · have HKN : Aside0 (decide (1 ≤ xf ∧ xf ≤ 3) = false) := ⟨decide_eq_false hkn⟩
            have HOC : Aside0 (outO b m.op = 5) := ⟨by have h := ES.out; rw [if_neg h128, if_pos hkn] at h; exact h.symm⟩
            clear hkn
            go_wp2_with fail
            refine (Known_calls _ _).mono ?_
            rintro e w3 ⟨rfl, rfl⟩
            rw [HKN.out]
            go_wp2_with fail
            refine (refuse_bad 5 _).mono ?_
            rintro e w5 ⟨he, rfl⟩
            unfold thrown at he
            subst he
            exact ⟨rfl, OptPost.bad FW3.out 5 HOC.out (by decide)⟩
end Go.Proofs.Ytpjkbokojlpjoaa.Ak
