/- sector.Disk: Outcomes behind outcomes that wait; Sync that is lost; Write and Sync whatever the outcome. -/
import Derived.Test.YtdnjjhdhldgcmaaSec13
namespace Go.Proofs.Ytdnjjhdhldgcmaa.Sec
open Go.RowKit Go.Proofs.YtdnjjhdhldgcmaaW.PrintWords Go.Proofs.YtdnjjhdhldgcmaaW.PrintLast Go.Proofs.YtdnjjhdhldgcmaaW.PrintMore Go.Proofs.Ytdnjjhdhldgcmaa.Bs Go.Proofs.Ytdnjjhdhldgcmaa.Fr
set_option linter.unusedVariables false
set_option linter.unusedSimpArgs false

theorem load0 (P : Program) (W : World) (a : Addr) : (loadCells a 0).run P W = .ok #[] W := rfl
section
variable {P : Program} {ops : Array Oper} {rest : List Oper} {o : Oper} {a : Act} {Q' : Exit → Act → World → Prop} {α : Type}
/-- append(v, ys...) onto a queue's row. -/
theorem Q_append_rows (d : Kd α) {Rr : α → List Value → Prop} {w0 W : World} (base : Nat) (hgd : o.guard = none) (s x : Operand) (t e : TypeId) (z : Value) (bytes : Nat)
    (ho : o.op = .call { callee := .builtin .append, args := #[s, x], argTypes := #[t, t] })
    (ht : P.underlying t = some (.slice e)) (hinfo : (P.info? e).map (fun i => (i.zero, i.size, i.bytes)) = some (some z, d.sz, bytes)) (hz : z.cells.size = d.sz) (hs0 : 0 < d.sz) (hb0 : 0 < bytes)
    (v : Value) (xs ys : List α) (A : Option Addr) (m c : Nat) (ok okp : Nat → Prop) (hs : a.eval s = v) (hx : a.eval x = .slice A m c)
    (HO : d.Q e W base ok v xs) (HR : ReadsRow Rr d.sz W A m ys) (hKM : ∀ x cs, Rr x cs → d.M W base okp x cs) (hokp : ∀ k, okp k → ok k ∧ some k ≠ v.ownBlock) (hfresh : ∀ k, W.heap.size ≤ k → ok k)
    (HB : Below base w0 W) (hbase : base ≤ W.heap.size) (hl : (xs.length + m) * bytes ≤ 140737488355328)
    (h : ∀ v1 w1, d.Q e w1 base ok v1 (xs ++ ys) → Below base w0 w1 → W.grownBy w1 v.ownBlock → (v1.ownBlock = v.ownBlock ∨ ∃ b, v1.ownBlock = some b ∧ W.heap.size ≤ b) → wpList P ops Q' rest (a.put o.dst v1) w1) :
    wpList P ops Q' (o :: rest) a W := by
  obtain ⟨i0, hi, hzz⟩ := Option.map_eq_some_iff.1 hinfo
  simp only [Prod.mk.injEq] at hzz
  obtain ⟨hz0, hz1, hz2⟩ := hzz
  have hm : ys.length = m := HR.1
  have hlen : xs.length + m ≤ 140737488355328 := Nat.le_trans (Nat.le_mul_of_pos_right _ hb0) hl
  obtain ⟨hok, inner, hown, hr⟩ := HO
  have hrun : ∃ v1 w1, (Builtin.append_ #[t, t] o.type #[v, .slice A m c]).run P W = .ok v1 w1 ∧ d.Q e w1 base ok v1 (xs ++ ys) ∧ W.grownBy w1 v.ownBlock ∧ (v1.ownBlock = v.ownBlock ∨ ∃ b, v1.ownBlock = some b ∧ W.heap.size ≤ b) := by
    rcases Nat.eq_zero_or_pos m with h0 | h0
    · subst h0
      obtain rfl : ys = [] := List.eq_nil_of_length_eq_zero hm
      refine ⟨v, W, ?_, by rw [List.append_nil]; exact ⟨hok, inner, hown, hr⟩, World.grownBy.refl W _, .inl rfl⟩
      rcases hown.2 with ⟨hn, B, rfl, _⟩ | ⟨g, off, cap, cur, rfl, _, _, hnc, _⟩
      · cases A <;> cases B <;> simp [Builtin.append_, run_underlying ht, sizeOf, typeInfo, hi, Builtin.lenOf, Builtin.firstCells, hn, storeCells, load0, Result.andThen]
      · cases A <;> simp [Builtin.append_, run_underlying ht, sizeOf, typeInfo, hi, Builtin.lenOf, Builtin.firstCells, hnc, storeCells, load0, Result.andThen]
    · obtain ⟨ad, rfl, _⟩ := HR.2.2 h0
      obtain ⟨news, hnr, hnc⟩ := ReadsRow.inner_ HR
      have hnM : Reps (d.M W base okp) d.sz ys news := hnr.imp_ (fun p c hp => hKM p c hp)
      have hone : ∀ u ∈ news, u.oneCell' = true := by
        intro u hu
        obtain ⟨q, hq, rfl⟩ := List.mem_iff_getElem.1 hu
        have hql : q / d.sz < ys.length := by
          rw [Nat.div_lt_iff_lt_mul hs0]
          rw [← hnM.1]
          exact hq
        have hc := hnM.2 (q / d.sz) _ (List.getElem?_eq_getElem hql)
        refine d.K_one (d.K_of_M hc) _ ?_
        rw [List.mem_iff_getElem?]
        refine ⟨q % d.sz, ?_⟩
        rw [List.getElem?_take, if_pos (Nat.mod_lt _ hs0), List.getElem?_drop, Nat.mul_comm, Nat.div_add_mod, List.getElem?_eq_getElem hq]
      obtain ⟨v1, w1, hrun, h2, hg, hat'⟩ := q_append (P := P) W base t o.type e i0 z d.sz bytes ht hi hz0 hz1 hz2 hz hs0 v xs.length inner hown ad m c news (by rw [hnM.1, hm]) hnc hone h0 (by simp only [maxLen]; omega) hl hbase
      have hne : ∀ k, some k ≠ v.ownBlock → k < W.heap.size → some k ≠ v1.ownBlock := by
        intro k hk hlt
        rcases hat' with hat | ⟨b, hb, hle⟩
        · rw [hat]; exact hk
        · rw [hb]
          intro he
          injection he with he
          omega
      have step : ∀ {q : α} {c : List Value} {o : Nat → Prop}, d.M W base o q c → (∀ k, o k → ok k ∧ some k ≠ v.ownBlock) → d.M w1 base (fun k => ok k ∧ some k ≠ v1.ownBlock) q c := by
        intro q c o hq ho
        have h1 := d.M_move (w1 := w1) (fun k hk => hg.block k hk.2.2.1 (ho k hk.1).2) (d.M_bound hq)
        exact d.M_mono (fun k hk => ⟨(ho k hk.1).1, hne k (ho k hk.1).2 hk.2.2.1⟩) h1
      refine ⟨v1, w1, hrun, ⟨fun k hk => ?_, inner ++ news, by rw [List.length_append, hm]; exact h2, Kd.reps_append (hr.imp_ (fun _ _ hq => step hq (fun _ hk => hk))) (hnM.imp_ (fun _ _ hq => step hq hokp))⟩, hg, hat'⟩
      rcases hat' with hat | ⟨b, hb, hle⟩
      · exact hok k (hat ▸ hk)
      · rw [hb] at hk
        injection hk with hk
        exact hfresh k (by omega)
  obtain ⟨v1, w1, hr1, h1, hg, hat⟩ := hrun
  refine wpList_plain hgd fun K hK => ?_
  unfold Oper.wp execOp
  simp only [ho, resolve, invoke, builtin, Sem.run_bind, Sem.run_pure, Result.andThen_ok, List.map_toArray, List.map_cons, List.map_nil, hs, hx, hr1]
  exact hK _ _ (h v1 w1 h1 (HB.grown hg hbase (fun k hk => (q_typed hown k hk).1)) hg hat)
end
/-- Only the row of outcomes was written. -/
theorem DV.grown {w w1 : World} {base g : Nat} {v0 v1 v2 v3 : Value} {m : DM} (h : DV w base g v0 v1 v2 v3 m) (hg : w.grownBy w1 v3.ownBlock) :
    w1.heap[g]? = some (.cells #[v0, v1, v2, v3, .int .i64 m.ops, .func (.func 73) #[.pointer (some ⟨g, 0, none⟩)] #[]] 88 (0, 0)) ∧
    Kd.R kB 89 w1 base (fun _ => True) v0 m.sure ∧ Kd.R kB 89 w1 base (fun _ => True) v1 m.now ∧ Kd.R kW 91 w1 base (fun _ => True) v2 m.since ∧ Fr w w1 (own v3) := by
  have fr : Fr w w1 (own v3) := Fr.grown (Fr.refl w _) hg (fun k hk => .inl hk)
  have ty : ∀ k, own v3 k → ∃ cells, w.heap[k]? = some (.cells cells 5 (0, 0)) := fun k hk => Kd.Q_typed h.wait k hk
  refine ⟨fr.blk h.blk (fun hk => h.ne.2.2.2 hk), R_fr h.sure rfl fr ?_, R_fr h.now rfl fr ?_, R_fr h.since rfl fr ?_, fr⟩
  · intro k hk hk3
    obtain ⟨cells, hc⟩ := ty k hk3
    exact Kd.R_ne h.sure hc (by decide) hk.symm
  · intro k hk hk3
    obtain ⟨cells, hc⟩ := ty k hk3
    exact Kd.R_ne h.now hc (by decide) hk.symm
  · intro k hk hk3
    obtain ⟨cells, hc⟩ := ty k hk3
    exact Kd.R_ne h.since hc (by decide) hk.symm
set_option maxHeartbeats 1000000 in
set_option maxRecDepth 100000 in
theorem Outcomes_calls (w : World) (base g : Nat) (v0 v1 v2 v3 : Value) (m : DM) (h : DV w base g v0 v1 v2 v3 m) (A : Option Addr) (c : Nat) (l : List Int) (hC : Kd.C (Kd.int .u8) w A l.length l) (hl : m.wait.length + l.length ≤ 100000000) (hby : ∀ x ∈ l, 0 ≤ x ∧ x ≤ 255) (hb : base ≤ w.heap.size) :
    Calls Try.prog 27 #[.pointer (some ⟨g, 0, none⟩), .slice A l.length c] w fun e w' => e = .returned (.tuple #[]) ∧ ∃ v3', DV w' base g v0 v1 v2 v3' (waits m (m.wait ++ l)) ∧ Fr w w' (foot g v0 v1 v2 v3) ∧ ∀ k, foot g v0 v1 v2 v3' k → foot g v0 v1 v2 v3 k ∨ w.heap.size ≤ k := by
  have H := Aside0.mk h
  have HC := Aside0.mk hC
  have HB := Aside0.mk hb
  have HBY := Aside0.mk hby
  have HL := Aside0.mk hl
  have hn : ((m.now.length : Int) > 0) := by have := h.n1; omega
  obtain ⟨A3, c3, rfl, hcl⟩ := Kd.Q_slice h.wait
  have k3 : w.cell? ⟨g, 3, none⟩ = some (.slice A3 m.wait.length c3) := blk_cell h.blk 3
  have f3 : w.frozen? ⟨g, 3, none⟩ = false := blk_frozen h.blk 3
  clear h hC hb hby hl
  go_enter Try.func27, Try.ntmps27
  go_wp2_with (first
    | (go_at_call 54; refine (Size_calls _ _ _ _ _ _ _ m H.out).mono ?_; rintro e w1 ⟨rfl, rfl⟩)
    | ((with_reducible refine gate_builtin (b := .append) (xs := #[.tmp 11, .tmp 12]) rfl ?_); at_builtin; refine Q_append_rows (Kd.int .u8) (Rr := (Kd.int .u8).K w) (w0 := w) base rfl (.tmp 11) (.tmp 12) 23 5 (.int .u8 0) 1 rfl Try.underlying23 info_u8 rfl (by decide) (by decide) (.slice A3 m.wait.length c3) m.wait l A l.length c (fun _ => True) (fun _ => False) rfl rfl H.out.wait HC.out (fun x cs hK => hK) (fun _ hk => hk.elim) (fun _ _ => trivial) (Below.refl _ _) HB.out (by have := HL.out; omega) ?_; intro v5 w1 ho hb1 hg1 hat1; obtain ⟨A5, c5, rfl, _⟩ := Kd.Q_slice ho; rw [List.length_append] at ho hat1; have HO := Aside0.mk ho; have HG1 := Aside0.mk hg1; have HAT := Aside0.mk hat1; have d1 := H.out.grown hg1; have k3 : w1.cell? ⟨g, 3, none⟩ = some (.slice A3 m.wait.length c3) := blk_cell d1.1 3; have f3 : w1.frozen? ⟨g, 3, none⟩ = false := blk_frozen d1.1 3; have D1 := Aside0.mk d1; clear ho hb1 hg1 hat1 d1))
  first | go_end0 | ((try simp only [Exit.inBlock, Exit.then]); refine bodyPost_ret (results_none rfl _ _ _) rfl ?_)
  have d := D1.out
  have h := H.out
  have hlt := blk_lt h.blk
  obtain ⟨n0, n1, n2, n3⟩ := h.ne
  generalize hv5 : Value.slice A5 (m.wait.length + l.length) c5 = v5 at *
  have fs : Fr w1 (w1.setCell ⟨g, 3, none⟩ v5) (fun k => k = g) := Fr.set (g := g) (o := 3) (F := fun k => k = g) (Fr.refl w1 _) (.inl rfl) _
  have hne : ∀ k, own v5 k → ¬ k = g := fun k hk he => by
    subst he
    rcases HAT.out with hat | ⟨b, hb, hle⟩
    · exact n3 (by unfold own at hk ⊢; rw [← hat]; exact hk)
    · unfold own at hk
      rw [hb] at hk
      injection hk with hk
      omega
  refine ⟨rfl, v5, ⟨blk_set d.1 3 _, R_fr d.2.1 rfl fs (fun k hk he => n0 (he ▸ hk)), R_fr d.2.2.1 rfl fs (fun k hk he => n1 (he ▸ hk)), R_fr d.2.2.2.1 rfl fs (fun k hk he => n2 (he ▸ hk)), Q_fr HO.out rfl fs hne, h.ap, ?_, h.len, h.n1, h.n2, h.at_, h.ge⟩, ?_, ?_⟩
  · intro x hx
    rcases List.mem_append.1 hx with hx | hx
    · exact h.byt x hx
    · exact HBY.out x hx
  · exact (d.2.2.2.2.mono (F2 := foot g v0 v1 v2 (.slice A3 m.wait.length c3)) (fun k hk => .inr (.inr (.inr (.inr hk))))).trans fs (fun k hk => .inl (.inl hk))
  · rintro k (hk | hk | hk | hk | hk)
    · exact .inl (.inl hk)
    · exact .inl (.inr (.inl hk))
    · exact .inl (.inr (.inr (.inl hk)))
    · exact .inl (.inr (.inr (.inr (.inl hk))))
    · rcases HAT.out with hat | ⟨b, hb, hle⟩
      · exact .inl (.inr (.inr (.inr (.inr (by unfold own at hk ⊢; rw [← hat]; exact hk)))))
      · unfold own at hk
        rw [hb] at hk
        injection hk with hk
        exact .inr (by omega)
set_option maxHeartbeats 1000000 in
set_option maxRecDepth 100000 in
theorem Sync_lost (w : World) (base g : Nat) (v0 v1 v2 v3 : Value) (m : DM) (h : DV w base g v0 v1 v2 v3 m) (ho : 0 ≤ m.ops ∧ m.ops ≤ 1000000000) (hx : outc m = 1) :
    Calls Try.prog 26 #[.pointer (some ⟨g, 0, none⟩)] w fun e w' => e = .returned (.int .i64 8) ∧
      ∃ v3', DV w' base g v0 v1 v2 v3' (took m) ∧ Fr w w' (foot g v0 v1 v2 v3) ∧ ∀ k, own v3' k → own v3 k := by
  have H := Aside0.mk h
  have HO := Aside0.mk ho
  have hn0 : ((m.now.length : Int) == 0) = false := beq_eq_false_iff_ne.mpr (by have := h.n1; omega)
  have k5 : w.cell? ⟨g, 5, none⟩ = some (.func (.func 73) #[.pointer (some ⟨g, 0, none⟩)] #[]) := blk_cell h.blk 5
  have HX := Aside0.mk hx
  clear h ho hx
  go_enter Try.func26, Try.ntmps26
  go_wp2_with (first
    | (go_at_call 54; refine (Size_calls _ _ _ _ _ _ _ m H.out).mono ?_; rintro e w1 ⟨rfl, rfl⟩)
    | (go_at_call 73; refine (next_calls _ _ _ _ _ _ _ m H.out HO.out).mono ?_; rintro e w1 ⟨rfl, v3a, hd, hsub, hfr⟩; rw [HX.out]; have H1 := Aside0.mk hd; have HF1 := Aside0.mk hfr; have HV1 := Aside0.mk hsub; clear hd hfr hsub k5)
    | (go_at_call 55; refine (told_calls 1 _).mono ?_; rintro e w6 ⟨rfl, rfl⟩))
  go_ret
  exact ⟨rfl, v3a, H1.out, HF1.out.mono (fun k hk => .inl hk), HV1.out⟩
/-- What a Write leaves and tells, whatever is handed in and whatever outcome waits. -/
def fits (m : DM) (i : Int) (b : List Int) : Prop := 0 ≤ i ∧ i < (m.now.length : Int) ∧ b.length = 64
instance (m : DM) (i : Int) (b : List Int) : Decidable (fits m i b) := by unfold fits; infer_instance
def wrM (m : DM) (i : Int) (b : List Int) : DM := if fits m i b then (if outc m = 1 then took m else wrote m i.toNat b) else m
def wrE (m : DM) (i : Int) (b : List Int) : Int := if fits m i b then tell (outc m) else 1
def syM (m : DM) : DM := if outc m = 1 then took m else synced m
def syV (m : DM) (v2 : Value) : Value := if outc m = 1 then v2 else .slice none 0 0
theorem Write_all (w : World) (base g : Nat) (v0 v1 v2 v3 : Value) (m : DM) (h : DV w base g v0 v1 v2 v3 m) (ho : 0 ≤ m.ops ∧ m.ops ≤ 1000000000) (hs : m.since.length ≤ 1000000) (i : Int)
    (A : Option Addr) (c : Nat) (b : List Int) (hb : b.length = 64 → ∃ gb, A = some ⟨gb, 0, none⟩ ∧ w.rangeAt gb 0 (encs (Value.int .u8) b) ∧ gb ≠ g) (hg : base ≤ w.heap.size) :
    Calls Try.prog 20 #[.pointer (some ⟨g, 0, none⟩), .int .i64 i, .slice A b.length c] w fun e w' => e = .returned (.int .i64 (wrE m i b)) ∧ ∃ v2' v3', DV w' base g v0 v1 v2' v3' (wrM m i b) ∧ Fr w w' (foot g v0 v1 v2 v3) ∧ ∀ k, foot g v0 v1 v2' v3' k → foot g v0 v1 v2 v3 k ∨ w.heap.size ≤ k := by
  unfold wrM wrE
  by_cases hc : fits m i b
  · rw [if_pos hc, if_pos hc]
    have hc : 0 ≤ i ∧ i < (m.now.length : Int) ∧ b.length = 64 := hc
    obtain ⟨n, rfl⟩ := Int.eq_ofNat_of_zero_le hc.1
    obtain ⟨gb, rfl, h1, h2⟩ := hb hc.2.2
    rw [hc.2.2, Int.toNat_natCast]
    by_cases hx : outc m = 1
    · rw [if_pos hx, hx]
      refine (Write_lost w base g v0 v1 v2 v3 m h ho n (by omega) (some ⟨gb, 0, none⟩) c hx).mono ?_
      rintro e w' ⟨rfl, v3', hd, hf, hv⟩
      refine ⟨rfl, v2, v3', hd, hf, ?_⟩
      rintro k (hk | hk | hk | hk | hk)
      · exact .inl (.inl hk)
      · exact .inl (.inr (.inl hk))
      · exact .inl (.inr (.inr (.inl hk)))
      · exact .inl (.inr (.inr (.inr (.inl hk))))
      · exact .inl (.inr (.inr (.inr (.inr (hv k hk)))))
    · rw [if_neg hx]
      refine (Write_done w base g v0 v1 v2 v3 m h ho hs n (by omega) gb c b hc.2.2 h1 hx hg h2).mono ?_
      rintro e w' ⟨rfl, v2', v3', hd, hf, hft, _⟩
      exact ⟨rfl, v2', v3', hd, hf, hft⟩
  · rw [if_neg hc, if_neg hc]
    unfold fits at hc
    refine (Write_bad w base g v0 v1 v2 v3 m h i A b.length c (by omega)).mono ?_
    rintro e w' ⟨rfl, rfl⟩
    exact ⟨rfl, v2, v3, h, Fr.refl _ _, fun k hk => .inl hk⟩
theorem Sync_all (w : World) (base g : Nat) (v0 v1 v2 v3 : Value) (m : DM) (h : DV w base g v0 v1 v2 v3 m) (ho : 0 ≤ m.ops ∧ m.ops ≤ 1000000000) (hs : m.since.length ≤ 1000000) (hg : base ≤ w.heap.size) :
    Calls Try.prog 26 #[.pointer (some ⟨g, 0, none⟩)] w fun e w' => e = .returned (.int .i64 (tell (outc m))) ∧
      ∃ v2' v3', DV w' base g v0 v1 v2' v3' (syM m) ∧ Fr w w' (foot g v0 v1 v2 v3) ∧ ∀ k, foot g v0 v1 v2' v3' k → foot g v0 v1 v2 v3 k ∨ w.heap.size ≤ k := by
  unfold syM
  by_cases hx : outc m = 1
  · rw [if_pos hx, hx]
    refine (Sync_lost w base g v0 v1 v2 v3 m h ho hx).mono ?_
    rintro e w' ⟨rfl, v3', hd, hf, hv⟩
    refine ⟨rfl, v2, v3', hd, hf, ?_⟩
    rintro k (hk | hk | hk | hk | hk)
    · exact .inl (.inl hk)
    · exact .inl (.inr (.inl hk))
    · exact .inl (.inr (.inr (.inl hk)))
    · exact .inl (.inr (.inr (.inr (.inl hk))))
    · exact .inl (.inr (.inr (.inr (.inr (hv k hk)))))
  · rw [if_neg hx]
    refine (Sync_done w base g v0 v1 v2 v3 m h ho hs hx hg).mono ?_
    rintro e w' ⟨rfl, v3', hd, hf, hv⟩
    refine ⟨rfl, _, v3', hd, hf, ?_⟩
    rintro k (hk | hk | hk | hk | hk)
    · exact .inl (.inl hk)
    · exact .inl (.inr (.inl hk))
    · exact .inl (.inr (.inr (.inl hk)))
    · simp [own, Value.ownBlock] at hk
    · exact .inl (.inr (.inr (.inr (.inr (hv k hk)))))
end Go.Proofs.Ytdnjjhdhldgcmaa.Sec
