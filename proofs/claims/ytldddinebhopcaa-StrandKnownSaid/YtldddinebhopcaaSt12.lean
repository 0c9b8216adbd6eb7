/- strand over its disk: the deeds' contracts. -/
import Derived.Test.YtldddinebhopcaaSt11
namespace Go.Proofs.Ytldddinebhopcaa.St
open Go.RowKit Go.Shelf Go.Proofs.YtldddinebhopcaaW.PrintWords Go.Proofs.YtldddinebhopcaaW.PrintLast Go.Proofs.YtldddinebhopcaaW.PrintMore Go.Proofs.Ytldddinebhopcaa.Bs Go.Proofs.Ytldddinebhopcaa.Fr Go.Proofs.Ytldddinebhopcaa.Oct Go.Proofs.Ytldddinebhopcaa.Sec Go.Proofs.Ytldddinebhopcaa.Rg
set_option linter.unusedVariables false
set_option linter.unusedSimpArgs false
section
variable {w : World} {base : Nat} {E : Nat → Prop} {g : Nat} {v0 v1 v2 v3 : Value} {d : DM} {gs : Nat} {u2 u3 : Value} {m : SM}
theorem SD_append (h : SD w base E g v0 v1 v2 v3 d gs u2 u3 m) (ho : 0 ≤ d.ops ∧ d.ops ≤ 1000000000) (hs : d.since.length ≤ 1000000) (hr : m.recs.length ≤ 1000000) (A : Option Addr) (c : Nat) (b : List Int) (hC : Kd.C (Kd.int .u8) w A b.length b) (hc : b.length ≤ c) (hB : Byt b)
    (hA : ∀ a, A = some a → 0 < b.length → ¬ sfoot g v0 v1 v2 v3 gs u3 a.block) :
    Calls Try.prog 14 #[.pointer (some ⟨gs, 0, none⟩), .slice A b.length c] w fun e w' => e = .returned (.int .i64 (aE m d b)) ∧ ∃ u2' u3' v2' v3', SD w' base E g v0 v1 v2' v3' (aD m d b) gs u2' u3' (aS m d b) ∧ Fr w w' (sfoot g v0 v1 v2 v3 gs u3) ∧ ∀ k, sfoot g v0 v1 v2' v3' gs u3' k → sfoot g v0 v1 v2 v3 gs u3 k ∨ w.heap.size ≤ k := by
  by_cases hb : b.length = 0 ∨ 56 < b.length
  · refine (Append_bad w base gs g _ u2 u3 m h.sv A b.length c hb).mono ?_
    rintro e w' ⟨rfl, rfl⟩
    unfold aE aD aS
    rw [if_pos hb, if_pos hb, if_pos hb]
    exact ⟨rfl, u2, u3, v2, v3, h, Fr.refl _ _, fun k hk => .inl hk⟩
  · refine (Append_calls w base gs g _ u2 u3 v0 v1 v2 v3 m d h.sv h.dv ho hs h.b h.i hr (fun k hk => hk.1) h.gn A c b hC hc (by omega) hB hA).mono ?_
    rintro e w' ⟨rfl, u2', u3', v2', v3', R⟩
    have hbm := aD_BM h.bm h.i hB
    have hsi := aS_SI h.i hB
    have hln := aD_len m d b
    have hsh := aS_short d b h.short
    rw [← hln] at hsi
    unfold aE aD aS at *
    rw [if_neg hb] at hbm hln
    simp only [if_neg hb] at hsi hsh
    rw [if_neg hb, if_neg hb, if_neg hb]
    have hlt := h.lt
    refine ⟨rfl, u2', u3', v2', v3', ⟨R.d, R.s.okto ?_, R.g, Nat.le_trans h.b R.f.size, hbm, hsi, h.gg, hsh, fun k hk => Nat.lt_of_lt_of_le (h.e k hk) R.f.size, h.ne, ?_⟩, R.f, ?_⟩
    · rintro k ⟨hk, hf⟩ _ _
      refine ⟨hf, fun hE => ?_⟩
      rcases hk with hk | hk
      · exact hk.2 hE
      · have := h.e k hE; omega
    · intro k hk hE
      rcases R.fd k hk with q | q
      · exact h.nd k q hE
      · have := h.e k hE; omega
    · rintro k (hk | hk | hk)
      · exact (R.fd k hk).imp .inl id
      · exact .inl (.inr (.inl hk))
      · exact (R.fs k hk).imp (fun q => .inr (.inr q)) id
theorem SD_sync (h : SD w base E g v0 v1 v2 v3 d gs u2 u3 m) (ho : 0 ≤ d.ops ∧ d.ops ≤ 1000000000) (hs : d.since.length ≤ 1000000) :
    Calls Try.prog 23 #[.pointer (some ⟨gs, 0, none⟩)] w fun e w' => e = .returned (.int .i64 (tell (outc d))) ∧ ∃ u2' v2' v3', SD w' base E g v0 v1 v2' v3' (syM d) gs u2' u3 (sySM m (tell (outc d))) ∧ Fr w w' (sfoot g v0 v1 v2 v3 gs u3) ∧ ∀ k, sfoot g v0 v1 v2' v3' gs u3 k → sfoot g v0 v1 v2 v3 gs u3 k ∨ w.heap.size ≤ k := by
  refine (SSync_calls w base gs g _ u2 u3 v0 v1 v2 v3 m d h.sv h.dv ho hs h.b ⟨h.i.a0, by have h1 := h.i.a1; have h2 := h.dv.n2; omega⟩ h.i.l (fun k hk => hk.1) h.gn).mono ?_
  rintro e w' ⟨rfl, u2', v2', v3', hd, hsv, hg, hf, hft⟩
  have hsi := sySM_SI h.i (tell (outc d))
  rw [← syM_len] at hsi
  refine ⟨rfl, u2', v2', v3', ⟨hd, hsv.okto ?_, hg, Nat.le_trans h.b hf.size, h.bm.syM, hsi, h.gg, by rw [sySM_recs]; exact h.short, fun k hk => Nat.lt_of_lt_of_le (h.e k hk) hf.size, h.ne, ?_⟩, hf.mono (fun k hk => hk.elim .inl (fun q => .inr (.inl q))), ?_⟩
  · rintro k ⟨hk, hf'⟩ _ _
    exact ⟨hf', hk.2⟩
  · intro k hk hE
    rcases hft k hk with q | q
    · exact h.nd k q hE
    · have := h.e k hE; omega
  · rintro k (hk | hk)
    · exact (hft k hk).imp .inl id
    · exact .inl (.inr hk)
theorem SD_outcomes (h : SD w base E g v0 v1 v2 v3 d gs u2 u3 m) (A : Option Addr) (c : Nat) (l : List Int) (hC : Kd.C (Kd.int .u8) w A l.length l) (hl : d.wait.length + l.length ≤ 100000000) (hB : Byt l) :
    Calls Try.prog 24 #[.pointer (some ⟨g, 0, none⟩), .slice A l.length c] w fun e w' => e = .returned (.tuple #[]) ∧ ∃ v3', SD w' base E g v0 v1 v2 v3' (waits d (d.wait ++ l)) gs u2 u3 m ∧ Fr w w' (sfoot g v0 v1 v2 v3 gs u3) ∧ ∀ k, sfoot g v0 v1 v2 v3' gs u3 k → sfoot g v0 v1 v2 v3 gs u3 k ∨ w.heap.size ≤ k := by
  refine (Outcomes_calls w base g v0 v1 v2 v3 d h.dv A c l hC hl hB h.b).mono ?_
  rintro e w' ⟨rfl, v3', hd, hf, hft⟩
  have h1 := h.sv.okto (ok' := fun k => (¬ foot g v0 v1 v2 v3 k ∧ ¬ E k) ∧ k < w.heap.size) (fun k q1 _ q3 => ⟨q1, q3⟩)
  refine ⟨rfl, v3', ⟨hd, (h1.keep hf (fun q hq => hq.1.1) h.gn).okto ?_, ?_, Nat.le_trans h.b hf.size, h.bm, h.i, h.gg, h.short, fun k hk => Nat.lt_of_lt_of_le (h.e k hk) hf.size, h.ne, ?_⟩, hf.mono (fun k hk => .inl hk), ?_⟩
  · rintro k ⟨hk, hlt⟩ _ _
    refine ⟨fun hf' => ?_, hk.2⟩
    rcases hft k hf' with q | q
    · exact hk.1 q
    · omega
  · intro hf'
    rcases hft gs hf' with q | q
    · exact h.gn q
    · have := blk_lt h.sv.blk; omega
  · intro k hk hE
    rcases hft k hk with q | q
    · exact h.nd k q hE
    · have := h.e k hE; omega
  · rintro k (hk | hk)
    · exact (hft k hk).imp .inl id
    · exact .inl (.inr hk)
end
theorem bodyL_short {l : List Int} (h : isF l) : (bodyL l).length ≤ 56 := by
  obtain ⟨_, _, h1, h2, _, _⟩ := h
  unfold bodyL
  rw [List.length_drop, List.length_take]
  omega
theorem scanM_short : ∀ (k : Nat) (l : List Int), ∀ b ∈ scanM k l, b.length ≤ 56
  | 0, l => fun b hb => by cases hb
  | k + 1, l => by
    unfold scanM
    split
    · rename_i h
      intro b hb
      rcases List.mem_cons.1 hb with rfl | q
      · exact bodyL_short h
      · exact scanM_short k _ b q
    · intro b hb; cases hb
theorem opR_short (s : List (List Int)) : ∀ i, ∀ r ∈ opR s i, r.1.length ≤ 1000
  | 0 => fun r hr => by cases hr
  | i + 1 => by
    unfold opR
    intro r hr
    rcases List.mem_append.1 hr with q | q
    · exact opR_short s i r q
    · unfold tagL at q
      obtain ⟨b, hb, rfl⟩ := List.mem_map.1 q
      have := scanM_short _ _ b hb
      show b.length ≤ 1000
      omega
theorem SD_open {w : World} {base g : Nat} {v0 v1 v2 v3 : Value} {d : DM} (E : Nat → Prop) (h : DV w base g v0 v1 v2 v3 d) (hb : base ≤ w.heap.size) (hB : BM d) (hE : ∀ k, E k → k < w.heap.size) (hn : ∀ k, foot g v0 v1 v2 v3 k → ¬ E k) :
    Calls Try.prog 13 #[.pointer (some ⟨g, 0, none⟩)] w fun e w' => ∃ gs u3, e = .returned (.tuple #[.pointer (some ⟨gs, 0, none⟩), .int .i64 0]) ∧ SD w' base E g v0 v1 v2 v3 d gs (.slice none 0 0) u3 (openM d) ∧ w.heap.size ≤ gs ∧ (∀ k, own u3 k → w.heap.size ≤ k) ∧ Below w.heap.size w w' := by
  refine (Open_calls w base g v0 v1 v2 v3 d h hB).mono ?_
  rintro e w' ⟨gs, u3, rfl, hs, hg, hbl⟩
  refine ⟨gs, u3, rfl, ⟨h.below hbl, (hs.okto ?_).lower hb, fun hf => by have := h.foot_lt gs hf; omega, Nat.le_trans hb hbl.size, hB, opA_SI d, Nat.le_trans hb hg, opR_short _ _, fun k hk => Nat.lt_of_lt_of_le (hE k hk) hbl.size, fun he => by have := hE gs he; omega, hn⟩, hg, fun k hk => Kd.R_base hs.recs k hk, hbl⟩
  intro k _ hk _
  exact ⟨fun hf => by have := h.foot_lt k hf; omega, fun he => by have := hE k he; omega⟩
end Go.Proofs.Ytldddinebhopcaa.St
