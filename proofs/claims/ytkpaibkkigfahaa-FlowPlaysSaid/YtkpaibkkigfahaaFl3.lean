/- flow.Table.those: the sessions that are so, in order. -/
import Derived.Test.YtkpaibkkigfahaaFl2
import Derived.Shelf.SlSortCmp.NoneTotal
namespace Go.Proofs.Ytkpaibkkigfahaa.Fl
open Go.RowKit Go.Proofs.YtkpaibkkigfahaaW.PrintWords Go.Proofs.YtkpaibkkigfahaaW.PrintLast Go.Proofs.YtkpaibkkigfahaaW.PrintMore Go.Proofs.Ytkpaibkkigfahaa.Bs Go.Proofs.Ytkpaibkkigfahaa.Fr Go.Proofs.Ytkpaibkkigfahaa.Mp Go.Proofs.Ytkpaibkkigfahaa.Srt
open Go.Proofs.Ytkpaibkkigfahaa.PFlowPlays Go.Proofs.Ytkpaibkkigfahaa.FlP
set_option linter.unusedVariables false
set_option linter.unusedSimpArgs false

/-- Function n, with what it has caught, tells of a session whether it is so. -/
structure PredC (n : Nat) (lb : Array Value) (p : S46 → Bool) (w0 : World) : Prop where
  eg : ∀ args w, (callFunc n args).run Try.prog w = .ok (.enter n args) w
  calls : ∀ W f, Below w0.heap.size w0 W → Calls Try.prog n (#[valF f] ++ lb) W fun e w' => e = .returned (.bool (p f)) ∧ Below W.heap.size W w'
theorem info113 : (Try.prog.info? 113).map (fun i => (i.zero, i.size, i.bytes)) = some (some (.agg #[.int .i64 0, .int .u32 0, .int .i64 0, .int .u32 0, .int .i64 0, .int .i64 0, .int .i64 0, .int .i64 0]), 8, 64) := by kernel_rfl
theorem info46 : (Try.prog.info? 46).map (fun i => (i.zero, i.size, i.bytes)) = some (some (.agg #[.int .i64 0, .int .u32 0, .int .i64 0, .int .u32 0, .int .i64 0, .int .i64 0, .int .i64 0, .int .i64 0]), 8, 64) := by kernel_rfl
/-- What has come, so far. -/
def came (l : List S46) (js : List Nat) : List S46 := js.filterMap (fun j => l[j]?)
theorem came_snoc (l : List S46) (js : List Nat) (j : Nat) (f : S46) (h : l[j]? = some f) : came l (js ++ [j]) = came l js ++ [f] := by unfold came; rw [List.filterMap_append]; simp [h]
theorem came_len (l : List S46) : ∀ js : List Nat, (came l js).length ≤ js.length := fun js => List.length_filterMap_le _ _
theorem ents_len (l : List S46) : (ents l).length = l.length := by simp [ents]
theorem ents_get {l : List S46} {j : Nat} {p : Key × Value} (h : (ents l)[j]? = some p) : ∃ f, l[j]? = some f ∧ p = (keyF f, valF f) := by
  unfold ents at h
  rw [List.getElem?_map] at h
  cases hl : l[j]? with
  | none => rw [hl] at h; simp at h
  | some f => rw [hl] at h; simp at h; exact ⟨f, rfl, h.symm⟩
theorem iter_ne {w : World} {b r : Nat} {l : List (Key × Value)} {js : List Nat} {α : Type} {d : Kd α} {e base : Nat} {ok : Nat → Prop} {v : Value} {xs : List α} (h : Iter KF w b r l js) (hr : d.R e w base ok v xs) : ∀ k, own v k → k ≠ r ∧ k ≠ b := by
  intro k hk
  obtain ⟨inner, ho⟩ := Kd.R_own hr
  obtain ⟨cells, hc⟩ := own_typed ho k hk
  obtain ⟨es, cl, since, seen, c0, hb, _, _, _, hr2, _⟩ := h
  constructor
  · rintro rfl; rw [hc] at hr2; cases hr2
  · rintro rfl; rw [hc] at hb; cases hb
theorem rows_apart {w : World} {α β : Type} {d : Kd α} {d' : Kd β} {e e' base base' : Nat} {ok ok' : Nat → Prop} {v u : Value} {xs : List α} {ys : List β} (h : d.R e w base ok v xs) (h' : d'.R e' w base' ok' u ys) (hne : e ≠ e') : ∀ k, own v k → ¬ own u k := by
  intro k hk hu
  obtain ⟨inner, ho⟩ := Kd.R_own h
  obtain ⟨inner', ho'⟩ := Kd.R_own h'
  obtain ⟨c, hc⟩ := own_typed ho k hk
  obtain ⟨c', hc'⟩ := own_typed ho' k hu
  rw [hc] at hc'
  injection hc' with h1
  injection h1 with _ h2
  exact hne h2
theorem sort_nil (w : World) (v : Value) (A : Option Addr) (c : Nat) (hv : v = .slice A 0 c) :
    Calls Try.prog 83 #[v, .func (.func 84) #[] #[]] w fun e w' => e = .returned (.tuple #[]) ∧ w = w' := by
  subst hv
  have hcon := AnyF.slices_SortFunc_none Try.sortRow A c (.func (.func 84) #[] #[]) w
  change Calls Try.prog 83 _ _ _ at hcon
  exact hcon.mono (fun e w' h => ⟨h.1, h.2.symm⟩)
theorem nodup_came {l : List S46} {js : List Nat} {w : World} {b r : Nat} (h : Iter KF w b r (ents l) js) (hd : js.length = (ents l).length) (p : S46 → Bool) : ((came l js).filter p).Perm (l.filter p) ∧ (((came l js).filter p).map keyF).Nodup := by
  have h1 : (came l js).Perm l := come_perm h.nodup (fun j hj => by have := h.bound j hj; rwa [ents_len] at this) (by rw [hd, ents_len])
  have h2 := h.map.nodup
  have h3 : (ents l).map (·.1) = l.map keyF := by unfold ents; rw [List.map_map]; rfl
  rw [h3] at h2
  have h4 : ((came l js).map keyF).Nodup := (h1.map keyF).nodup_iff.2 h2
  exact ⟨h1.filter p, List.Nodup.sublist (List.Sublist.map keyF List.filter_sublist) h4⟩
set_option maxHeartbeats 4000000 in
set_option maxRecDepth 100000 in
theorem those_calls (w : World) (base g b : Nat) (M : List S46) (h : FT w base g b M) (hM : M.length ≤ 100000) (n : Nat) (lb : Array Value) (p : S46 → Bool) (hp : PredC n lb p w) :
    Calls Try.prog 54 #[.pointer (some ⟨g, 0, none⟩), .func (.func n) #[] lb] w fun e w' => ∃ v, e = .returned v ∧ k46.R 46 w' w.heap.size (fun _ => True) v (M.filter p) ∧ Below w.heap.size w w' := by
  have H := Aside0.mk h
  have HP := Aside0.mk hp
  obtain ⟨l, hl, hm⟩ := h.map
  have HL := Aside0.mk hl
  have HM := Aside0.mk hm
  have hll : l.length = M.length := hl.length_eq
  have HLL := Aside0.mk hll
  have HML := Aside0.mk hM
  have eg := hp.eg
  have k0 : w.cell? ⟨g, 0, none⟩ = some (.map (some b)) := blk_cell h.blk 0
  clear h hp hl hm hll hM
  go_enter Try.func54, Try.ntmps54
  go_wp2_with (first
    | (go_at_call 82; refine (made_calls _ _ _ _ _ H.out).mono ?_; rintro e w1 ⟨rfl, rfl⟩)
    | (at_range; refine wp_range KF rfl HM.out (.tmp 17) rfl Try.underlying90 rfl ?_; intro w1 hit hb1 hs1; have HIT := Aside0.mk hit; have HB1 := Aside0.mk hb1; have HS1 := Aside0.mk hs1; clear hit hb1 hs1))
  go_frame
  go_loopg [5] l.length (fun q v5 wr => ∃ (js : List Nat), Aside0 (q + js.length = l.length) ∧ Aside0 (Iter KF wr b w.heap.size (ents l) js ∧ k46.R 113 wr w.heap.size (fun _ => True) v5 ((came l js).filter p) ∧ Below w.heap.size w wr))
  case atStart => exact ⟨[], ⟨by simp⟩, ⟨HIT.out, Kd.R_nil _ _ _ _ _, HB1.out⟩⟩
  case round =>
    obtain ⟨js, hq, hat⟩ := hrel
    go_wp2_with (first
      | (at_next; refine wp_next KF rfl hat.out.1 (.tmp 18) rfl rfl ?_ ?_; (intro hdone; have HD := Aside0.mk hdone; clear hdone); rotate_left; (intro j pr w2 hj hnj hit2 hg2 hs2 hen; obtain ⟨f, hf, rfl⟩ := ents_get hj; have HEN : Aside0 ((Instr.entry (.pointer (some ⟨w.heap.size, 0, none⟩))).run Try.prog w2 = .ok (.tuple #[encK (keyF f), valF f]) w2) := ⟨hen⟩; have IT2 := Aside0.mk hit2; have G2 := Aside0.mk hg2; have HF := Aside0.mk hf; clear hen hit2 hg2 hf hj hnj hs2; have hen := HEN.out; unfold encK valF at hen); rotate_left))
    · have hnp := nodup_came hat.out.1 HD.out p
      have NP := Aside0.mk hnp
      have hnl : ((came l js).filter p).length ≤ 100000 := by
        have h1 := hnp.1.length_eq
        have h2 := List.length_filter_le p l
        have := HLL.out
        have := HML.out
        omega
      have NL := Aside0.mk hnl
      clear hnp hnl
      have hsort : Calls Try.prog 83 #[u5, .func (.func 84) #[] #[]] wr fun e w' => e = .returned (.tuple #[]) ∧ k46.R 113 w' w.heap.size (fun _ => True) u5 (M.filter p) ∧ Below w.heap.size w w' := by
        by_cases h0 : ((came l js).filter p).length = 0
        · have hnil : (came l js).filter p = [] := List.eq_nil_of_length_eq_zero h0
          have hM0 : M.filter p = [] := by
            have h1 := (NP.out.1.trans (HL.out.filter p)).length_eq
            rw [h0] at h1
            exact List.eq_nil_of_length_eq_zero h1.symm
          obtain ⟨A, c, hv⟩ := Kd.R_slice hat.out.2.1
          rw [h0] at hv
          refine (sort_nil wr u5 A c hv).mono ?_
          rintro e w' ⟨rfl, rfl⟩
          refine ⟨rfl, ?_, hat.out.2.2⟩
          rw [hM0]
          have h5 := hat.out.2.1
          rw [hnil] at h5
          exact h5
        · refine (sort_calls wr w.heap.size u5 _ hat.out.2.1 (by omega) (by have := NL.out; omega) NP.out.2).mono ?_
          rintro e w' ⟨rfl, ys, hy, hsy, hr, hf⟩
          have hys : ys = M.filter p := srt_unique (hy.trans (NP.out.1.trans (HL.out.filter p))) hsy (srt_filter H.out.srt p)
          subst hys
          exact ⟨rfl, hr, below_fr hat.out.2.2 hat.out.2.2.size hf (fun k hk => R_ge hat.out.2.1 hk)⟩
      have HS := Aside0.mk hsort
      clear hsort
      go_wp2_with fail
      refine HS.out.mono ?_
      rintro e w5 ⟨rfl, hr5, hb5⟩
      obtain ⟨ys, hys⟩ : ∃ ys, ys = M.filter p := ⟨_, rfl⟩
      rw [← hys] at hr5
      have HYS := Aside0.mk hys
      have hyl : ys.length ≤ 100000 := by rw [hys]; have := List.length_filter_le p M; have := HML.out; omega
      obtain ⟨A5, c5, rfl⟩ := Kd.R_slice hr5
      have R5 := Aside0.mk hr5
      have B5 := Aside0.mk hb5
      have YL := Aside0.mk hyl
      clear hr5 hb5 hys hyl HS NP NL HD hq hat
      go_wp2_with fail
      go_loopg [8, 34] ys.length (fun q v8 v34 wr => ∃ (i : Nat), v34 = .int .i64 i ∧ Aside0 (q + i = ys.length) ∧ Aside0 (k46.R 113 wr w.heap.size (fun _ => True) (.slice A5 ys.length c5) ys ∧ k46.R 46 wr w.heap.size (fun _ => True) v8 (ys.take i) ∧ Below w.heap.size w wr))
      case atStart => exact ⟨0, rfl, ⟨by omega⟩, ⟨R5.out, Kd.R_nil _ _ _ _ _, B5.out⟩⟩
      case round =>
        obtain ⟨i, rfl, hq, hat⟩ := hrel
        by_cases hi : i < ys.length
        · have hi1 : decide ((i : Int) < (ys.length : Int)) = true := decide_eq_true (by omega)
          have hi2 : (i : Int) < (ys.length : Int) := by omega
          have hi3 : (0 : Int) ≤ (i : Int) := by omega
          obtain ⟨ad, hA, x0, x1, x2, x3, x4, x5, x6, x7⟩ := at_T46 (Kd.R_reads' hat.out.1).2.2 (i : Int) hi3 hi2
          subst hA
          have htk : ys.take (i + 1) = ys.take i ++ [rd_T46 ys (i : Int)] := by
            rw [List.take_add_one, List.getElem?_eq_getElem hi]
            unfold rd_T46
            rw [Int.toNat_natCast, List.getD_eq_getElem?_getD, List.getElem?_eq_getElem hi]; rfl
          have HTK := Aside0.mk htk
          rw [Int.toNat_natCast] at x0 x1 x2 x3 x4 x5 x6 x7
          clear htk
          generalize rd_T46 ys (i : Int) = f at *
          go_wp2_with ((with_reducible refine gate_builtin (b := .append) (xs := #[.tmp 38, .tmp 40]) rfl ?_); at_builtin; refine Kd.R_append k46 (w0 := w) w.heap.size rfl (.tmp 38) (.tmp 40) 41 46 (.agg #[.int .i64 0, .int .u32 0, .int .i64 0, .int .u32 0, .int .i64 0, .int .i64 0, .int .i64 0, .int .i64 0]) 64 rfl Try.underlying41 info46 rfl (by decide) (by decide) _ (ys.take i) f (encF f) (fun _ => True) (fun _ => False) rfl (by rw [World.size_alloc]; rfl) (k46_mkM _ _ _ _) (fun _ hk => hk.elim) (fun _ _ => trivial) ?aO ?aB ?aS ?aL ?_; (case aO => exact Kd.R_alloc hat.out.2.1 _); (case aB => exact hat.out.2.2.alloc hat.out.2.2.size _); (case aS => have := hat.out.2.2.size; simp; omega); (case aL => have := YL.out; rw [List.length_take]; omega); intro v6 w6 hr6 hb6 hg6 hat6; rw [← HTK.out] at hr6; have hfr := Fr.grown ((Fr.refl wr (own u8)).alloc _) hg6 (fun k hk => .inl hk); have D6 := Aside0.mk (And.intro (R_fr hat.out.1 rfl hfr (rows_apart hat.out.1 hat.out.2.1 (by decide))) (And.intro hr6 hb6)); clear hr6 hb6 hg6 hat6 hfr)
          go_roundg (ys.length - (i + 1))
          case measure => have := hq.out; omega
          case rel => exact ⟨i + 1, by have := YL.out; rw [show wrap64 ((i : Int) + 1) = ((i + 1 : Nat) : Int) from by unfold wrap64; omega], ⟨by omega⟩, D6⟩
        · have hi1 : decide ((i : Int) < (ys.length : Int)) = false := decide_eq_false (by omega)
          have htk : ys.take i = ys := List.take_of_length_le (by omega)
          have hr := hat.out.2.1
          rw [htk] at hr
          have HR := Aside0.mk hr
          clear hr htk
          go_wp2_with fail
          go_ret
          exact ⟨_, rfl, HYS.out ▸ HR.out, hat.out.2.2⟩
    · have hbox := blk_new w2 (Obj.cells #[.int .i64 f.f0, .int .u32 f.f1.f0, .int .i64 f.f1.f1, .int .u32 f.f2.f0, .int .i64 f.f2.f1, .int .i64 f.f3, .int .i64 f.f4, .int .i64 f.f5] 46)
      have HBX := Aside0.mk hbox
      have hb2 : Below w.heap.size w w2 := pw_below_grown hat.out.2.2 _ hat.out.2.2.size G2.out (fun k hk => by cases hk; exact Nat.le_refl _)
      have hr2 : k46.R 113 w2 w.heap.size (fun _ => True) u5 ((came l js).filter p) := R_fr hat.out.2.1 rfl (Fr.grown (Fr.refl wr (fun k => k = w.heap.size)) G2.out (fun k hk => by cases hk; exact .inl rfl)) (fun k hk => (iter_ne hat.out.1 hat.out.2.1 k hk).1)
      have B2 := Aside0.mk (hb2.alloc hb2.size (Obj.cells #[.int .i64 f.f0, .int .u32 f.f1.f0, .int .i64 f.f1.f1, .int .u32 f.f2.f0, .int .i64 f.f2.f1, .int .i64 f.f3, .int .i64 f.f4, .int .i64 f.f5] 46))
      have R2 := Aside0.mk (Kd.R_alloc hr2 (Obj.cells #[.int .i64 f.f0, .int .u32 f.f1.f0, .int .i64 f.f1.f1, .int .u32 f.f2.f0, .int .i64 f.f2.f1, .int .i64 f.f3, .int .i64 f.f4, .int .i64 f.f5] 46))
      have I2 := Aside0.mk (IT2.out.below (below_alloc (Below.refl w2.heap.size w2) (Obj.cells #[.int .i64 f.f0, .int .u32 f.f1.f0, .int .i64 f.f1.f1, .int .u32 f.f2.f0, .int .i64 f.f2.f1, .int .i64 f.f3, .int .i64 f.f4, .int .i64 f.f5] 46)))
      have CS := Aside0.mk (came_snoc l js j f HF.out)
      have JL : Aside0 ((js ++ [j]).length = js.length + 1 ∧ (js ++ [j]).length ≤ l.length) := ⟨by simp, by have := len_le IT2.out.nodup (fun k hk => IT2.out.bound k hk); rw [ents_len] at this; exact this⟩
      have CL : Aside0 (((came l js).filter p).length ≤ 100000) := ⟨by have h1 := List.length_filter_le p (came l js); have h2 := came_len l js; have := JL.out; have := HLL.out; have := HML.out; omega⟩
      clear hbox hb2 hr2 hen
      refine (HP.out.calls _ f B2.out).mono ?_
      rintro e w4 ⟨rfl, hb4⟩
      have HB4 := Aside0.mk (below_step B2.out hb4)
      have R4 := Aside0.mk (Kd.R_below R2.out hb4)
      have I4 := Aside0.mk (I2.out.below hb4)
      have hbx4 := blk_below HBX.out hb4
      have c0 := blk_cell hbx4 0
      have c1 := blk_cell hbx4 1
      have c2 := blk_cell hbx4 2
      have c3 := blk_cell hbx4 3
      have c4 := blk_cell hbx4 4
      have c5 := blk_cell hbx4 5
      have c6 := blk_cell hbx4 6
      have c7 := blk_cell hbx4 7
      simp only [List.getElem?_toArray, List.getElem?_cons_zero, List.getElem?_cons_succ] at c0 c1 c2 c3 c4 c5 c6 c7
      clear hb4 hbx4 B2 R2 I2 HBX HEN
      cases hpf : p f with
      | false =>
        have HPF := Aside0.mk hpf
        have FI : Aside0 ((came l (js ++ [j])).filter p = (came l js).filter p) := ⟨by rw [CS.out, List.filter_append, List.filter_cons_of_neg (by rw [hpf]; decide), List.filter_nil, List.append_nil]⟩
        clear hpf
        go_wp2_with fail
        go_roundg (l.length - (js ++ [j]).length)
        case measure => have := JL.out; have := hq.out; omega
        case rel => exact ⟨js ++ [j], ⟨by have := JL.out; omega⟩, ⟨I4.out, FI.out.symm ▸ R4.out, HB4.out⟩⟩
      | true =>
        have HPF := Aside0.mk hpf
        have FI : Aside0 ((came l (js ++ [j])).filter p = (came l js).filter p ++ [f]) := ⟨by rw [CS.out, List.filter_append, List.filter_cons_of_pos hpf, List.filter_nil]⟩
        clear hpf
        go_wp2_with ((with_reducible refine gate_builtin (b := .append) (xs := #[.tmp 26, .tmp 28]) rfl ?_); at_builtin; refine Kd.R_append k46 (w0 := w) w.heap.size rfl (.tmp 26) (.tmp 28) 112 113 (.agg #[.int .i64 0, .int .u32 0, .int .i64 0, .int .u32 0, .int .i64 0, .int .i64 0, .int .i64 0, .int .i64 0]) 64 rfl Try.underlying112 info113 rfl (by decide) (by decide) _ ((came l js).filter p) f (encF f) (fun _ => True) (fun _ => False) rfl rfl (k46_mkM _ _ _ _) (fun _ hk => hk.elim) (fun _ _ => trivial) R4.out HB4.out HB4.out.size (by have := CL.out; omega) ?_; intro v6 w6 hr6 hb6 hg6 hat6; rw [← FI.out] at hr6; have hfr := Fr.grown (Fr.refl w4 (own u5)) hg6 (fun k hk => .inl hk); have D6 := Aside0.mk (And.intro (I4.out.fr hfr (fun hk => (iter_ne I4.out R4.out _ hk).2 rfl) (fun hk => (iter_ne I4.out R4.out _ hk).1 rfl)) (And.intro hr6 hb6)); clear hr6 hb6 hg6 hat6 hfr)
        go_roundg (l.length - (js ++ [j]).length)
        case measure => have := JL.out; have := hq.out; omega
        case rel => exact ⟨js ++ [j], ⟨by have := JL.out; omega⟩, D6⟩
end Go.Proofs.Ytkpaibkkigfahaa.Fl
