/- Maps that the program makes: a map's block told as a list of keys and values; plain structs as kinds. -/
import Derived.Test.YtkpaibkkigfahaaBase
import Derived.Maps.OwnOps
import Derived.DeepKeys4
namespace Go.Proofs.Ytkpaibkkigfahaa.Mp
open Go.RowKit Go.Proofs.YtkpaibkkigfahaaW.PrintWords Go.Proofs.YtkpaibkkigfahaaW.PrintLast Go.Proofs.YtkpaibkkigfahaaW.PrintMore Go.Proofs.Ytkpaibkkigfahaa.Bs
open Go.MapKept
open Go.ChangeMaps (setBlock heap_setBlock_same heap_setBlock_other)
open Go.Maps (Keyed)
set_option linter.unusedVariables false
set_option linter.unusedSimpArgs false

/-! ### plain structs -/
/-- A struct of n plain cells. -/
def pod {α : Type} (n : Nat) (enc : α → List Value) (hl : ∀ x, (enc x).length = n) (h1 : ∀ x, ∀ u ∈ enc x, u.oneCell' = true) : Kd α where
  sz := n
  E := []
  K := fun _ x cs => cs = enc x
  M := fun _ _ _ x cs => cs = enc x
  K_len := fun h => by rw [h]; exact hl _
  K_one := fun h => by rw [h]; exact h1 _
  K_below := fun _ h => h
  K_of_M := fun h => h
  M_mono := fun _ h => h
  M_bound := fun h => h
  M_move := fun _ h => h
  M_lower := fun _ h => h
section
variable {α : Type} {n : Nat} {enc : α → List Value} {hl : ∀ x, (enc x).length = n} {h1 : ∀ x, ∀ u ∈ enc x, u.oneCell' = true} {w : World} {e base : Nat} {ok : Nat → Prop}
theorem pod_at {A : Option Addr} {m : Nat} {xs : List α} (h : (pod n enc hl h1).C w A m xs) (z : α) (i : Int) (h0 : 0 ≤ i) (hi : i < m) :
    ∃ ad, A = some ad ∧ ∀ j u, (enc (xs.getD i.toNat z))[j]? = some u → w.cell? (ad.add (i.toNat * n + j)) = some u := by
  obtain ⟨ad, c, e1, _, hK, hc⟩ := Kd.C_get h z i h0 hi
  have hK : c = enc (xs.getD i.toNat z) := hK
  subst hK
  exact ⟨ad, e1, hc⟩
theorem pod_el {g m cap : Nat} {xs : List α} (h : (pod n enc hl h1).R e w base ok (.slice (some ⟨g, 0, none⟩) m cap) xs) (z : α) (i : Nat) (hi : i < m) :
    (∀ j u, (enc (xs.getD i z))[j]? = some u → w.cell? ⟨g, i * n + j, none⟩ = some u) ∧ ∀ j, w.frozen? ⟨g, i * n + j, none⟩ = false := by
  obtain ⟨c, _, hM, hc, hf⟩ := Kd.R_elem h z i (by omega) (by omega)
  have hM : c = enc (xs.getD i z) := hM
  subst hM
  exact ⟨hc, hf⟩
/-- A field of an element is written. -/
theorem pod_set {g m cap : Nat} {xs : List α} (h : (pod n enc hl h1).R e w base ok (.slice (some ⟨g, 0, none⟩) m cap) xs) (z : α) (i : Nat) (hi : i < m) (j : Nat) (hj : j < n) (u : Value) (x' : α) (hx : enc x' = (enc (xs.getD i z)).set j u) :
    (pod n enc hl h1).R e (w.setCell ⟨g, i * n + j, none⟩ u) base ok (.slice (some ⟨g, 0, none⟩) m cap) (xs.set i x') ∧ w.grownBy (w.setCell ⟨g, i * n + j, none⟩ u) (some g) := by
  obtain ⟨c, hcl, hM, hc, hf⟩ := Kd.R_elem h z i (by omega) (by omega)
  have hM : c = enc (xs.getD i z) := hM
  subst hM
  have := Kd.R_seg (okp := fun k => ok k ∧ k ≠ g) h i (by omega) (by omega) hcl hc (j := j) (seg := [u]) (by show j + 1 ≤ n; omega) (x' := x') (by
    show (enc (xs.getD i z)).take j ++ [u] ++ (enc (xs.getD i z)).drop (j + 1) = enc x'
    rw [hx, List.set_eq_take_append_cons_drop]
    rw [if_pos (by rw [hl]; exact hj)]
    simp) (fun _ hk => hk)
  exact this
end

/-! ### maps -/
/-- How keys of a Lean type are laid. -/
structure KeyK (P : Program) (k : TypeId) (κ : Type) where
  enc : κ → Value
  ok : κ → Prop
  key : ∀ x, ok x → ∃ l, keyOf P k (enc x) = some l
  inj : ∀ x y, enc x = enc y → x = y
  law : Keyed P k
section
variable {P : Program} {k t e : TypeId} {κ : Type}
/-- Block b of w is a map of these keys and values, in this order. -/
def MapIs (K : KeyK P k κ) (w : World) (b : Nat) (l : List (κ × Value)) : Prop :=
  ∃ es clock, w.heap[b]? = some (.map es clock) ∧ Stamped es clock ∧ es.toList.map (fun x => (x.key, x.val)) = l.map (fun p => (K.enc p.1, p.2)) ∧ ∀ p ∈ l, K.ok p.1
variable {K : KeyK P k κ} {w w' : World} {b : Nat} {l : List (κ × Value)}
theorem MapIs.made (K : KeyK P k κ) (w : World) : MapIs K (w.alloc (.map #[] 0)) w.heap.size [] := ⟨#[], 0, blk_new _ _, stamped_empty 0, rfl, fun _ h => by cases h⟩
theorem MapIs.lt (h : MapIs K w b l) : b < w.heap.size := by
  obtain ⟨es, c, hb, _⟩ := h; exact blk_lt hb
theorem MapIs.move (h : MapIs K w b l) (hm : w'.heap[b]? = w.heap[b]?) : MapIs K w' b l := by
  obtain ⟨es, c, hb, r⟩ := h; exact ⟨es, c, hm.trans hb, r⟩
theorem MapIs.below (h : MapIs K w b l) (hb : Below w.heap.size w w') : MapIs K w' b l := h.move (hb.block b h.lt)
theorem MapIs.grown {row : Option Nat} (h : MapIs K w b l) (hg : w.grownBy w' row) (hne : some b ≠ row) : MapIs K w' b l := h.move (hg.block b h.lt hne)
theorem MapIs.alloc (h : MapIs K w b l) (o : Obj) : MapIs K (w.alloc o) b l := h.below (below_alloc (Below.refl _ _) o)
theorem MapIs.drew (h : MapIs K w b l) : MapIs K w.drew b l := h
theorem MapIs.set (h : MapIs K w b l) {p : Addr} (hne : b ≠ p.block) (u : Value) : MapIs K (w.setCell p u) b l := h.move (Below.heap_setCell w p u b hne)
theorem MapIs.kept {S : Nat → Prop} (h : MapIs K w b l) (hk : Kept w w' S) (hb : ¬ S b) : MapIs K w' b l := h.move (hk.2 b h.lt hb)
theorem MapIs.nodup (h : MapIs K w b l) : (l.map (·.1)).Nodup := by
  obtain ⟨es, c, hb, hs, hl, ho⟩ := h
  have h3 := ((stamped_iff es c).1 hs).2.2
  have h4 : (es.toList.map (fun x => (x.key, x.val))).Pairwise (fun p q => p.1 ≠ q.1) := by rw [List.pairwise_map]; exact h3
  rw [hl, List.pairwise_map] at h4
  rw [List.Nodup, List.pairwise_map]
  exact h4.imp (fun hn he => hn (by show K.enc _ = K.enc _; rw [he]))
theorem MapIs.oks (h : MapIs K w b l) : ∀ p ∈ l, K.ok p.1 := by obtain ⟨_, _, _, _, _, ho⟩ := h; exact ho
theorem map_entries {es : Array MapEntry} (hl : es.toList.map (fun x => (x.key, x.val)) = l.map (fun p => (K.enc p.1, p.2))) {j : Nat} {e0 : MapEntry} (h : es.toList[j]? = some e0) : ∃ p, l[j]? = some p ∧ e0.key = K.enc p.1 ∧ e0.val = p.2 := by
  have h1 := congrArg (fun m => m[j]?) hl
  simp only [List.getElem?_map, h, Option.map_some] at h1
  cases h2 : l[j]? with
  | none => rw [h2] at h1; simp at h1
  | some p =>
    rw [h2] at h1
    simp only [Option.map_some, Option.some.injEq, Prod.mk.injEq] at h1
    exact ⟨p, rfl, h1.1, h1.2⟩
theorem keys_ok {es : Array MapEntry} (hl : es.toList.map (fun x => (x.key, x.val)) = l.map (fun p => (K.enc p.1, p.2))) (ho : ∀ p ∈ l, K.ok p.1) : ∀ x ∈ es.toList, ∃ kl, keyOf P k x.key = some kl := by
  intro x hx
  obtain ⟨j, hj⟩ := List.mem_iff_getElem?.1 hx
  obtain ⟨p, hp, e1, _⟩ := map_entries hl hj
  rw [e1]; exact K.key _ (ho p (List.mem_of_getElem? hp))
/-- Where a key stands. -/
theorem MapIs.find (h : MapIs K w b l) {x : κ} (hx : K.ok x) : ∃ es clock, w.heap[b]? = some (.map es clock) ∧ Stamped es clock ∧ es.toList.map (fun x => (x.key, x.val)) = l.map (fun p => (K.enc p.1, p.2)) ∧
    (((Instr.findKey k (K.enc x) es.toList).run P w = .ok none w ∧ (∀ e ∈ es.toList, e.key ≠ K.enc x) ∧ ∀ p ∈ l, p.1 ≠ x) ∨
     ∃ j e0 p, (Instr.findKey k (K.enc x) es.toList).run P w = .ok (some (j, e0.val)) w ∧ es.toList[j]? = some e0 ∧ e0.key = K.enc x ∧ l[j]? = some p ∧ p.1 = x ∧ e0.val = p.2) := by
  obtain ⟨es, c, hb, hs, hl, ho⟩ := h
  refine ⟨es, c, hb, hs, hl, ?_⟩
  obtain ⟨kl, hkl⟩ := K.key x hx
  rcases K.law.find w hkl es.toList (keys_ok hl ho) with ⟨h1, h2⟩ | ⟨j, e0, h1, h2, h3⟩
  · refine .inl ⟨h1, h2, fun p hp he => ?_⟩
    obtain ⟨j, hj⟩ := List.mem_iff_getElem?.1 hp
    have h4 := congrArg (fun m => m[j]?) hl
    simp only [List.getElem?_map, hj, Option.map_some] at h4
    cases h5 : es.toList[j]? with
    | none => rw [h5] at h4; simp at h4
    | some e1 =>
      rw [h5] at h4
      simp only [Option.map_some, Option.some.injEq, Prod.mk.injEq] at h4
      exact h2 e1 (List.mem_of_getElem? h5) (by rw [h4.1, he])
  · obtain ⟨p, hp, e1, e2⟩ := map_entries hl h2
    exact .inr ⟨j, e0, p, h1, h2, h3, hp, (K.inj _ _ (h3.symm.trans e1)).symm, e2⟩
variable [DecidableEq κ]
def aget {β : Type} (l : List (κ × β)) (x : κ) : Option β := (l.find? (fun p => p.1 = x)).map (·.2)
def aset {β : Type} : List (κ × β) → κ → β → List (κ × β)
  | [], x, v => [(x, v)]
  | p :: r, x, v => if p.1 = x then (x, v) :: r else p :: aset r x v
def adel {β : Type} : List (κ × β) → κ → List (κ × β)
  | [], _ => []
  | p :: r, x => if p.1 = x then r else p :: adel r x
theorem aget_none {β : Type} {l : List (κ × β)} {x : κ} (h : ∀ p ∈ l, p.1 ≠ x) : aget l x = none := by
  unfold aget
  rw [List.find?_eq_none.2 (fun p hp => by simpa using h p hp)]; rfl
theorem aget_at {β : Type} {l : List (κ × β)} {x : κ} {j : Nat} {p : κ × β} (hn : (l.map (·.1)).Nodup) (hj : l[j]? = some p) (hp : p.1 = x) : aget l x = some p.2 := by
  induction l generalizing j with
  | nil => simp at hj
  | cons q r ih =>
    unfold aget
    cases j with
    | zero => simp at hj; subst hj; simp [hp]
    | succ j =>
      simp only [List.getElem?_cons_succ] at hj
      simp only [List.map_cons, List.nodup_cons] at hn
      have hne : q.1 ≠ x := fun he => hn.1 (by rw [he, ← hp]; exact List.mem_map.2 ⟨p, List.mem_of_getElem? hj, rfl⟩)
      rw [List.find?_cons_of_neg (by simpa using hne)]
      exact ih hn.2 hj
theorem aset_at {β : Type} {l : List (κ × β)} {x : κ} {v : β} {j : Nat} {p : κ × β} (hn : (l.map (·.1)).Nodup) (hj : l[j]? = some p) (hp : p.1 = x) : aset l x v = l.set j (x, v) := by
  induction l generalizing j with
  | nil => simp at hj
  | cons q r ih =>
    unfold aset
    cases j with
    | zero => simp at hj; subst hj; simp [hp]
    | succ j =>
      simp only [List.getElem?_cons_succ] at hj
      simp only [List.map_cons, List.nodup_cons] at hn
      have hne : q.1 ≠ x := fun he => hn.1 (by rw [he, ← hp]; exact List.mem_map.2 ⟨p, List.mem_of_getElem? hj, rfl⟩)
      rw [if_neg hne, ih hn.2 hj]; rfl
theorem aset_new {β : Type} {l : List (κ × β)} {x : κ} {v : β} (h : ∀ p ∈ l, p.1 ≠ x) : aset l x v = l ++ [(x, v)] := by
  induction l with
  | nil => rfl
  | cons q r ih => unfold aset; rw [if_neg (h q (by simp)), ih (fun p hp => h p (by simp [hp]))]; rfl
theorem adel_at {β : Type} {l : List (κ × β)} {x : κ} {j : Nat} {p : κ × β} (hn : (l.map (·.1)).Nodup) (hj : l[j]? = some p) (hp : p.1 = x) : adel l x = l.eraseIdx j := by
  induction l generalizing j with
  | nil => simp at hj
  | cons q r ih =>
    unfold adel
    cases j with
    | zero => simp at hj; subst hj; simp [hp]
    | succ j =>
      simp only [List.getElem?_cons_succ] at hj
      simp only [List.map_cons, List.nodup_cons] at hn
      have hne : q.1 ≠ x := fun he => hn.1 (by rw [he, ← hp]; exact List.mem_map.2 ⟨p, List.mem_of_getElem? hj, rfl⟩)
      rw [if_neg hne, ih hn.2 hj]; rfl
theorem adel_none {β : Type} {l : List (κ × β)} {x : κ} (h : ∀ p ∈ l, p.1 ≠ x) : adel l x = l := by
  induction l with
  | nil => rfl
  | cons q r ih => unfold adel; rw [if_neg (h q (by simp)), ih (fun p hp => h p (by simp [hp]))]
theorem MapIs.look (h : MapIs K w b l) (c : Bool) (ht : P.underlying t = some (.map k e)) {z : Value} (hz : (zeroValue e).run P w = .ok z w) {x : κ} (hx : K.ok x) :
    (Instr.lookup t (.map (some b)) (K.enc x) c).run P w = .ok (if c then .tuple #[(aget l x).getD z, .bool (aget l x).isSome] else (aget l x).getD z) w := by
  have hn := h.nodup
  obtain ⟨kl, hkl⟩ := K.key x hx
  obtain ⟨es, cl, hb, hs, hl, hf⟩ := h.find hx
  rcases hf with ⟨h1, h2, h3⟩ | ⟨j, e0, p, h1, h2, h3, h4, h5, h6⟩
  · rw [aget_none h3]
    simp [Instr.lookup, run_underlying ht, MapKept.run_getObj_map hb, K.law.check w _ hkl, h1, hz, Result.andThen]
  · rw [aget_at hn h4 h5]
    simp [Instr.lookup, run_underlying ht, MapKept.run_getObj_map hb, K.law.check w _ hkl, h1, h6, Result.andThen]
theorem grown_setBlock (hb : b < w.heap.size) (o : Obj) : w.grownBy (setBlock w b o) (some b) := ⟨rfl, rfl, rfl, by simp [setBlock], fun i _ hi => by unfold setBlock; simp [Array.getElem?_setIfInBounds]; intro he; exact absurd (by rw [he]) hi⟩
theorem store_push {es : Array MapEntry} {clock : Nat} (hs : Stamped es clock) (hl : es.toList.map (fun x => (x.key, x.val)) = l.map (fun p => (K.enc p.1, p.2))) (ho : ∀ p ∈ l, K.ok p.1) {x : κ} (hx : K.ok x) (v : Value) (h2 : ∀ e ∈ es.toList, e.key ≠ K.enc x) (h3 : ∀ p ∈ l, p.1 ≠ x)
    (hb : w'.heap[b]? = some (.map (es.push { key := K.enc x, val := v, born := clock }) (clock + 1))) : MapIs K w' b (aset l x v) := by
  refine ⟨_, _, hb, stamped_push hs h2, ?_, ?_⟩
  · rw [aset_new h3, Array.toList_push, List.map_append, List.map_append, hl]; rfl
  · rw [aset_new h3]
    intro p hp
    rcases List.mem_append.1 hp with hp | hp
    · exact ho p hp
    · rw [List.mem_singleton.1 hp]; exact hx
theorem store_set {es : Array MapEntry} {clock : Nat} (hs : Stamped es clock) (hl : es.toList.map (fun x => (x.key, x.val)) = l.map (fun p => (K.enc p.1, p.2))) (ho : ∀ p ∈ l, K.ok p.1) (hn : (l.map (·.1)).Nodup) {x : κ} (hx : K.ok x) (v : Value) {j : Nat} {e0 : MapEntry} {p : κ × Value}
    (h2 : es.toList[j]? = some e0) (h3 : e0.key = K.enc x) (h4 : l[j]? = some p) (h5 : p.1 = x) (f : MapEntry → MapEntry) (hf : f e0 = { e0 with key := K.enc x, val := v }) (hfb : ∀ e ∈ es.toList, (f e).born = e.born) (hfk : ∀ e ∈ es.toList, es[j]? = some e → (f e).key = e.key)
    (hb : w'.heap[b]? = some (.map (es.modify j f) clock)) : MapIs K w' b (aset l x v) := by
  refine ⟨_, _, hb, stamped_modify hs j f hfb hfk, ?_, ?_⟩
  · rw [aset_at hn h4 h5, Array.toList_modify, ChangeMaps.modify_eq_set _ _ _ _ h2, hf, List.map_set, hl, List.map_set]
  · rw [aset_at hn h4 h5]
    intro q hq
    rcases List.mem_or_eq_of_mem_set hq with hq | rfl
    · exact ho q hq
    · exact hx
theorem MapIs.store (h : MapIs K w b l) (ht : P.underlying t = some (.map k e)) {x : κ} (hx : K.ok x) (v : Value) :
    ∃ w', (Instr.mapUpdate t (.map (some b)) (K.enc x) v).run P w = .ok () w' ∧ MapIs K w' b (aset l x v) ∧ w.grownBy w' (some b) := by
  have hn := h.nodup
  have ho := h.oks
  have hlt := h.lt
  obtain ⟨kl, hkl⟩ := K.key x hx
  obtain ⟨es, cl, hb, hs, hl, hf⟩ := h.find hx
  rcases hf with ⟨h1, h2, h3⟩ | ⟨j, e0, p, h1, h2, h3, h4, h5, h6⟩
  · refine ⟨setBlock w b (.map (es.push { key := K.enc x, val := v, born := cl }) (cl + 1)), ?_, store_push hs hl ho hx v h2 h3 (heap_setBlock_same hb _), grown_setBlock hlt _⟩
    simp [Instr.mapUpdate, run_underlying ht, MapKept.run_getObj_map hb, K.law.check w false hkl, h1, MapKept.run_setObj_map _ hb, Result.andThen, setBlock]
  · have hj : es[j]? = some e0 := by simpa using h2
    refine ⟨setBlock w b (.map (es.modify j (fun e' => { e' with key := K.enc x, val := v })) cl), ?_, store_set hs hl ho hn hx v h2 h3 h4 h5 (fun e' => { e' with key := K.enc x, val := v }) rfl (fun _ _ => rfl) (fun e' _ he' => by rw [hj] at he'; cases he'; exact h3.symm) (heap_setBlock_same hb _), grown_setBlock hlt _⟩
    simp [Instr.mapUpdate, run_underlying ht, MapKept.run_getObj_map hb, K.law.check w false hkl, h1, hj, h3, K.law.stays w hkl, MapKept.run_setObj_map _ hb, Result.andThen, setBlock]
theorem MapIs.drop {ty : TypeId} (h : MapIs K w b l) (ht : P.underlying t = some (.map k e)) {x : κ} (hx : K.ok x) :
    ∃ w', (Builtin.delete_ #[t, k] ty #[.map (some b), K.enc x]).run P w = .ok (.tuple #[]) w' ∧ MapIs K w' b (adel l x) ∧ w.grownBy w' (some b) := by
  have hn := h.nodup
  have ho := h.oks
  have hlt := h.lt
  obtain ⟨kl, hkl⟩ := K.key x hx
  obtain ⟨es, cl, hb, hs, hl, hf⟩ := h.find hx
  rcases hf with ⟨h1, h2, h3⟩ | ⟨j, e0, p, h1, h2, h3, h4, h5, h6⟩
  · refine ⟨setBlock w b (.map es cl), ?_, ⟨es, cl, heap_setBlock_same hb _, hs, by rw [adel_none h3]; exact hl, by rw [adel_none h3]; exact ho⟩, grown_setBlock hlt _⟩
    simp [Builtin.delete_, run_underlying ht, MapKept.run_getObj_map hb, K.law.check w _ hkl, h1, MapKept.run_setObj_map _ hb, Result.andThen, setBlock]
  · have hjs : j < es.size := by have := (List.getElem?_eq_some_iff.1 h2).1; simpa using this
    have hsub : (es.eraseIdxIfInBounds j).toList = es.toList.eraseIdx j := by
      unfold Array.eraseIdxIfInBounds
      rw [dif_pos hjs]
      simp
    refine ⟨setBlock w b (.map (es.eraseIdxIfInBounds j) cl), ?_, ⟨_, _, heap_setBlock_same hb _, stamped_erase hs j, ?_, ?_⟩, grown_setBlock hlt _⟩
    · simp [Builtin.delete_, run_underlying ht, MapKept.run_getObj_map hb, K.law.check w _ hkl, h1, MapKept.run_setObj_map _ hb, Result.andThen, setBlock]
    · rw [adel_at hn h4 h5, hsub, ChangeMaps.map_eraseIdx, ChangeMaps.map_eraseIdx, hl]
    · rw [adel_at hn h4 h5]
      exact fun q hq => ho q ((List.eraseIdx_sublist _ _).subset hq)

/-! ### at the operations -/
variable {ops : Array Oper} {rest : List Oper} {o : Oper} {a : Act} {Q : Exit → Act → World → Prop}
theorem exec_look (h : MapIs K w b l) (c : Bool) (m x : Operand) (hop : o.op = Op.lookup t m x c) (ht : P.underlying t = some (.map k e)) {z : Value} (hz : (zeroValue e).run P w = .ok z w) {y : κ} (hy : K.ok y) (hm : a.eval m = .map (some b)) (hx : a.eval x = K.enc y) :
    (execOp a.eval o).run P w = .ok (.value (if c then .tuple #[(aget l y).getD z, .bool (aget l y).isSome] else (aget l y).getD z)) w := by
  simp [execOp, hop, hm, hx, h.look c ht hz hy, Result.andThen]
theorem exec_store (h : MapIs K w b l) (m x u : Operand) (hop : o.op = Op.mapUpdate t m x u) (ht : P.underlying t = some (.map k e)) {y : κ} (hy : K.ok y) {v : Value} (hm : a.eval m = .map (some b)) (hx : a.eval x = K.enc y) (hu : a.eval u = v) :
    ∃ w', (execOp a.eval o).run P w = .ok .skip w' ∧ MapIs K w' b (aset l y v) ∧ w.grownBy w' (some b) := by
  obtain ⟨w', hr, h1, h2⟩ := h.store ht hy v
  exact ⟨w', by simp [execOp, hop, hm, hx, hu, hr, Result.andThen], h1, h2⟩
theorem event_skip {W w1 : World} (hgd : o.guard = none) (hrun : (execOp a.eval o).run P W = .ok .skip w1) (h : wpList P ops Q rest (a.put o.dst undef) w1) : wpList P ops Q (o :: rest) a W := by
  refine wpList_plain hgd fun K' hK' => ?_
  unfold Oper.wp
  rw [hrun]
  exact hK' _ _ h
/-- 'm[k]', in a plain region. -/
theorem wp_look (K : KeyK P k κ) (hg : o.guard = none) (h : MapIs K w b l) (m x : Operand) (hop : o.op = Op.lookup t m x false) (ht : P.underlying t = some (.map k e)) {z : Value} (hz : (zeroValue e).run P w = .ok z w) (y : κ) (hy : K.ok y) (hm : a.eval m = .map (some b)) (hx : a.eval x = K.enc y)
    (hK : wpList P ops Q rest (a.put o.dst ((aget l y).getD z)) w) : wpList P ops Q (o :: rest) a w := Kd.event_run hg (exec_look h false m x hop ht hz hy hm hx) hK
/-- 'v, ok := m[k]', in a plain region. -/
theorem wp_look_ok (K : KeyK P k κ) (hg : o.guard = none) (h : MapIs K w b l) (m x : Operand) (hop : o.op = Op.lookup t m x true) (ht : P.underlying t = some (.map k e)) {z : Value} (hz : (zeroValue e).run P w = .ok z w) (y : κ) (hy : K.ok y) (hm : a.eval m = .map (some b)) (hx : a.eval x = K.enc y)
    (hK : wpList P ops Q rest (a.put o.dst (.tuple #[(aget l y).getD z, .bool (aget l y).isSome])) w) : wpList P ops Q (o :: rest) a w := Kd.event_run hg (exec_look h true m x hop ht hz hy hm hx) hK
/-- 'm[k] = v', in a plain region. -/
theorem wp_store (K : KeyK P k κ) (hg : o.guard = none) (h : MapIs K w b l) (m x u : Operand) (hop : o.op = Op.mapUpdate t m x u) (ht : P.underlying t = some (.map k e)) (y : κ) (hy : K.ok y) (v : Value) (hm : a.eval m = .map (some b)) (hx : a.eval x = K.enc y) (hu : a.eval u = v)
    (hK : ∀ w', MapIs K w' b (aset l y v) → w.grownBy w' (some b) → wpList P ops Q rest (a.put o.dst undef) w') : wpList P ops Q (o :: rest) a w := by
  obtain ⟨w', hr, h1, h2⟩ := exec_store h m x u hop ht hy hm hx hu
  exact event_skip hg hr (hK w' h1 h2)
/-- 'delete(m, k)', in a plain region. -/
theorem wp_drop (K : KeyK P k κ) (hg : o.guard = none) (h : MapIs K w b l) (m x : Operand) (hop : o.op = Op.call { callee := .builtin .delete, args := #[m, x], argTypes := #[t, k] }) (ht : P.underlying t = some (.map k e)) (y : κ) (hy : K.ok y) (hm : a.eval m = .map (some b)) (hx : a.eval x = K.enc y)
    (hK : ∀ w', MapIs K w' b (adel l y) → w.grownBy w' (some b) → wpList P ops Q rest (a.put o.dst (.tuple #[])) w') : wpList P ops Q (o :: rest) a w := by
  obtain ⟨w', hr, h1, h2⟩ := h.drop (ty := o.type) ht hy
  refine Kd.event_run hg ?_ (hK w' h1 h2)
  unfold execOp
  simp [hop, resolve, invoke, builtin, Result.andThen, hm, hx, hr]
end
end Go.Proofs.Ytkpaibkkigfahaa.Mp
