/- The document's disk: its contracts. -/
import Derived.Test.YtldddinebhopcaaDkB
namespace Go.Proofs.Ytldddinebhopcaa.Sec
open Go.RowKit Go.Proofs.YtldddinebhopcaaW.PrintWords Go.Proofs.YtldddinebhopcaaW.PrintLast Go.Proofs.YtldddinebhopcaaW.PrintMore Go.Proofs.Ytldddinebhopcaa.Bs Go.Proofs.Ytldddinebhopcaa.Fr
set_option linter.unusedVariables false
set_option linter.unusedSimpArgs false

def All64 (s : List (List Int)) : Prop := ∀ x ∈ s, x.length = 64
theorem All64.tail {x : List Int} {s : List (List Int)} (h : All64 (x :: s)) : x.length = 64 ∧ All64 s := ⟨h x List.mem_cons_self, fun y hy => h y (List.mem_cons_of_mem _ hy)⟩
theorem flat_len : ∀ {s : List (List Int)}, All64 s → s.flatten.length = s.length * 64
  | [], _ => by simp
  | x :: s, h => by
    have ih := flat_len h.tail.2
    rw [List.flatten_cons, List.length_append, h.tail.1, ih, List.length_cons]; omega
theorem flat_sec : ∀ {s : List (List Int)} (i : Nat), All64 s → i < s.length → s.getD i zB = (s.flatten.drop (i * 64)).take 64
  | [], _, _, h => by simp at h
  | x :: s, 0, h, _ => by
    rw [Nat.zero_mul, List.drop_zero, List.flatten_cons, List.take_append_of_le_length (by rw [h.tail.1]; exact Nat.le_refl _), List.take_of_length_le (by rw [h.tail.1]; exact Nat.le_refl _)]
    rfl
  | x :: s, i + 1, h, hi => by
    have ih := flat_sec i h.tail.2 (by simpa using hi)
    rw [List.flatten_cons, List.drop_append, List.drop_eq_nil_of_le (by rw [h.tail.1]; omega), List.nil_append, h.tail.1, show (i + 1) * 64 - 64 = i * 64 by omega, ← ih]
    rfl
theorem flat_set : ∀ {s : List (List Int)} (i : Nat) (b : List Int), All64 s → i < s.length → (s.set i b).flatten = s.flatten.take (i * 64) ++ b ++ s.flatten.drop (i * 64 + 64)
  | [], _, _, _, h => by simp at h
  | x :: s, 0, b, h, _ => by
    rw [List.set_cons_zero, List.flatten_cons, List.flatten_cons, Nat.zero_mul, List.take_zero, List.nil_append, Nat.zero_add, List.drop_append_of_le_length (by rw [h.tail.1]; exact Nat.le_refl _), List.drop_eq_nil_of_le (by rw [h.tail.1]; exact Nat.le_refl _), List.nil_append]
  | x :: s, i + 1, b, h, hi => by
    have ih := flat_set i b h.tail.2 (by simpa using hi)
    have hx := h.tail.1
    have h1 : (x ++ s.flatten).take ((i + 1) * 64) = x ++ s.flatten.take (i * 64) := by
      rw [List.take_append, List.take_of_length_le (l := x) (by rw [hx]; omega), hx, show (i + 1) * 64 - 64 = i * 64 by omega]
    have h2 : (x ++ s.flatten).drop ((i + 1) * 64 + 64) = s.flatten.drop (i * 64 + 64) := by
      rw [List.drop_append, (List.drop_eq_nil_of_le (by rw [hx]; omega) : x.drop ((i + 1) * 64 + 64) = []), hx, show (i + 1) * 64 + 64 - 64 = i * 64 + 64 by omega, List.nil_append]
    rw [List.set_cons_succ, List.flatten_cons, ih, List.flatten_cons, h1, h2]
    simp [List.append_assoc]
theorem All64.set {s : List (List Int)} (h : All64 s) (i : Nat) {b : List Int} (hb : b.length = 64) : All64 (s.set i b) := fun x hx => by
  rcases List.mem_or_eq_of_mem_set hx with hx | rfl
  · exact h x hx
  · exact hb
theorem All64.sec {s : List (List Int)} (h : All64 s) {i : Nat} (hi : i < s.length) : (s.getD i zB).length = 64 := by
  rw [List.getD_eq_getElem?_getD, List.getElem?_eq_getElem hi]; exact h _ (List.getElem_mem hi)
/-- The first cells written one by one. -/
def spl (l b : List Int) (o k : Nat) : List Int := l.take o ++ b.take k ++ l.drop (o + k)
theorem spl_zero (l b : List Int) (o : Nat) : spl l b o 0 = l := by unfold spl; simp
theorem spl_len {l b : List Int} {o k : Nat} (h : o + k ≤ l.length) (hb : k ≤ b.length) : (spl l b o k).length = l.length := by
  unfold spl; rw [List.length_append, List.length_append, List.length_take, List.length_take, List.length_drop, Nat.min_eq_left (by omega), Nat.min_eq_left hb]; omega
theorem spl_next {l b : List Int} {o k : Nat} {x : Int} (h : o + k < l.length) (hb : b[k]? = some x) : (spl l b o k).set (o + k) x = spl l b o (k + 1) := by
  have hk : k < b.length := (List.getElem?_eq_some_iff.1 hb).1
  have h1 : (l.take o ++ b.take k).length = o + k := by rw [List.length_append, List.length_take, List.length_take, Nat.min_eq_left (by omega), Nat.min_eq_left (by omega)]
  unfold spl
  rw [List.set_append, if_neg (by rw [h1]; omega), h1, Nat.sub_self, List.drop_eq_getElem_cons h, List.set_cons_zero, List.take_add_one, hb, show o + (k + 1) = o + k + 1 by omega]
  simp [List.append_assoc]
theorem spl_all {l b : List Int} {o n : Nat} (hb : b.length = n) : spl l b o n = l.take o ++ b ++ l.drop (o + n) := by unfold spl; rw [List.take_of_length_le (l := b) (by omega)]
theorem flat_spl {s : List (List Int)} (i : Nat) {b : List Int} (h : All64 s) (hi : i < s.length) (hb : b.length = 64) : spl s.flatten b (i * 64) 64 = (s.set i b).flatten := by rw [spl_all hb, flat_set i b h hi]
theorem laid_64 {l : List (Int × List Int)} (hl : ∀ p ∈ l, p.2.length = 64) : ∀ {s : List (List Int)}, All64 s → All64 (laid s l) := by
  induction l with
  | nil => intro s h; exact h
  | cons p l ih => intro s h; exact ih (fun q hq => hl q (List.mem_cons_of_mem _ hq)) (h.set _ (hl p List.mem_cons_self))
end Go.Proofs.Ytldddinebhopcaa.Sec
namespace Go.Proofs.Ytldddinebhopcaa.Sec
open Go.RowKit Go.Proofs.YtldddinebhopcaaW.PrintWords Go.Proofs.YtldddinebhopcaaW.PrintLast Go.Proofs.YtldddinebhopcaaW.PrintMore Go.Proofs.Ytldddinebhopcaa.Bs Go.Proofs.Ytldddinebhopcaa.Fr
set_option linter.unusedVariables false
set_option linter.unusedSimpArgs false

def encO (x : Option Addr × Nat × Nat) : Value := .slice x.1 x.2.1 x.2.2
def kO : Kd (Int × (Option Addr × Nat × Nat)) := Kd.pair (Kd.int .i64) (Kd.scalar encO (fun _ => rfl))
/-- The values of a document's disk: three rows, the queue, and the writes' slices. -/
structure RX where
  v0 : Value
  v1 : Value
  v2 : Value
  v3 : Value
  ws : List (Int × (Option Addr × Nat × Nat))
def footR (g : Nat) (X : RX) : Nat → Prop := foot g X.v0 X.v1 X.v2 X.v3
def bodyR (X : RX) : Nat → Prop := fun k => ∃ p ∈ X.ws, ∃ a : Addr, p.2.1 = some a ∧ a.block = k
def allR (g : Nat) (X : RX) : Nat → Prop := fun k => footR g X k ∨ bodyR X k
structure RV (w : World) (base g : Nat) (X : RX) (m : DM) : Prop where
  blk : w.heap[g]? = some (.cells #[.int .i64 m.now.length, X.v0, X.v1, X.v2, X.v3, .int .i64 m.ops] 101 (0, 0))
  sure : Kd.R (Kd.int .u8) 5 w base (fun _ => True) X.v0 m.sure.flatten
  now : Kd.R (Kd.int .u8) 5 w base (fun _ => True) X.v1 m.now.flatten
  since : Kd.R kO 107 w base (fun _ => True) X.v2 X.ws
  wait : Kd.Q (Kd.int .u8) 5 w base (fun _ => True) X.v3 m.wait
  wlen : X.ws.length = m.since.length
  bods : ∀ (j : Nat) (p : Int × List Int), m.since[j]? = some p → ∃ (gb cap : Nat), X.ws[j]? = some (p.1, (some ⟨gb, 0, none⟩ : Option Addr), 64, cap) ∧ p.2.length = 64 ∧ 64 ≤ cap ∧ w.rangeAt gb 0 (encs (Value.int .u8) p.2) ∧ base ≤ gb ∧ gb < w.heap.size ∧ ¬ footR g X gb
  ap : ∀ k, own X.v0 k → ¬ own X.v1 k
  ap3 : ∀ k, own X.v3 k → ¬ own X.v0 k ∧ ¬ own X.v1 k
  byt : ∀ x ∈ m.wait, 0 ≤ x ∧ x ≤ 255
  len : m.sure.length = m.now.length
  n1 : 1 ≤ m.now.length
  n2 : m.now.length ≤ 4096
  at_ : ∀ p ∈ m.since, 0 ≤ p.1 ∧ p.1 < m.now.length
  ge : base ≤ g
  s64 : All64 m.sure
  n64 : All64 m.now
  inv : m.now = laid m.sure m.since
section
variable {w w' : World} {base g : Nat} {X : RX} {m : DM}
theorem RV.keep (h : RV w base g X m) {F : Nat → Prop} (k : Fr w w' F) (hn : ∀ q, allR g X q → ¬ F q) : RV w' base g X m where
  blk := k.blk h.blk (hn g (.inl (.inl rfl)))
  sure := R_fr h.sure rfl k (fun q hq => hn q (.inl (.inr (.inl hq))))
  now := R_fr h.now rfl k (fun q hq => hn q (.inl (.inr (.inr (.inl hq)))))
  since := R_fr h.since rfl k (fun q hq => hn q (.inl (.inr (.inr (.inr (.inl hq))))))
  wait := Q_fr h.wait rfl k (fun q hq => hn q (.inl (.inr (.inr (.inr (.inr hq))))))
  wlen := h.wlen
  bods := fun j p hp => by
    obtain ⟨gb, cap, h1, h2, h3, h4, h5, h6, h7⟩ := h.bods j p hp
    exact ⟨gb, cap, h1, h2, h3, range_fr h4 k (hn gb (.inr ⟨_, List.mem_of_getElem? h1, _, rfl, rfl⟩)), h5, Nat.lt_of_lt_of_le h6 k.size, h7⟩
  ap := h.ap
  ap3 := h.ap3
  byt := h.byt
  len := h.len
  n1 := h.n1
  n2 := h.n2
  at_ := h.at_
  ge := h.ge
  s64 := h.s64
  n64 := h.n64
  inv := h.inv
theorem RV.below (h : RV w base g X m) (hb : Below w.heap.size w w') : RV w' base g X m := h.keep (Fr.of_below hb (fun _ => False)) (fun _ _ hk => hk)
theorem RV.bod (h : RV w base g X m) {k : Nat} (hk : bodyR X k) : base ≤ k ∧ k < w.heap.size ∧ ¬ footR g X k := by
  obtain ⟨p, hp, a, ha, rfl⟩ := hk
  obtain ⟨j, hj, rfl⟩ := List.mem_iff_getElem.1 hp
  have hj2 : j < m.since.length := by rw [← h.wlen]; exact hj
  obtain ⟨gb, cap, h1, _, _, _, h5, h6, h7⟩ := h.bods j _ (List.getElem?_eq_getElem hj2)
  rw [List.getElem?_eq_getElem hj] at h1
  have h1 := Option.some.inj h1
  rw [h1] at ha
  injection ha with ha
  subst ha
  exact ⟨h5, h6, h7⟩
theorem RV.foot_ge (h : RV w base g X m) : ∀ k, allR g X k → base ≤ k := by
  rintro k ((rfl | hk | hk | hk | hk) | hk)
  · exact h.ge
  · exact R_ge h.sure hk
  · exact R_ge h.now hk
  · exact R_ge h.since hk
  · exact Kd.Q_base h.wait k hk
  · exact (h.bod hk).1
theorem RV.foot_lt (h : RV w base g X m) : ∀ k, allR g X k → k < w.heap.size := by
  rintro k ((rfl | hk | hk | hk | hk) | hk)
  · exact blk_lt h.blk
  · exact R_lt' h.sure hk
  · exact R_lt' h.now hk
  · exact R_lt' h.since hk
  · exact Kd.Q_lt h.wait k hk
  · exact (h.bod hk).2.1
theorem RV.ne (h : RV w base g X m) : ¬ own X.v0 g ∧ ¬ own X.v1 g ∧ ¬ own X.v2 g ∧ ¬ own X.v3 g :=
  ⟨fun he => Kd.R_ne h.sure h.blk (by decide) he.symm, fun he => Kd.R_ne h.now h.blk (by decide) he.symm, fun he => Kd.R_ne h.since h.blk (by decide) he.symm, fun he => Kd.Q_ne h.wait h.blk (by decide) he.symm⟩
/-- Whoever writes nothing but the disk's own block leaves the rest. -/
theorem RV.own_set (h : RV w base g X m) (fr : Fr w w' (fun k => k = g)) :
    Kd.R (Kd.int .u8) 5 w' base (fun _ => True) X.v0 m.sure.flatten ∧ Kd.R (Kd.int .u8) 5 w' base (fun _ => True) X.v1 m.now.flatten ∧ Kd.R kO 107 w' base (fun _ => True) X.v2 X.ws ∧ Kd.Q (Kd.int .u8) 5 w' base (fun _ => True) X.v3 m.wait := by
  obtain ⟨n0, n1, n2, n3⟩ := h.ne
  exact ⟨R_fr h.sure rfl fr (fun k hk he => n0 (he ▸ hk)), R_fr h.now rfl fr (fun k hk he => n1 (he ▸ hk)), R_fr h.since rfl fr (fun k hk he => n2 (he ▸ hk)), Q_fr h.wait rfl fr (fun k hk he => n3 (he ▸ hk))⟩
theorem RV.bods_fr (h : RV w base g X m) {F : Nat → Prop} (fr : Fr w w' F) (hF : ∀ k, F k → footR g X k ∨ w.heap.size ≤ k) {X' : RX} (hws : X'.ws = X.ws) (hX : ∀ k, footR g X' k → footR g X k ∨ w.heap.size ≤ k) :
    ∀ (j : Nat) (p : Int × List Int), m.since[j]? = some p → ∃ (gb cap : Nat), X'.ws[j]? = some (p.1, (some ⟨gb, 0, none⟩ : Option Addr), 64, cap) ∧ p.2.length = 64 ∧ 64 ≤ cap ∧ w'.rangeAt gb 0 (encs (Value.int .u8) p.2) ∧ base ≤ gb ∧ gb < w'.heap.size ∧ ¬ footR g X' gb := fun j p hp => by
  obtain ⟨gb, cap, h1, h2, h3, h4, h5, h6, h7⟩ := h.bods j p hp
  refine ⟨gb, cap, by rw [hws]; exact h1, h2, h3, range_fr h4 fr (fun hf => ?_), h5, Nat.lt_of_lt_of_le h6 fr.size, fun hf => ?_⟩
  · rcases hF gb hf with hf | hf
    · exact h7 hf
    · omega
  · rcases hX gb hf with hf | hf
    · exact h7 hf
    · omega
end
def setR3 (X : RX) (v : Value) : RX := ⟨X.v0, X.v1, X.v2, v, X.ws⟩
theorem RV.after {w w2 : World} {base g : Nat} {X : RX} {m : DM} (h : RV w base g X m) (fr : Fr w w2 (fun k => k = g)) {v' : Value} (hb : w2.heap[g]? = some (.cells #[.int .i64 m.now.length, X.v0, X.v1, X.v2, v', .int .i64 (m.ops + 1)] 101 (0, 0)))
    (hQ : Kd.Q (Kd.int .u8) 5 w2 base (fun _ => True) v' m.wait.tail) (ho : ∀ k, own v' k → own X.v3 k) : RV w2 base g (setR3 X v') (took m) := by
  obtain ⟨r0, r1, r2, _⟩ := h.own_set fr
  refine ⟨hb, r0, r1, r2, hQ, h.wlen, h.bods_fr fr (fun k hk => .inl (.inl hk)) rfl ?_, h.ap, fun k hk => h.ap3 k (ho k hk), fun x hx => h.byt x (List.mem_of_mem_tail hx), h.len, h.n1, h.n2, h.at_, h.ge, h.s64, h.n64, h.inv⟩
  rintro k (hk | hk | hk | hk | hk)
  · exact .inl (.inl hk)
  · exact .inl (.inr (.inl hk))
  · exact .inl (.inr (.inr (.inl hk)))
  · exact .inl (.inr (.inr (.inr (.inl hk))))
  · exact .inl (.inr (.inr (.inr (.inr (ho k hk)))))
def outT (m : DM) (e : Ending) : Prop := e = .returned (.tuple #[.bool (outc m != 1), .int .i64 (tell (outc m))])
set_option maxHeartbeats 1000000 in
set_option maxRecDepth 100000 in
theorem RTake_calls (w : World) (base g : Nat) (X : RX) (m : DM) (h : RV w base g X m) (ho : 0 ≤ m.ops ∧ m.ops ≤ 1000000000) :
    Calls Try.prog 66 #[.pointer (some ⟨g, 0, none⟩)] w fun e w' => e = .returned (.tuple #[.bool (outc m != 1), .int .i64 (tell (outc m))]) ∧ ∃ v3', RV w' base g (setR3 X v3') (took m) ∧ (∀ k, own v3' k → own X.v3 k) ∧ Fr w w' (fun k => k = g) := by
  obtain ⟨A, c, hv3, hcl⟩ := Kd.Q_slice h.wait
  have H := Aside0.mk h
  have k3 : w.cell? ⟨g, 4, none⟩ = some (.slice A m.wait.length c) := by rw [← hv3]; exact blk_cell h.blk 4
  have k4 : w.cell? ⟨g, 5, none⟩ = some (.int .i64 m.ops) := blk_cell h.blk 5
  have f3 : w.frozen? ⟨g, 4, none⟩ = false := blk_frozen h.blk 4
  have f4 : w.frozen? ⟨g, 5, none⟩ = false := blk_frozen h.blk 5
  have HV3 := Aside0.mk hv3
  clear h hv3
  go_enter Try.func66, Try.ntmps66
  go_upto_region 2 with fail
  have fr : Fr w (w.setCell ⟨g, 5, none⟩ (.int .i64 (m.ops + 1))) (fun k => k = g) := Fr.set (g := g) (o := 5) (F := fun k => k = g) (Fr.refl w _) (.inl rfl) _
  have hb1 := blk_set H.out.blk 5 (.int .i64 (m.ops + 1))
  have FR := Aside0.mk fr
  have HB1 := Aside0.mk hb1
  have RR := Aside0.mk (H.out.own_set fr)
  clear fr hb1 k3 k4 f3 f4
  generalize w.setCell ⟨g, 5, none⟩ (.int .i64 (m.ops + 1)) = w1 at *
  have k3 : w1.cell? ⟨g, 4, none⟩ = some (.slice A m.wait.length c) := by rw [← HV3.out]; exact blk_cell HB1.out 4
  have f3 : w1.frozen? ⟨g, 4, none⟩ = false := blk_frozen HB1.out 4
  by_cases hw : m.wait.length = 0
  · have hw1 : ¬ 0 < m.wait.length := by omega
    have hnil : m.wait = [] := List.eq_nil_of_length_eq_zero hw
    have HN := Aside0.mk hnil
    clear hnil hw
    go_wp2_with fail
    go_ret2
    refine ⟨by unfold outc; rw [HN.out]; rfl, X.v3, H.out.after FR.out HB1.out ?_ (fun k hk => hk), fun k hk => hk, FR.out⟩
    have r3 := RR.out.2.2.2
    rw [HN.out] at r3 ⊢
    exact r3
  · have hw1 : 0 < m.wait.length := by omega
    have hw2 : (1 : Int) ≤ (m.wait.length : Int) := by omega
    have HW := Aside0.mk hw
    clear hw
    have r3 := RR.out.2.2.2
    rw [HV3.out] at r3
    have R3 := Aside0.mk r3
    clear r3
    obtain ⟨ad, rfl, hx⟩ := (Kd.reads_of_C (d := (0 : Int)) (Kd.Q_reads' R3.out).2.2).at_ 0 (by omega) (by omega)
    obtain ⟨x, hxx⟩ : ∃ x, x = rdOf 0 m.wait 0 := ⟨_, rfl⟩
    rw [← hxx] at hx
    have hcons : ∃ l, m.wait = x :: l := by
      cases hm : m.wait with
      | nil => exact absurd (by rw [hm]; rfl) HW.out
      | cons y l => exact ⟨l, by rw [hxx, hm]; rfl⟩
    have hxr : 0 ≤ x ∧ x ≤ 255 := by obtain ⟨l, hl⟩ := hcons; exact H.out.byt x (by rw [hl]; exact List.mem_cons_self)
    have HO : Aside0 (outc m = x % 3) := ⟨by obtain ⟨l, hl⟩ := hcons; unfold outc; rw [hl]⟩
    have HT : Aside0 (m.wait.drop 1 = m.wait.tail) := ⟨by obtain ⟨l, hl⟩ := hcons; rw [hl]; rfl⟩
    clear hcons hxx
    have e0 : ad.add (Int.toNat 0) = ad := by simp [Addr.add]
    rw [e0] at hx
    clear e0
    have hd := Kd.Q_drop (k := 1) R3.out (by omega)
    rw [HT.out] at hd
    have HD := Aside0.mk hd
    clear hd
    have hc3 : x % 3 = 0 ∨ x % 3 = 1 ∨ x % 3 = 2 := by omega
    have END : ∀ v', Kd.Q (Kd.int .u8) 5 w1 base (fun _ => True) v' m.wait.tail → (∀ k, own v' k → own X.v3 k) → RV (w1.setCell ⟨g, 4, none⟩ v') base g (setR3 X v') (took m) ∧ (∀ k, own v' k → own X.v3 k) ∧ Fr w (w1.setCell ⟨g, 4, none⟩ v') (fun k => k = g) := fun v' hQ ho => by
      have fr2 : Fr w (w1.setCell ⟨g, 4, none⟩ v') (fun k => k = g) := Fr.set (g := g) (o := 4) FR.out (.inl rfl) _
      have fr3 : Fr w1 (w1.setCell ⟨g, 4, none⟩ v') (fun k => k = g) := Fr.set (g := g) (o := 4) (F := fun k => k = g) (Fr.refl w1 _) (.inl rfl) _
      exact ⟨H.out.after fr2 (blk_set HB1.out 4 v') (Q_fr hQ rfl fr3 (fun k hk he => H.out.ne.2.2.2 (by subst he; exact ho _ hk))) ho, ho, fr2⟩
    have EN := Aside0.mk END
    clear END
    rcases hc3 with hc | hc | hc
    case' inl => have t1 : (x % 3 == 1) = false := by rw [hc]; rfl
                 have t2 : (x % 3 == 2) = false := by rw [hc]; rfl
    case' inr.inl => have t1 : (x % 3 == 1) = true := by rw [hc]; rfl
    case' inr.inr => have t1 : (x % 3 == 1) = false := by rw [hc]; rfl
                     have t2 : (x % 3 == 2) = true := by rw [hc]; rfl
    all_goals
      have HC := Aside0.mk hc
      clear hc
      go_wp2_with fail
      all_goals
        go_ret2
        have hd := HD.out
      · have hc1 : c = 1 := by assumption
        subst hc1
        rw [if_pos rfl] at hd
        have hd : Kd.Q (Kd.int .u8) 5 w1 base (fun _ => True) (.slice (some ad) (m.wait.length - 1) 0) m.wait.tail := hd
        exact ⟨by rw [HO.out, HC.out]; rfl, _, EN.out _ hd (fun k hk => by rw [HV3.out]; simpa [own, Value.ownBlock] using hk)⟩
      · have hc1 : ¬ c = 1 := by assumption
        rw [if_neg hc1] at hd
        have hd : Kd.Q (Kd.int .u8) 5 w1 base (fun _ => True) (.slice (some ⟨ad.block, ad.off + 1, none⟩) (m.wait.length - 1) (c - 1)) m.wait.tail := hd
        exact ⟨by rw [HO.out, HC.out]; rfl, _, EN.out _ hd (fun k hk => by rw [HV3.out]; simpa [own, Value.ownBlock] using hk)⟩
end Go.Proofs.Ytldddinebhopcaa.Sec
namespace Go.Proofs.Ytldddinebhopcaa.Sec
open Go.RowKit Go.Proofs.YtldddinebhopcaaW.PrintWords Go.Proofs.YtldddinebhopcaaW.PrintLast Go.Proofs.YtldddinebhopcaaW.PrintMore Go.Proofs.Ytldddinebhopcaa.Bs Go.Proofs.Ytldddinebhopcaa.Fr
set_option linter.unusedVariables false
set_option linter.unusedSimpArgs false
theorem getD_of {xs : List Int} {q : Nat} {x : Int} (h : xs[q]? = some x) : rdOf (0 : Int) xs (q : Int) = x := by
  unfold rdOf
  rw [Int.toNat_natCast, List.getD_eq_getElem?_getD, h]; rfl
theorem RV.flat {w : World} {base g : Nat} {X : RX} {m : DM} (h : RV w base g X m) : m.now.flatten.length = m.now.length * 64 ∧ m.sure.flatten.length = m.now.length * 64 := ⟨flat_len h.n64, by rw [flat_len h.s64, h.len]⟩
set_option maxHeartbeats 1000000 in
set_option maxRecDepth 100000 in
theorem RRead_bad (w : World) (base g : Nat) (X : RX) (m : DM) (h : RV w base g X m) (i : Int) (hi : i < 0 ∨ (m.now.length : Int) ≤ i) :
    Calls Try.prog 53 #[.pointer (some ⟨g, 0, none⟩), .int .i64 i] w fun e w' => e = .returned (.tuple #[.slice none 0 0, .int .i64 1]) ∧ w = w' := by
  have k0 : w.cell? ⟨g, 0, none⟩ = some (.int .i64 m.now.length) := blk_cell h.blk 0
  clear h
  by_cases h0 : i < 0
  · go_enter Try.func53, Try.ntmps53
    go_wp2_with fail
    go_ret2
    exact ⟨rfl, rfl⟩
  · have h1 : decide (i ≥ (m.now.length : Int)) = true := decide_eq_true (by omega)
    have h2 : (m.now.length : Int) ≤ i := by omega
    go_enter Try.func53, Try.ntmps53
    go_wp2_with fail
    go_ret2
    exact ⟨rfl, rfl⟩
set_option maxHeartbeats 2000000 in
set_option maxRecDepth 100000 in
theorem RRead_calls (w : World) (base g : Nat) (X : RX) (m : DM) (h : RV w base g X m) (n : Nat) (hn : n < m.now.length) :
    Calls Try.prog 53 #[.pointer (some ⟨g, 0, none⟩), .int .i64 n] w fun e w' => ∃ A c, e = .returned (.tuple #[.slice A 64 c, .int .i64 0]) ∧ Kd.R (Kd.int .u8) 5 w' w.heap.size (fun _ => True) (.slice A 64 c) (m.now.getD n zB) ∧ Below w.heap.size w w' := by
  obtain ⟨hf, _⟩ := h.flat
  obtain ⟨go, co, hv1, gb, gl, cl, HG⟩ := Kd.R_form h.now (by rw [hf]; omega)
  have k0 : w.cell? ⟨g, 0, none⟩ = some (.int .i64 m.now.length) := blk_cell h.blk 0
  have k2 : w.cell? ⟨g, 2, none⟩ = some (.slice (some ⟨go, 0, none⟩) m.now.flatten.length co) := by rw [← hv1]; exact blk_cell h.blk 2
  have hr := h.now
  rw [hv1] at hr
  have HSEC := Aside0.mk (flat_sec n h.n64 hn)
  have hn0 : ¬ ((n : Int) < 0) := by omega
  have hn1 : decide ((n : Int) ≥ (m.now.length : Int)) = false := decide_eq_false (by omega)
  have hn2 : n ≤ 4096 := by have := h.n2; omega
  have hfl : n * 64 + 64 ≤ m.now.flatten.length := by rw [hf]; omega
  have hfm : m.now.flatten.length ≤ 262144 := by rw [hf]; have := h.n2; omega
  have HFL := Aside0.mk hfl
  have HFM := Aside0.mk hfm
  have HR := Aside0.mk hr
  have hn3 : ¬ m.now.length ≤ n := by omega
  clear h hf hv1 HG hr hfl hfm hn cl gl gb
  generalize m.now.flatten = F at *
  generalize m.now.getD n zB = S at *
  generalize m.now.length = N at *
  go_enter Try.func53, Try.ntmps53
  go_wp2_with fail
  go_loopg [6, 7] 64 (fun r v6 v7 wr => ∃ (i : Nat), v7 = .int .i64 i ∧ Aside0 (Kd.R (Kd.int .u8) 5 wr w.heap.size (fun _ => True) v6 ((F.drop (n * 64)).take i)) ∧ Aside0 (r + i = 64) ∧ Aside0 (Below w.heap.size w wr))
  case atStart => exact ⟨0, rfl, ⟨by simpa using Kd.R_nil _ _ _ _ _⟩, ⟨by omega⟩, ⟨Below.refl _ _⟩⟩
  case round =>
    obtain ⟨i, rfl, RR, hrr, hbr⟩ := hrel
    have kr2 : wr.cell? ⟨g, 2, none⟩ = some (.slice (some ⟨go, 0, none⟩) F.length co) := pw_cell_below hbr.out k2
    by_cases hi : i < 64
    · have hi1 : decide ((i : Int) < 64) = true := decide_eq_true (by omega)
      have hi2 : (i : Int) < 64 := by omega
      obtain ⟨q, hq⟩ : ∃ q : Nat, (n : Int) * 64 + (i : Int) = (q : Int) := ⟨n * 64 + i, by omega⟩
      have hq1 : q < F.length := by have := HFL.out; omega
      have hq2 : (q : Int) < (F.length : Int) := by omega
      have hq3 : q ≤ 262144 := by have := HFM.out; omega
      obtain ⟨x, hx⟩ : ∃ x, F[q]? = some x := ⟨_, List.getElem?_eq_getElem hq1⟩
      have hc := (Kd.R_celln (0 : Int) (Kd.R_below HR.out hbr.out) (q : Int) (by omega) hq2).1
      rw [getD_of hx] at hc
      have hc : wr.cell? ⟨go, q, none⟩ = some (.int .u8 x) := hc
      have HNX : Aside0 ((F.drop (n * 64)).take (i + 1) = (F.drop (n * 64)).take i ++ [x]) := ⟨by rw [List.take_add_one, List.getElem?_drop, show n * 64 + i = q by omega, hx]; rfl⟩
      have HLT := Aside0.mk (List.length_take_le i (F.drop (n * 64)))
      clear hx
      go_wp2_with ((with_reducible refine gate_builtin (b := .append) (xs := #[.tmp 22, .tmp 33]) rfl ?_); at_builtin; refine Kd.R_append (Kd.int .u8) (w0 := w) w.heap.size rfl (.tmp 22) (.tmp 33) 23 5 (.int .u8 0) 1 rfl Try.underlying23 info_u8 rfl (by decide) (by decide) _ ((F.drop (n * 64)).take i) x [.int .u8 x] (fun _ => True) (fun _ => False) rfl rfl rfl (fun _ hk => hk.elim) (fun _ _ => trivial) RR.out hbr.out hbr.out.size (by have := HLT.out; omega) ?_; intro v9 w9 hr9 hb9 hg9 hat9; rw [← HNX.out] at hr9; have R9 := Aside0.mk hr9; have B9 := Aside0.mk hb9; clear hr9 hb9 hg9 hat9)
      go_roundg (64 - (i + 1))
      case measure => have := hrr.out; omega
      case rel => exact ⟨i + 1, by first | rfl | (rw [show wrap64 ((i : Int) + 1) = ((i + 1 : Nat) : Int) from by unfold wrap64; omega]), R9, ⟨by omega⟩, B9⟩
    · have hi1 : decide ((i : Int) < 64) = false := decide_eq_false (by omega)
      have hil : i = 64 := by have := hrr.out; omega
      subst hil
      have hrow := RR.out
      rw [← HSEC.out] at hrow
      have hlen : S.length = 64 := by rw [HSEC.out, List.length_take, List.length_drop]; have := HFL.out; omega
      obtain ⟨A, c, hv⟩ := Kd.R_slice hrow
      rw [hlen] at hv
      subst hv
      have HRW := Aside0.mk hrow
      clear hrow RR hlen
      go_wp2_with fail
      go_ret2
      exact ⟨A, c, rfl, HRW.out, hbr.out⟩
end Go.Proofs.Ytldddinebhopcaa.Sec
namespace Go.Proofs.Ytldddinebhopcaa.Sec
open Go.RowKit Go.Proofs.YtldddinebhopcaaW.PrintWords Go.Proofs.YtldddinebhopcaaW.PrintLast Go.Proofs.YtldddinebhopcaaW.PrintMore Go.Proofs.Ytldddinebhopcaa.Bs Go.Proofs.Ytldddinebhopcaa.Fr
set_option linter.unusedVariables false
set_option linter.unusedSimpArgs false
theorem two_new (w : World) (o o' : Obj) : ((w.alloc o).alloc o').heap[w.heap.size + 1]? = some o' := by
  have h := blk_new (w.alloc o) o'
  rw [World.size_alloc] at h
  exact h
theorem fork2 (W : World) (o : Obj) : ((W.drew.alloc o).alloc o).heap[W.heap.size]? = some o ∧ ((W.drew.alloc o).alloc o).heap[W.heap.size + 1]? = some o ∧ W.heap.size ≠ W.heap.size + 1 ∧ W.heap.size ≤ W.heap.size ∧ W.heap.size ≤ W.heap.size + 1 ∧ Below W.heap.size W ((W.drew.alloc o).alloc o) :=
  ⟨blk_alloc (blk_new W.drew o) o, two_new W.drew o o, by omega, Nat.le_refl _, Nat.le_succ _, Below.alloc (Below.alloc (Below.refl W.heap.size W).drew (Nat.le_refl _) o) (by rw [World.size_alloc]; exact Nat.le_succ _) o⟩
theorem fork2' (W : World) (o : Obj) : ((W.drew.alloc o).alloc o).heap[W.heap.size + 1]? = some o ∧ ((W.drew.alloc o).alloc o).heap[W.heap.size]? = some o ∧ W.heap.size + 1 ≠ W.heap.size ∧ W.heap.size ≤ W.heap.size + 1 ∧ W.heap.size ≤ W.heap.size ∧ Below W.heap.size W ((W.drew.alloc o).alloc o) :=
  ⟨two_new W.drew o o, blk_alloc (blk_new W.drew o) o, by omega, Nat.le_succ _, Nat.le_refl _, (fork2 W o).2.2.2.2.2⟩
def m0 (n : Nat) : DM := ⟨List.replicate n (List.replicate 64 0), List.replicate n (List.replicate 64 0), [], [], 0⟩
theorem flat_rep (n : Nat) : (List.replicate n (List.replicate 64 (0 : Int))).flatten = List.replicate (n * 64) 0 := by
  induction n with
  | zero => simp
  | succ n ih => rw [List.replicate_succ, List.flatten_cons, ih, List.replicate_append_replicate]; congr 1; omega
theorem made_rep (n : Nat) : madeCells (Value.int .u8 0).cells n = (encs (Value.int .u8) (List.replicate n 0)).toArray := by
  apply Array.ext
  · rw [size_madeCells]; simp [encs]
  · intro i h1 h2
    simp [madeCells, encs, Value.cells, Nat.mod_one]
theorem run_mk (Q : Nat) (hQ : Q ≤ 1000000) (W : World) : (Instr.makeSlice 23 (.int .i64 (Q : Int)) (.int .i64 (Q : Int))).run Try.prog W = .ok (.slice (some ⟨W.heap.size, 0, none⟩) Q Q) (W.alloc (.cells (encs (Value.int .u8) (List.replicate Q 0)).toArray 5)) := by
  obtain ⟨i0, hi, hzz⟩ := Option.map_eq_some_iff.1 info_u8
  simp only [Prod.mk.injEq] at hzz
  obtain ⟨hz0, hz1, hz2⟩ := hzz
  have hr := run_make (P := Try.prog) W 23 5 i0 (.int .u8 0) Try.underlying23 hi hz0 .i64 .i64 (Q : Int) (Q : Int) (by omega) (by omega) (by rw [hz2]; omega) (by omega)
  rw [hz1, Int.toNat_natCast, Nat.mul_one, made_rep] at hr
  exact hr
set_option maxHeartbeats 2000000 in
set_option maxRecDepth 100000 in
theorem RNew_calls (w : World) (n : Nat) (hn : 1 ≤ n) (hn2 : n ≤ 4096) :
    Calls Try.prog 41 #[.int .i64 n] w fun e w' => ∃ g X, e = .returned (.tuple #[.pointer (some ⟨g, 0, none⟩), .int .i64 0]) ∧ RV w' w.heap.size g X (m0 n) ∧ X.v3 = .slice none 0 0 ∧ Below w.heap.size w w' := by
  obtain ⟨Q, hQ⟩ : ∃ Q : Nat, (n : Int) * 64 = (Q : Int) := ⟨n * 64, by omega⟩
  have hwq : wrap64 (Q : Int) = (Q : Int) := by unfold wrap64; omega
  have hmk := run_mk Q (by omega)
  have h1 : ¬ ((n : Int) < 1) := by omega
  have h2 : ¬ ((n : Int) > 4096) := by omega
  have h3 : ¬ (4096 < n) := by omega
  have HQ := Aside0.mk hQ
  have HN := Aside0.mk (And.intro hn hn2)
  have hq0 : (0 : Int) ≤ (Q : Int) := by omega
  go_enter Try.func41, Try.ntmps41
  go_upto_region 3 with fail
  clear hn hn2 h1 h2 h3
  refine start_ (n := 11) (S := fun w' => True) (ds := []) #[false, false, false, false, false, false, false, false, false, false, false] (by kernel_rfl) rfl rfl (trivial) (fun hHeld => ?_)
  refine pure_ (i := 0) (N := some 10) (v := ?_) (a' := ?_) #[true, false, false, false, false, false, false, false, false, false, false] rfl rfl (by kernel_rfl) (fun _ _ _ h => h) (Or.inl ⟨by rfl, ?_⟩) ?_ ?_
  rotate_left
  · intro w'
    go_simp
    with_reducible rfl
  rotate_left
  · simp only [Act.put, List.setIfInBounds_toArray, List.set_cons_zero, List.set_cons_succ, i64_w, i32_w]
    rfl
  refine pure_ (i := 1) (N := some 11) (v := ?_) (a' := ?_) #[true, true, false, false, false, false, false, false, false, false, false] rfl rfl (by kernel_rfl) (fun _ _ _ h => h) (Or.inl ⟨by rfl, ?_⟩) ?_ ?_
  rotate_left
  · intro w'
    go_simp
    with_reducible rfl
  rotate_left
  · simp only [Act.put, List.setIfInBounds_toArray, List.set_cons_zero, List.set_cons_succ, i64_w, i32_w]
    rfl
  refine pure_ (i := 2) (N := some 12) (v := ?_) (a' := ?_) #[true, true, true, false, false, false, false, false, false, false, false] rfl rfl (by kernel_rfl) (fun _ _ _ h => h) (Or.inl ⟨by rfl, ?_⟩) ?_ ?_
  rotate_left
  · intro w'
    go_simp
    with_reducible rfl
  rotate_left
  · simp only [Act.put, List.setIfInBounds_toArray, List.set_cons_zero, List.set_cons_succ, i64_w, i32_w]
    rfl
  refine pure_ (i := 4) (N := some 14) (v := ?_) (a' := ?_) #[true, true, true, false, true, false, false, false, false, false, false] rfl rfl (by kernel_rfl) (fun _ _ _ h => h) (Or.inl ⟨by rfl, ?_⟩) ?_ ?_
  rotate_left
  · intro w'
    go_simp
    with_reducible rfl
  rotate_left
  · simp only [Act.put, List.setIfInBounds_toArray, List.set_cons_zero, List.set_cons_succ, i64_w, i32_w]
    rfl
  refine pure_ (i := 5) (N := some 15) (v := ?_) (a' := ?_) #[true, true, true, false, true, true, false, false, false, false, false] rfl rfl (by kernel_rfl) (fun _ _ _ h => h) (Or.inl ⟨by rfl, ?_⟩) ?_ ?_
  rotate_left
  · intro w'
    go_simp
    with_reducible rfl
  rotate_left
  · simp only [Act.put, List.setIfInBounds_toArray, List.set_cons_zero, List.set_cons_succ, i64_w, i32_w]
    rfl
  refine join_ (σ := Nat × Nat) 4 #[true, true, true, true, true, true, true, false, false, false, false] (fun s => [(13, .slice (some ⟨s.1, 0, none⟩) Q Q), (16, .slice (some ⟨s.2, 0, none⟩) Q Q)]) (fun s w' => True ∧ w'.heap[s.1]? = some (.cells (encs (Value.int .u8) (List.replicate Q 0)).toArray 5 (0, 0)) ∧ w'.heap[s.2]? = some (.cells (encs (Value.int .u8) (List.replicate Q 0)).toArray 5 (0, 0)) ∧ s.1 ≠ s.2 ∧ w.heap.size ≤ s.1 ∧ w.heap.size ≤ s.2 ∧ Below w.heap.size w w') ?_ ?_
  rotate_left
  · intro hCont
    refine two_ (i := 3) (j := 6) (Ni := some 13) (Nj := some 16) #[true, true, true, true, true, true, false, false, false, false, false] #[true, true, true, false, true, true, true, false, false, false, false] rfl rfl rfl rfl (by kernel_rfl) (by decide) (by decide) (fun K hK => ?_) (fun K hK => ?_)
    · skip
      refine value_ (w1 := ?_) (v := ?_) (by rfl) rfl ?_ ?_
      rotate_left 2
      · go_simp
        constructor
        · rfl
        · rfl
      refine hK.out _ _ (trivial) (fun hHeld => ?_)
      clear hK K
      refine norm_ (a' := ?_) ?_ ?_
      rotate_left
      · show Act.put _ (some 13) _ = _
        simp only [Act.put, List.setIfInBounds_toArray, List.set_cons_zero, List.set_cons_succ, i64_w, i32_w]
        rfl
      refine one_ (i := 6) (N := some 16) #[true, true, true, true, true, true, true, false, false, false, false] rfl rfl (by kernel_rfl) (by decide) (fun K hK => ?_)
      refine value_ (w1 := ?_) (v := ?_) (by rfl) rfl ?_ ?_
      rotate_left 2
      · go_simp
        constructor
        · rfl
        · rfl
      refine hK.out _ _ (trivial) (fun hHeld => ?_)
      clear hK K
      refine norm_ (a' := ?_) ?_ ?_
      rotate_left
      · show Act.put _ (some 16) _ = _
        simp only [Act.put, List.setIfInBounds_toArray, List.set_cons_zero, List.set_cons_succ, i64_w, i32_w]
        rfl
      exact norm_ (by simp only [putAll, Act.put, List.setIfInBounds_toArray, List.set_cons_zero, List.set_cons_succ]) (hCont (w.heap.size, w.heap.size + 1) _ ⟨trivial, fork2 w _⟩)
    · skip
      refine value_ (w1 := ?_) (v := ?_) (by rfl) rfl ?_ ?_
      rotate_left 2
      · go_simp
        constructor
        · rfl
        · rfl
      refine hK.out _ _ (trivial) (fun hHeld => ?_)
      clear hK K
      refine norm_ (a' := ?_) ?_ ?_
      rotate_left
      · show Act.put _ (some 16) _ = _
        simp only [Act.put, List.setIfInBounds_toArray, List.set_cons_zero, List.set_cons_succ, i64_w, i32_w]
        rfl
      refine one_ (i := 3) (N := some 13) #[true, true, true, true, true, true, true, false, false, false, false] rfl rfl (by kernel_rfl) (by decide) (fun K hK => ?_)
      refine value_ (w1 := ?_) (v := ?_) (by rfl) rfl ?_ ?_
      rotate_left 2
      · go_simp
        constructor
        · rfl
        · rfl
      refine hK.out _ _ (trivial) (fun hHeld => ?_)
      clear hK K
      refine norm_ (a' := ?_) ?_ ?_
      rotate_left
      · show Act.put _ (some 13) _ = _
        simp only [Act.put, List.setIfInBounds_toArray, List.set_cons_zero, List.set_cons_succ, i64_w, i32_w]
        rfl
      exact norm_ (by simp only [putAll, Act.put, List.setIfInBounds_toArray, List.set_cons_zero, List.set_cons_succ]) (hCont (w.heap.size + 1, w.heap.size) _ ⟨trivial, fork2' w _⟩)
  rintro ⟨a6, a7⟩ w6 ⟨_, h61, h62, h63, h64, h65, h66⟩
  have hHeld : True := trivial
  have X6 : Aside0 (w6.heap[a6]? = some (.cells (encs (Value.int .u8) (List.replicate Q 0)).toArray 5 (0, 0))) := ⟨h61⟩
  have X7 : Aside0 (w6.heap[a7]? = some (.cells (encs (Value.int .u8) (List.replicate Q 0)).toArray 5 (0, 0))) := ⟨h62⟩
  have NE67 : Aside0 (a6 ≠ a7) := ⟨h63⟩
  have L6 : Aside0 (w.heap.size ≤ a6) := ⟨h64⟩
  have L7 : Aside0 (w.heap.size ≤ a7) := ⟨h65⟩
  have B6 : Aside0 (Below w.heap.size w w6) := ⟨h66⟩
  clear h61 h62 h63 h64 h65 h66
  refine norm_ (a' := ?_) ?_ ?_
  rotate_left
  · simp only [putAll, Act.put, List.setIfInBounds_toArray, List.set_cons_zero, List.set_cons_succ]
    rfl
  refine pure_ (i := 7) (N := some 17) (v := ?_) (a' := ?_) #[true, true, true, true, true, true, true, true, false, false, false] rfl rfl (by kernel_rfl) (fun _ _ _ h => h) (Or.inl ⟨by rfl, ?_⟩) ?_ ?_
  rotate_left
  · intro w'
    go_simp
    with_reducible rfl
  rotate_left
  · simp only [Act.put, List.setIfInBounds_toArray, List.set_cons_zero, List.set_cons_succ, i64_w, i32_w]
    rfl
  refine one_ (i := 8) (N := some 18) #[true, true, true, true, true, true, true, true, true, false, false] rfl rfl (by kernel_rfl) (by decide) (fun K hK => ?_)
  refine value_ (w1 := ?_) (v := ?_) (by rfl) rfl ?_ ?_
  rotate_left 2
  · go_simp
    constructor
    · rfl
    · rfl
  refine hK.out _ _ (trivial) (fun hHeld => ?_)
  clear hK K
  refine norm_ (a' := ?_) ?_ ?_
  rotate_left
  · show Act.put _ (some 18) _ = _
    simp only [Act.put, List.setIfInBounds_toArray, List.set_cons_zero, List.set_cons_succ, i64_w, i32_w]
    rfl
  refine pure_ (i := 9) (N := some 2) (v := ?_) (a' := ?_) #[true, true, true, true, true, true, true, true, true, true, false] rfl rfl (by kernel_rfl) (fun _ _ _ h => h) (Or.inl ⟨by rfl, ?_⟩) ?_ ?_
  rotate_left
  · intro w'
    go_simp
    with_reducible rfl
  rotate_left
  · simp only [Act.put, List.setIfInBounds_toArray, List.set_cons_zero, List.set_cons_succ, i64_w, i32_w]
    rfl
  refine pure_ (i := 10) (N := some 3) (v := ?_) (a' := ?_) #[true, true, true, true, true, true, true, true, true, true, true] rfl rfl (by kernel_rfl) (fun _ _ _ h => h) (Or.inl ⟨by rfl, ?_⟩) ?_ ?_
  rotate_left
  · intro w'
    go_simp
    with_reducible rfl
  rotate_left
  · simp only [Act.put, List.setIfInBounds_toArray, List.set_cons_zero, List.set_cons_succ, i64_w, i32_w]
    rfl
  refine done_ (by kernel_rfl) ?_
  go_wp2_with fail
  go_ret2
  have e : List.replicate Q (0 : Int) = (List.replicate n (List.replicate 64 0)).flatten := by rw [flat_rep, show n * 64 = Q by have := HQ.out; omega]
  have lt6 := blk_lt X6.out
  have lt7 := blk_lt X7.out
  have r6 := R_blk (h1 := fun _ => rfl) (base := w.heap.size) (blk_alloc X6.out (.cells #[.int .i64 n, .slice (some ⟨a6, 0, none⟩) Q Q, .slice (some ⟨a7, 0, none⟩) Q Q, .slice none 0 0, .slice none 0 0, .int .i64 0] 101)) L6.out (by have := HQ.out; have := HN.out; rw [List.length_replicate]; omega)
  have r7 := R_blk (h1 := fun _ => rfl) (base := w.heap.size) (blk_alloc X7.out (.cells #[.int .i64 n, .slice (some ⟨a6, 0, none⟩) Q Q, .slice (some ⟨a7, 0, none⟩) Q Q, .slice none 0 0, .slice none 0 0, .int .i64 0] 101)) L7.out (by have := HQ.out; have := HN.out; rw [List.length_replicate]; omega)
  rw [List.length_replicate, e] at r6 r7
  have hn := HN.out
  have a64 : All64 (List.replicate n (List.replicate 64 (0 : Int))) := fun x hx => by rw [(List.mem_replicate.1 hx).2]; simp
  refine ⟨w6.heap.size, ⟨.slice (some ⟨a6, 0, none⟩) Q Q, .slice (some ⟨a7, 0, none⟩) Q Q, .slice none 0 0, .slice none 0 0, []⟩, rfl, ⟨?_, r6, r7, Kd.R_nil _ _ _ _ _, Kd.Q_nil _ _ _ _ _, rfl, (fun j p hp => by simp [m0] at hp), ?_, (fun k hk => by cases hk), (fun x hx => by cases hx), rfl, ?_, ?_, (fun p hp => by cases hp), Nat.le_trans L6.out (Nat.le_of_lt lt6), a64, a64, rfl⟩, rfl, B6.out.alloc B6.out.size _⟩
  · have h_ := blk_new w6 (.cells #[.int .i64 n, .slice (some ⟨a6, 0, none⟩) Q Q, .slice (some ⟨a7, 0, none⟩) Q Q, .slice none 0 0, .slice none 0 0, .int .i64 0] 101)
    rw [h_]
    show _ = some (Obj.cells #[.int .i64 ((List.replicate n (List.replicate 64 (0 : Int))).length : Nat), _, _, _, _, _] _ _)
    rw [List.length_replicate]
    rfl
  · intro k h1 h2
    have h1 : some a6 = some k := h1
    have h2 : some a7 = some k := h2
    rw [← h2] at h1
    exact NE67.out (Option.some.inj h1)
  · show 1 ≤ (List.replicate n (List.replicate 64 (0 : Int))).length
    rw [List.length_replicate]; exact hn.1
  · show (List.replicate n (List.replicate 64 (0 : Int))).length ≤ 4096
    rw [List.length_replicate]; exact hn.2
set_option maxHeartbeats 1000000 in
set_option maxRecDepth 100000 in
theorem RNew_bad (w : World) (n : Int) (h : n < 1 ∨ n > 4096) : Calls Try.prog 41 #[.int .i64 n] w fun e w' => e = .returned (.tuple #[.pointer none, .int .i64 1]) ∧ w = w' := by
  by_cases h0 : n < 1
  · go_enter Try.func41, Try.ntmps41
    go_wp2_with fail
    go_ret2
    exact ⟨rfl, rfl⟩
  · have h1 : n > 4096 := by omega
    have h2 : (4096 : Int) < n := by omega
    go_enter Try.func41, Try.ntmps41
    go_wp2_with fail
    go_ret2
    exact ⟨rfl, rfl⟩
end Go.Proofs.Ytldddinebhopcaa.Sec
namespace Go.Proofs.Ytldddinebhopcaa.Sec
open Go.RowKit Go.Proofs.YtldddinebhopcaaW.PrintWords Go.Proofs.YtldddinebhopcaaW.PrintLast Go.Proofs.YtldddinebhopcaaW.PrintMore Go.Proofs.Ytldddinebhopcaa.Bs Go.Proofs.Ytldddinebhopcaa.Fr
set_option linter.unusedVariables false
set_option linter.unusedSimpArgs false
theorem own_type {w : World} {k e e' : Nat} (h1 : ∃ cells, w.heap[k]? = some (.cells cells e (0, 0))) (h2 : ∃ cells, w.heap[k]? = some (.cells cells e' (0, 0))) : e = e' := by
  obtain ⟨c1, h1⟩ := h1
  obtain ⟨c2, h2⟩ := h2
  rw [h1] at h2
  injection h2 with h2
  injection h2
section
variable {w w1 w' : World} {base g : Nat} {X : RX} {m : DM}
theorem RV.ap23 (h : RV w base g X m) {k : Nat} (h2 : own X.v2 k) : ¬ own X.v0 k ∧ ¬ own X.v1 k ∧ ¬ own X.v3 k :=
  ⟨fun he => absurd (own_type (Kd.R_typed h.since k h2) (Kd.R_typed h.sure k he)) (by decide), fun he => absurd (own_type (Kd.R_typed h.since k h2) (Kd.R_typed h.now k he)) (by decide), fun he => absurd (own_type (Kd.R_typed h.since k h2) (Kd.Q_typed h.wait k he)) (by decide)⟩
theorem RV.foot3 (h : RV w base g X m) {v1 : Value} {n : Nat} (hn : ∀ k, own v1 k → own X.v3 k ∨ n ≤ k) : ∀ k, footR g (setR3 X v1) k → footR g X k ∨ n ≤ k := by
  rintro k (hk | hk | hk | hk | hk)
  · exact .inl (.inl hk)
  · exact .inl (.inr (.inl hk))
  · exact .inl (.inr (.inr (.inl hk)))
  · exact .inl (.inr (.inr (.inr (.inl hk))))
  · rcases hn k hk with hk | hk
    · exact .inl (.inr (.inr (.inr (.inr hk))))
    · exact .inr hk
theorem RV.put3 (h : RV w base g X m) (hg : w.drew.grownBy w1 X.v3.ownBlock) {v1 : Value} {l : List Int} (hQ : Kd.Q (Kd.int .u8) 5 w1 base (fun _ => True) v1 l) (hat : v1.ownBlock = X.v3.ownBlock ∨ ∃ b, v1.ownBlock = some b ∧ w.heap.size ≤ b) (hby : ∀ x ∈ l, 0 ≤ x ∧ x ≤ 255) :
    RV (w1.setCell ⟨g, 4, none⟩ v1) base g (setR3 X v1) (waits m l) ∧ Fr w (w1.setCell ⟨g, 4, none⟩ v1) (footR g X) ∧ ∀ k, own v1 k → own X.v3 k ∨ w.heap.size ≤ k := by
  have hown : ∀ k, own v1 k → own X.v3 k ∨ w.heap.size ≤ k := fun k hk => by
    rcases hat with hat | ⟨b, hb, hlt⟩
    · exact .inl (by unfold own at hk ⊢; rw [← hat]; exact hk)
    · refine .inr ?_
      have hk : v1.ownBlock = some k := hk
      rw [hb] at hk
      rw [← Option.some.inj hk]; exact hlt
  have fr1 : Fr w w1 (fun k => k = g ∨ own X.v3 k) := ((Fr.refl w _).drew).grown hg (fun k hk => .inl (.inr hk))
  have fr : Fr w (w1.setCell ⟨g, 4, none⟩ v1) (fun k => k = g ∨ own X.v3 k) := fr1.set (.inl (.inl rfl)) v1
  have hne := h.ne
  have hgl : g < w.heap.size := blk_lt h.blk
  have hb1 : w1.heap[g]? = some (.cells #[.int .i64 m.now.length, X.v0, X.v1, X.v2, X.v3, .int .i64 m.ops] 101 (0, 0)) := by
    have := hg.block g hgl (fun he => hne.2.2.2 he.symm)
    rw [this]; exact h.blk
  have hfr3 : Fr w1 (w1.setCell ⟨g, 4, none⟩ v1) (fun k => k = g) := Fr.set (g := g) (o := 4) (F := fun k => k = g) (Fr.refl w1 _) (.inl rfl) v1
  refine ⟨⟨blk_set hb1 4 v1, ?_, ?_, ?_, ?_, h.wlen, h.bods_fr fr ?_ rfl (h.foot3 hown), h.ap, ?_, hby, h.len, h.n1, h.n2, h.at_, h.ge, h.s64, h.n64, h.inv⟩, fr.mono ?_, hown⟩
  · exact R_fr h.sure rfl fr (fun k hk he => by rcases he with he | he; exact hne.1 (he ▸ hk); exact (h.ap3 k he).1 hk)
  · exact R_fr h.now rfl fr (fun k hk he => by rcases he with he | he; exact hne.2.1 (he ▸ hk); exact (h.ap3 k he).2 hk)
  · exact R_fr h.since rfl fr (fun k hk he => by rcases he with he | he; exact hne.2.2.1 (he ▸ hk); exact (h.ap23 hk).2.2 he)
  · exact Q_fr hQ rfl hfr3 (fun k hk he => by rcases hown k hk with h3 | h3; exact hne.2.2.2 (he ▸ h3); omega)
  · rintro k (hk | hk)
    · exact .inl (.inl hk)
    · exact .inl (.inr (.inr (.inr (.inr hk))))
  · intro k hk
    rcases hown k hk with h3 | h3
    · exact h.ap3 k h3
    · exact ⟨fun he => by have := R_lt' h.sure he; omega, fun he => by have := R_lt' h.now he; omega⟩
  · rintro k (hk | hk)
    · exact .inl hk
    · exact .inr (.inr (.inr (.inr hk)))
end
theorem cell_fr {w w' : World} {F : Nat → Prop} {a : Addr} {v : Value} (h : w.cell? a = some v) (k : Fr w w' F) (hn : ¬ F a.block) : w'.cell? a = some v := cell_kept h k.2 hn
theorem waits_waits (m : DM) (l l' : List Int) : waits (waits m l) l' = waits m l' := rfl
theorem setR3_3 (X : RX) (v v' : Value) : setR3 (setR3 X v) v' = setR3 X v' := rfl
set_option maxHeartbeats 2000000 in
set_option maxRecDepth 100000 in
theorem RAdd_calls (w : World) (base g : Nat) (X : RX) (m : DM) (h : RV w base g X m) (A : Option Addr) (c : Nat) (l : List Int) (hC : Kd.C (Kd.int .u8) w A l.length l) (hA : ∀ a, A = some a → 0 < l.length → ¬ footR g X a.block) (hl : m.wait.length + l.length ≤ 100000000) (hby : ∀ x ∈ l, 0 ≤ x ∧ x ≤ 255) (hb : base ≤ w.heap.size) :
    Calls Try.prog 31 #[.pointer (some ⟨g, 0, none⟩), .slice A l.length c] w fun e w' => e = .returned (.tuple #[]) ∧ ∃ v3', RV w' base g (setR3 X v3') (waits m (m.wait ++ l)) ∧ Fr w w' (footR g X) ∧ ∀ k, own v3' k → own X.v3 k ∨ w.heap.size ≤ k := by
  have H := Aside0.mk h
  have HC := Aside0.mk hC
  have HA := Aside0.mk hA
  have HL := Aside0.mk hl
  have HBY := Aside0.mk hby
  have HB := Aside0.mk hb
  clear h hC hA hl hby hb
  go_enter Try.func31, Try.ntmps31
  go_wp2_with fail
  go_loopg [4] l.length (fun r v4 wr => ∃ (i : Nat) (v3 : Value), v4 = .int .i64 i ∧ Aside0 (r + i = l.length) ∧ Aside0 (RV wr base g (setR3 X v3) (waits m (m.wait ++ l.take i))) ∧ Aside0 (Fr w wr (footR g X)) ∧ Aside0 (∀ k, own v3 k → own X.v3 k ∨ w.heap.size ≤ k))
  case atStart => exact ⟨0, X.v3, rfl, ⟨by omega⟩, ⟨by rw [List.take_zero, List.append_nil]; exact H.out⟩, ⟨Fr.refl _ _⟩, ⟨fun k hk => .inl hk⟩⟩
  case round =>
    obtain ⟨i, v3, rfl, hr, RR, FR, OW⟩ := hrel
    by_cases hi : i < l.length
    · have hi2 : (i : Int) < (l.length : Int) := by omega
      have hi3 : i ≤ 100000000 := by have := HL.out; omega
      obtain ⟨x, hx⟩ : ∃ x, l[i]? = some x := ⟨_, List.getElem?_eq_getElem hi⟩
      obtain ⟨ad, hAd, hcell⟩ := Kd.at_int HC.out (i : Int) (by omega) hi2
      rw [show rd l (i : Int) = x from getD_of hx, Int.toNat_natCast] at hcell
      have hcellw := hcell
      have hcell : wr.cell? (ad.add i) = some (.int .u8 x) := cell_fr hcell FR.out (by rw [add_block]; exact HA.out ad hAd (by omega))
      subst hAd
      obtain ⟨A4, c4, hv4⟩ := (Kd.Q_slice RR.out.wait)
      have HXB : Aside0 (0 ≤ x ∧ x ≤ 255) := ⟨HBY.out x (List.mem_of_getElem? hx)⟩
      have HTK : Aside0 (m.wait ++ l.take (i + 1) = m.wait ++ l.take i ++ [x]) := ⟨by rw [List.take_add_one, hx, List.append_assoc]; rfl⟩
      have k4 : wr.cell? ⟨g, 4, none⟩ = some v3 := blk_cell RR.out.blk 4
      have HLN : Aside0 ((m.wait ++ l.take i).length + 1 ≤ 100000001) := ⟨by rw [List.length_append, List.length_take]; have := HL.out; omega⟩
      have hab : (ad.add i).block < w.heap.size := World.block_lt_of_cell? w _ hcellw
      have HEL : Aside0 (∀ W', wr.drew.grownBy W' v3.ownBlock → W'.cell? (ad.add i) = some (.int .u8 x)) := ⟨fun W' hg => cell_fr hcell (((Fr.refl wr (fun k => own v3 k)).drew).grown hg (fun k hk => .inl hk)) (fun he => by
        rcases OW.out _ he with h3 | h3
        · rw [add_block] at h3; exact HA.out ad rfl (by omega) (.inr (.inr (.inr (.inr h3))))
        · omega)⟩
      have RR3 : Aside0 (∀ k, footR g (setR3 X v3) k → footR g X k ∨ w.heap.size ≤ k) := ⟨H.out.foot3 OW.out⟩
      have HBS : Aside0 (base ≤ wr.drew.heap.size) := ⟨Nat.le_trans HB.out FR.out.size⟩
      have HBT : Aside0 (∀ y ∈ m.wait ++ l.take (i + 1), 0 ≤ y ∧ y ≤ 255) := ⟨fun y hy => by
        rcases List.mem_append.1 hy with hy | hy
        · exact H.out.byt y hy
        · exact HBY.out y (List.mem_of_mem_take hy)⟩
      clear hx hv4 hcellw hab
      go_upto_region 3 with fail
      refine start_ (n := 14) (S := fun w' => w'.cell? ⟨g, 4, none⟩ = some v3 ∧ w'.cell? (ad.add i) = some (.int .u8 x)) (ds := [13]) #[false, false, false, false, false, false, false, false, false, false, false, false, false, false] (by kernel_rfl) rfl rfl ⟨k4, hcell⟩ (fun hHeld => ?_)
      refine pure_ (i := 0) (N := some 11) (v := ?_) (a' := ?_) #[true, false, false, false, false, false, false, false, false, false, false, false, false, false] rfl rfl (by kernel_rfl) (fun _ _ _ h => h) (Or.inl ⟨by rfl, ?_⟩) ?_ ?_
      rotate_left
      · intro w'
        go_simp
        with_reducible rfl
      rotate_left
      · simp only [Act.put, List.setIfInBounds_toArray, List.set_cons_zero, List.set_cons_succ, i64_w, i32_w]
        rfl
      refine pure_ (i := 1) (N := some 12) (v := ?_) (a' := ?_) #[true, true, false, false, false, false, false, false, false, false, false, false, false, false] rfl rfl (by kernel_rfl) (fun _ _ _ h => h) (Or.inl ⟨by rfl, ?_⟩) ?_ ?_
      rotate_left
      · intro w'
        go_simp
        with_reducible rfl
      rotate_left
      · simp only [Act.put, List.setIfInBounds_toArray, List.set_cons_zero, List.set_cons_succ, i64_w, i32_w]
        rfl
      refine pure_ (i := 2) (N := some 13) (v := ?_) (a' := ?_) #[true, true, true, false, false, false, false, false, false, false, false, false, false, false] rfl rfl (by kernel_rfl) (fun _ _ _ h => h) (Or.inl ⟨by rfl, ?_⟩) ?_ ?_
      rotate_left
      · intro w'
        go_simp
        with_reducible rfl
      rotate_left
      · simp only [Act.put, List.setIfInBounds_toArray, List.set_cons_zero, List.set_cons_succ, i64_w, i32_w]
        rfl
      refine pure_ (i := 3) (N := some 14) (v := ?_) (a' := ?_) #[true, true, true, true, false, false, false, false, false, false, false, false, false, false] rfl rfl (by kernel_rfl) (fun _ _ _ h => h) (Or.inl ⟨by rfl, ?_⟩) ?_ ?_
      rotate_left
      · intro w'
        go_simp
        with_reducible rfl
      rotate_left
      · simp only [Act.put, List.setIfInBounds_toArray, List.set_cons_zero, List.set_cons_succ, i64_w, i32_w]
        rfl
      refine pure_ (i := 5) (N := some 16) (v := ?_) (a' := ?_) #[true, true, true, true, false, true, false, false, false, false, false, false, false, false] rfl rfl (by kernel_rfl) (fun _ _ _ h => h) (Or.inl ⟨by rfl, ?_⟩) ?_ ?_
      rotate_left
      · intro w'
        go_simp
        with_reducible rfl
      rotate_left
      · simp only [Act.put, List.setIfInBounds_toArray, List.set_cons_zero, List.set_cons_succ, i64_w, i32_w]
        rfl
      refine pure_ (i := 6) (N := some 17) (v := ?_) (a' := ?_) #[true, true, true, true, false, true, true, false, false, false, false, false, false, false] rfl rfl (by kernel_rfl) (fun _ _ _ h => h) (Or.inl ⟨by rfl, ?_⟩) ?_ ?_
      rotate_left
      · intro w'
        go_simp
        with_reducible rfl
      rotate_left
      · simp only [Act.put, List.setIfInBounds_toArray, List.set_cons_zero, List.set_cons_succ, i64_w, i32_w]
        rfl
      refine pure_ (i := 7) (N := some 18) (v := ?_) (a' := ?_) #[true, true, true, true, false, true, true, true, false, false, false, false, false, false] rfl rfl (by kernel_rfl) (fun _ _ _ h => h) (Or.inl ⟨by rfl, ?_⟩) ?_ ?_
      rotate_left
      · intro w'
        go_simp
        with_reducible rfl
      rotate_left
      · simp only [Act.put, List.setIfInBounds_toArray, List.set_cons_zero, List.set_cons_succ, i64_w, i32_w]
        rfl
      refine take_ (i := 4) (N := some 15) (v := ?_) (a' := ?_) #[true, true, true, true, true, true, true, true, false, false, false, false, false, false] rfl rfl (by kernel_rfl) (fun _ _ _ h => h) (Or.inl ⟨by rfl, ?_⟩) hHeld ?_ ?_
      rotate_left
      · rintro w' ⟨s0, s1⟩
        go_simp
        with_reducible rfl
      rotate_left
      · simp only [Act.put, List.setIfInBounds_toArray, List.set_cons_zero, List.set_cons_succ, i64_w, i32_w]
        rfl
      refine take_ (i := 8) (N := some 19) (v := ?_) (a' := ?_) #[true, true, true, true, true, true, true, true, true, false, false, false, false, false] rfl rfl (by kernel_rfl) (fun _ _ _ h => h) (Or.inl ⟨by rfl, ?_⟩) hHeld ?_ ?_
      rotate_left
      · rintro w' ⟨s0, s1⟩
        go_simp
        with_reducible rfl
      rotate_left
      · simp only [Act.put, List.setIfInBounds_toArray, List.set_cons_zero, List.set_cons_succ, i64_w, i32_w]
        rfl
      refine one_ (i := 9) (N := some 20) #[true, true, true, true, true, true, true, true, true, true, false, false, false, false] rfl rfl (by kernel_rfl) (by decide) (fun K hK => ?_)
      refine value_ (w1 := ?_) (v := ?_) (by rfl) rfl ?_ ?_
      rotate_left 2
      · go_simp
        constructor
        · rfl
        · rfl
      refine hK.out _ _ ⟨(cell_alloc_old hHeld.1 _), (cell_alloc_old hHeld.2 _)⟩ (fun hHeld => ?_)
      clear hK K
      refine norm_ (a' := ?_) ?_ ?_
      rotate_left
      · show Act.put _ (some 20) _ = _
        simp only [Act.put, List.setIfInBounds_toArray, List.set_cons_zero, List.set_cons_succ, i64_w, i32_w]
        rfl
      refine one_ (i := 10) (N := some 21) #[true, true, true, true, true, true, true, true, true, true, true, false, false, false] rfl rfl (by kernel_rfl) (by decide) (fun K hK => ?_)
      refine Kd.Q_append_step (Kd.int .u8) (w0 := wr.drew) base (by rfl) (.tmp 15) (.tmp 20) 23 5 (.int .u8 0) 1 rfl Try.underlying23 info_u8 rfl (by decide) (by decide) v3 (m.wait ++ l.take i) x [.int .u8 x] (fun _ => True) (fun _ => False) rfl rfl rfl (fun _ hk => hk.elim) (fun _ _ => trivial) (Kd.Q_drew RR.out.wait) (Below.refl _ _) HBS.out (by have := HLN.out; omega) ?_
      intro v1 w5 hr1 hb1 hg1 hat1
      have P3 := Aside0.mk (RR.out.put3 hg1 (by rw [← HTK.out] at hr1; exact hr1) hat1 HBT.out)
      have hblk1 : w5.heap[g]? = wr.heap[g]? := hg1.block g (blk_lt RR.out.blk) (fun he => RR.out.ne.2.2.2 he.symm)
      have hfz : w5.frozen? ⟨g, 4, none⟩ = false := blk_frozen (hblk1.trans RR.out.blk) 4
      have c4' : w5.cell? ⟨g, 4, none⟩ = some v3 := blk_cell (hblk1.trans RR.out.blk) 4
      have hel5 := HEL.out w5 hg1
      obtain ⟨A5, c5, hv5, _⟩ := Kd.Q_slice hr1
      obtain ⟨n5, hn5⟩ : ∃ n5, n5 = (m.wait ++ l.take i ++ [x]).length := ⟨_, rfl⟩
      rw [← hn5] at hv5
      clear hr1 hb1 hg1 hat1 hblk1 hn5
      subst hv5
      refine hK.out _ _ ⟨c4', hel5⟩ (fun hHeld => ?_)
      clear hK K
      refine norm_ (a' := ?_) ?_ ?_
      rotate_left
      · show Act.put _ (some 21) _ = _
        simp only [Act.put, List.setIfInBounds_toArray, List.set_cons_zero, List.set_cons_succ, i64_w, i32_w]
        rfl
      refine pure_ (i := 11) (N := some 22) (v := ?_) (a' := ?_) #[true, true, true, true, true, true, true, true, true, true, true, true, false, false] rfl rfl (by kernel_rfl) (fun _ _ _ h => h) (Or.inl ⟨by rfl, ?_⟩) ?_ ?_
      rotate_left
      · intro w'
        go_simp
        with_reducible rfl
      rotate_left
      · simp only [Act.put, List.setIfInBounds_toArray, List.set_cons_zero, List.set_cons_succ, i64_w, i32_w]
        rfl
      refine pure_ (i := 12) (N := some 23) (v := ?_) (a' := ?_) #[true, true, true, true, true, true, true, true, true, true, true, true, true, false] rfl rfl (by kernel_rfl) (fun _ _ _ h => h) (Or.inl ⟨by rfl, ?_⟩) ?_ ?_
      rotate_left
      · intro w'
        go_simp
        with_reducible rfl
      rotate_left
      · simp only [Act.put, List.setIfInBounds_toArray, List.set_cons_zero, List.set_cons_succ, i64_w, i32_w]
        rfl
      refine last_ (i := 13) (N := none) #[true, true, true, true, true, true, true, true, true, true, true, true, true, true] rfl rfl (by kernel_rfl) (by decide) (fun K hK => ?_)
      refine skip_ (w1 := ?_) (by rfl) rfl ?_ ?_
      rotate_left
      · go_simp
        rfl
      refine hK.out _ _ ?_
      clear hK K
      refine done_ (by kernel_rfl) ?_
      go_wp2_with fail
      go_roundg (l.length - (i + 1))
      case measure => have := hr.out; omega
      case rel => exact ⟨i + 1, .slice A5 n5 c5, by first | rfl | (rw [show wrap64 ((i : Int) + 1) = ((i + 1 : Nat) : Int) from by unfold wrap64; omega]), ⟨by omega⟩, ⟨P3.out.1⟩, ⟨FR.out.trans P3.out.2.1 (fun k hk => RR3.out k hk)⟩, ⟨fun k hk => by rcases P3.out.2.2 k hk with h3 | h3; exact OW.out k h3; exact .inr (Nat.le_trans FR.out.size h3)⟩⟩
    · have hil : i = l.length := by have := hr.out; omega
      subst hil
      have hrr := RR.out
      rw [List.take_length] at hrr
      have RR2 := Aside0.mk hrr
      clear hrr RR
      go_wp2_with fail
      first | go_end0 | ((try simp only [Exit.inBlock, Exit.then]); refine bodyPost_ret (results_none rfl _ _ _) rfl ?_)
      exact ⟨rfl, v3, RR2.out, FR.out, OW.out⟩
end Go.Proofs.Ytldddinebhopcaa.Sec
namespace Go.Proofs.Ytldddinebhopcaa.Sec
open Go.RowKit Go.Proofs.YtldddinebhopcaaW.PrintWords Go.Proofs.YtldddinebhopcaaW.PrintLast Go.Proofs.YtldddinebhopcaaW.PrintMore Go.Proofs.Ytldddinebhopcaa.Bs Go.Proofs.Ytldddinebhopcaa.Fr
set_option linter.unusedVariables false
set_option linter.unusedSimpArgs false
theorem spl_full {l b : List Int} (h : l.length = b.length) : spl l b 0 b.length = b := by unfold spl; rw [List.take_zero, List.nil_append, List.take_length, Nat.zero_add, ← h, List.drop_length, List.append_nil]
section
variable {w w1 w' : World} {base g : Nat} {X : RX} {m : DM}
theorem RV.sync (h : RV w base g X m) (fr : Fr w w1 (own X.v0)) (hR : Kd.R (Kd.int .u8) 5 w1 base (fun _ => True) X.v0 m.now.flatten) :
    RV (w1.setCell ⟨g, 3, none⟩ (.slice none 0 0)) base g ⟨X.v0, X.v1, .slice none 0 0, X.v3, []⟩ ⟨m.now, m.now, [], m.wait, m.ops⟩ ∧ Fr w (w1.setCell ⟨g, 3, none⟩ (.slice none 0 0)) (footR g X) := by
  have fr2 : Fr w (w1.setCell ⟨g, 3, none⟩ (.slice none 0 0)) (fun k => k = g ∨ own X.v0 k) := (fr.mono (fun k hk => .inr hk)).set (.inl (.inl rfl)) _
  have hfr3 : Fr w1 (w1.setCell ⟨g, 3, none⟩ (.slice none 0 0)) (fun k => k = g) := Fr.set (g := g) (o := 3) (F := fun k => k = g) (Fr.refl w1 _) (.inl rfl) _
  have hne := h.ne
  have hb1 := fr.blk h.blk hne.1
  refine ⟨⟨blk_set hb1 3 (.slice none 0 0), ?_, ?_, Kd.R_nil _ _ _ _ _, ?_, rfl, (fun j p hp => by simp at hp), h.ap, h.ap3, h.byt, rfl, h.n1, h.n2, (fun p hp => by simp at hp), h.ge, h.n64, h.n64, rfl⟩, fr2.mono ?_⟩
  · exact R_fr hR rfl hfr3 (fun k hk he => hne.1 (he ▸ hk))
  · exact R_fr h.now rfl fr2 (fun k hk he => by rcases he with he | he; exact hne.2.1 (he ▸ hk); exact h.ap k he hk)
  · exact Q_fr h.wait rfl fr2 (fun k hk he => by rcases he with he | he; exact hne.2.2.2 (he ▸ hk); exact (h.ap3 k hk).1 he)
  · rintro k (hk | hk)
    · exact .inl hk
    · exact .inr (.inl hk)
end
set_option maxHeartbeats 2000000 in
set_option maxRecDepth 100000 in
theorem RSync_calls (w : World) (base g : Nat) (X : RX) (m : DM) (h : RV w base g X m) (ho : 0 ≤ m.ops ∧ m.ops ≤ 1000000000) :
    Calls Try.prog 57 #[.pointer (some ⟨g, 0, none⟩)] w fun e w' => e = .returned (.int .i64 (tell (outc m))) ∧ ∃ X', RV w' base g X' (syM m) ∧ Fr w w' (footR g X) ∧ ∀ k, allR g X' k → allR g X k ∨ w.heap.size ≤ k := by
  have H := Aside0.mk h
  have HT := Aside0.mk (RTake_calls w base g X m h ho)
  clear h ho
  go_enter Try.func57, Try.ntmps57
  go_wp2_with fail
  refine HT.out.mono ?_
  rintro e w1 ⟨rfl, v3', hd, hv, hf⟩
  have R1 := Aside0.mk hd
  have OW := Aside0.mk hv
  have FR1 := Aside0.mk hf
  clear hd hv hf HT
  have FT3 : Aside0 (∀ k, footR g (setR3 X v3') k → footR g X k ∨ w.heap.size ≤ k) := ⟨H.out.foot3 (fun k hk => .inl (OW.out k hk))⟩
  by_cases hx : outc m = 1
  · have HX := Aside0.mk hx
    rw [hx]
    clear hx
    go_wp2_with fail
    go_ret
    refine ⟨by rw [HX.out]; rfl, setR3 X v3', ?_, FR1.out.mono (fun k hk => .inl hk), ?_⟩
    · unfold syM; rw [if_pos HX.out]; exact R1.out
    · rintro k (hk | hk)
      · rcases FT3.out k hk with hk | hk
        · exact .inl (.inl hk)
        · exact .inr hk
      · exact .inl (.inr hk)
  · have HX := Aside0.mk hx
    have hx1 : (outc m != 1) = true := by simpa using hx
    rw [hx1]
    clear hx hx1
    obtain ⟨hfn, hfs⟩ := R1.out.flat
    have hn1 := R1.out.n1
    obtain ⟨gs, cs, hv0, _, _, _, _⟩ := Kd.R_form R1.out.sure (by omega)
    obtain ⟨gn, cn, hv1, _, _, _, _⟩ := Kd.R_form R1.out.now (by omega)
    have hv0 : X.v0 = _ := hv0
    have hv1 : X.v1 = _ := hv1
    have hSF : (took m).sure.flatten.length = (took m).now.flatten.length := by omega
    have hFM : (took m).now.flatten.length ≤ 262144 := by have := R1.out.n2; omega
    have RS := Aside0.mk (show Kd.R (Kd.int .u8) 5 w1 base (fun _ => True) (.slice (some ⟨gs, 0, none⟩) (took m).sure.flatten.length cs) (took m).sure.flatten by have := R1.out.sure; rw [← hv0]; exact this)
    have RN := Aside0.mk (show Kd.R (Kd.int .u8) 5 w1 base (fun _ => True) (.slice (some ⟨gn, 0, none⟩) (took m).now.flatten.length cn) (took m).now.flatten by have := R1.out.now; rw [← hv1]; exact this)
    have HV0 := Aside0.mk hv0
    have HV1 := Aside0.mk hv1
    have NE := Aside0.mk (show gs ≠ gn ∧ g ≠ gs ∧ g ≠ gn from ⟨fun he => H.out.ap gs (by rw [hv0]; rfl) (by rw [hv1, he]; rfl), fun he => H.out.ne.1 (by rw [hv0, he]; rfl), fun he => H.out.ne.2.1 (by rw [hv1, he]; rfl)⟩)
    have FSp := Aside0.mk (spl_full hSF)
    have HSF := Aside0.mk hSF
    clear hfn hfs hn1 hv0 hv1
    have k1 : w1.cell? ⟨g, 1, none⟩ = some (.slice (some ⟨gs, 0, none⟩) (took m).now.flatten.length cs) := by rw [← hSF, ← HV0.out]; exact blk_cell R1.out.blk 1
    have k2 : w1.cell? ⟨g, 2, none⟩ = some (.slice (some ⟨gn, 0, none⟩) (took m).now.flatten.length cn) := by rw [← HV1.out]; exact blk_cell R1.out.blk 2
    have K1 := Aside0.mk k1
    have K2 := Aside0.mk k2
    clear k1 k2 hSF
    generalize hF : (took m).now.flatten = F at *
    generalize hS : (took m).sure.flatten = S at *
    have HF := Aside0.mk hF
    have hfm : F.length ≤ 262144 := hFM
    clear hF hS hFM
    go_wp2_with fail
    go_loopg [5] F.length (fun r v5 wr => ∃ (i : Nat), v5 = .int .i64 i ∧ Aside0 (r + i = F.length) ∧ Aside0 (Kd.R (Kd.int .u8) 5 wr base (fun _ => True) (.slice (some ⟨gs, 0, none⟩) S.length cs) (spl S F 0 i)) ∧ Aside0 (Fr w1 wr (fun k => k = gs)))
    case atStart => exact ⟨0, rfl, ⟨by omega⟩, ⟨by rw [spl_zero]; exact RS.out⟩, ⟨Fr.refl _ _⟩⟩
    case round =>
      obtain ⟨i, rfl, hr, RR, FR⟩ := hrel
      have kr1 : wr.cell? ⟨g, 1, none⟩ = some (.slice (some ⟨gs, 0, none⟩) F.length cs) := cell_fr K1.out FR.out NE.out.2.1
      have kr2 : wr.cell? ⟨g, 2, none⟩ = some (.slice (some ⟨gn, 0, none⟩) F.length cn) := cell_fr K2.out FR.out NE.out.2.1
      by_cases hi : i < F.length
      · have hi2 : (i : Int) < (F.length : Int) := by omega
        have hi3 : i ≤ 262144 := by omega
        have hi4 : (0 : Int) ≤ (i : Int) := by omega
        obtain ⟨x, hx⟩ : ∃ x, F[i]? = some x := ⟨_, List.getElem?_eq_getElem hi⟩
        have hcn := (Kd.R_celln (0 : Int) RN.out (i : Int) hi4 hi2).1
        rw [getD_of hx, Int.toNat_natCast] at hcn
        have kx : wr.cell? ⟨gn, i, none⟩ = some (.int .u8 x) := cell_fr hcn FR.out (fun he => NE.out.1 he.symm)
        have hcs := Kd.R_celln (0 : Int) RR.out (i : Int) hi4 (by rw [HSF.out]; exact hi2)
        rw [Int.toNat_natCast] at hcs
        have fz : wr.drew.frozen? ⟨gs, i, none⟩ = false := hcs.2
        have kcs := hcs.1
        have PUT := Aside0.mk (Kd.R_putn (Kd.R_drew RR.out) (i : Int) x)
        have NX : Aside0 ((spl S F 0 i).set i x = spl S F 0 (i + 1)) := ⟨by have h_ := spl_next (l := S) (b := F) (o := 0) (k := i) (x := x) (by have := HSF.out; omega) hx; rw [Nat.zero_add] at h_; exact h_⟩
        clear hx hcn hcs
        go_upto_region 6 with fail
        refine start_ (n := 14) (S := fun w' => w'.cell? ⟨g, 1, none⟩ = some (.slice (some ⟨gs, 0, none⟩) F.length cs) ∧ w'.cell? ⟨g, 2, none⟩ = some (.slice (some ⟨gn, 0, none⟩) F.length cn) ∧ w'.cell? ⟨gn, i, none⟩ = some (.int .u8 x)) (ds := [13]) #[false, false, false, false, false, false, false, false, false, false, false, false, false, false] (by kernel_rfl) rfl rfl ⟨kr1, kr2, kx⟩ (fun hHeld => ?_)
        refine pure_ (i := 0) (N := some 21) (v := ?_) (a' := ?_) #[true, false, false, false, false, false, false, false, false, false, false, false, false, false] rfl rfl (by kernel_rfl) (fun _ _ _ h => h) (Or.inl ⟨by rfl, ?_⟩) ?_ ?_
        rotate_left
        · intro w'
          go_simp
          with_reducible rfl
        rotate_left
        · simp only [Act.put, List.setIfInBounds_toArray, List.set_cons_zero, List.set_cons_succ, i64_w, i32_w]
          rfl
        refine pure_ (i := 1) (N := some 22) (v := ?_) (a' := ?_) #[true, true, false, false, false, false, false, false, false, false, false, false, false, false] rfl rfl (by kernel_rfl) (fun _ _ _ h => h) (Or.inl ⟨by rfl, ?_⟩) ?_ ?_
        rotate_left
        · intro w'
          go_simp
          with_reducible rfl
        rotate_left
        · simp only [Act.put, List.setIfInBounds_toArray, List.set_cons_zero, List.set_cons_succ, i64_w, i32_w]
          rfl
        refine pure_ (i := 2) (N := some 23) (v := ?_) (a' := ?_) #[true, true, true, false, false, false, false, false, false, false, false, false, false, false] rfl rfl (by kernel_rfl) (fun _ _ _ h => h) (Or.inl ⟨by rfl, ?_⟩) ?_ ?_
        rotate_left
        · intro w'
          go_simp
          with_reducible rfl
        rotate_left
        · simp only [Act.put, List.setIfInBounds_toArray, List.set_cons_zero, List.set_cons_succ, i64_w, i32_w]
          rfl
        refine pure_ (i := 4) (N := some 25) (v := ?_) (a' := ?_) #[true, true, true, false, true, false, false, false, false, false, false, false, false, false] rfl rfl (by kernel_rfl) (fun _ _ _ h => h) (Or.inl ⟨by rfl, ?_⟩) ?_ ?_
        rotate_left
        · intro w'
          go_simp
          with_reducible rfl
        rotate_left
        · simp only [Act.put, List.setIfInBounds_toArray, List.set_cons_zero, List.set_cons_succ, i64_w, i32_w]
          rfl
        refine pure_ (i := 5) (N := some 26) (v := ?_) (a' := ?_) #[true, true, true, false, true, true, false, false, false, false, false, false, false, false] rfl rfl (by kernel_rfl) (fun _ _ _ h => h) (Or.inl ⟨by rfl, ?_⟩) ?_ ?_
        rotate_left
        · intro w'
          go_simp
          with_reducible rfl
        rotate_left
        · simp only [Act.put, List.setIfInBounds_toArray, List.set_cons_zero, List.set_cons_succ, i64_w, i32_w]
          rfl
        refine pure_ (i := 6) (N := some 27) (v := ?_) (a' := ?_) #[true, true, true, false, true, true, true, false, false, false, false, false, false, false] rfl rfl (by kernel_rfl) (fun _ _ _ h => h) (Or.inl ⟨by rfl, ?_⟩) ?_ ?_
        rotate_left
        · intro w'
          go_simp
          with_reducible rfl
        rotate_left
        · simp only [Act.put, List.setIfInBounds_toArray, List.set_cons_zero, List.set_cons_succ, i64_w, i32_w]
          rfl
        refine pure_ (i := 7) (N := some 28) (v := ?_) (a' := ?_) #[true, true, true, false, true, true, true, true, false, false, false, false, false, false] rfl rfl (by kernel_rfl) (fun _ _ _ h => h) (Or.inl ⟨by rfl, ?_⟩) ?_ ?_
        rotate_left
        · intro w'
          go_simp
          with_reducible rfl
        rotate_left
        · simp only [Act.put, List.setIfInBounds_toArray, List.set_cons_zero, List.set_cons_succ, i64_w, i32_w]
          rfl
        refine pure_ (i := 9) (N := some 30) (v := ?_) (a' := ?_) #[true, true, true, false, true, true, true, true, false, true, false, false, false, false] rfl rfl (by kernel_rfl) (fun _ _ _ h => h) (Or.inl ⟨by rfl, ?_⟩) ?_ ?_
        rotate_left
        · intro w'
          go_simp
          with_reducible rfl
        rotate_left
        · simp only [Act.put, List.setIfInBounds_toArray, List.set_cons_zero, List.set_cons_succ, i64_w, i32_w]
          rfl
        refine take_ (i := 3) (N := some 24) (v := ?_) (a' := ?_) #[true, true, true, true, true, true, true, true, false, true, false, false, false, false] rfl rfl (by kernel_rfl) (fun _ _ _ h => h) (Or.inl ⟨by rfl, ?_⟩) hHeld ?_ ?_
        rotate_left
        · rintro w' ⟨s0, s1, s2⟩
          go_simp
          with_reducible rfl
        rotate_left
        · simp only [Act.put, List.setIfInBounds_toArray, List.set_cons_zero, List.set_cons_succ, i64_w, i32_w]
          rfl
        refine take_ (i := 8) (N := some 29) (v := ?_) (a' := ?_) #[true, true, true, true, true, true, true, true, true, true, false, false, false, false] rfl rfl (by kernel_rfl) (fun _ _ _ h => h) (Or.inl ⟨by rfl, ?_⟩) hHeld ?_ ?_
        rotate_left
        · rintro w' ⟨s0, s1, s2⟩
          go_simp
          with_reducible rfl
        rotate_left
        · simp only [Act.put, List.setIfInBounds_toArray, List.set_cons_zero, List.set_cons_succ, i64_w, i32_w]
          rfl
        refine pure_ (i := 10) (N := some 31) (v := ?_) (a' := ?_) #[true, true, true, true, true, true, true, true, true, true, true, false, false, false] rfl rfl (by kernel_rfl) (fun _ _ _ h => h) (Or.inl ⟨by rfl, ?_⟩) ?_ ?_
        rotate_left
        · intro w'
          go_simp
          with_reducible rfl
        rotate_left
        · simp only [Act.put, List.setIfInBounds_toArray, List.set_cons_zero, List.set_cons_succ, i64_w, i32_w]
          rfl
        refine take_ (i := 11) (N := some 32) (v := ?_) (a' := ?_) #[true, true, true, true, true, true, true, true, true, true, true, true, false, false] rfl rfl (by kernel_rfl) (fun _ _ _ h => h) (Or.inl ⟨by rfl, ?_⟩) hHeld ?_ ?_
        rotate_left
        · rintro w' ⟨s0, s1, s2⟩
          go_simp
          with_reducible rfl
        rotate_left
        · simp only [Act.put, List.setIfInBounds_toArray, List.set_cons_zero, List.set_cons_succ, i64_w, i32_w]
          rfl
        refine pure_ (i := 12) (N := some 33) (v := ?_) (a' := ?_) #[true, true, true, true, true, true, true, true, true, true, true, true, true, false] rfl rfl (by kernel_rfl) (fun _ _ _ h => h) (Or.inl ⟨by rfl, ?_⟩) ?_ ?_
        rotate_left
        · intro w'
          go_simp
          with_reducible rfl
        rotate_left
        · simp only [Act.put, List.setIfInBounds_toArray, List.set_cons_zero, List.set_cons_succ, i64_w, i32_w]
          rfl
        refine last_ (i := 13) (N := none) #[true, true, true, true, true, true, true, true, true, true, true, true, true, true] rfl rfl (by kernel_rfl) (by decide) (fun K hK => ?_)
        refine skip_ (w1 := ?_) (by rfl) rfl ?_ ?_
        rotate_left
        · go_simp
          rfl
        refine hK.out _ _ ?_
        clear hK K
        refine done_ (by kernel_rfl) ?_
        go_wp2_with fail
        go_roundg (F.length - (i + 1))
        case measure => have := hr.out; omega
        case rel => exact ⟨i + 1, by first | rfl | (rw [show wrap64 ((i : Int) + 1) = ((i + 1 : Nat) : Int) from by unfold wrap64; omega]), ⟨by omega⟩, ⟨by have h_ := PUT.out; rw [Int.toNat_natCast, NX.out] at h_; exact h_⟩, ⟨(FR.out.drew).set (.inl rfl) _⟩⟩
      · have hil : i = F.length := by have := hr.out; omega
        subst hil
        have hrow := RR.out
        rw [FSp.out] at hrow
        have HRW := Aside0.mk hrow
        have fz3 : wr.frozen? ⟨g, 3, none⟩ = false := blk_frozen (FR.out.blk R1.out.blk NE.out.2.1) 3
        obtain ⟨o3, ho3⟩ : ∃ o3, wr.cell? ⟨g, 3, none⟩ = some o3 := ⟨_, blk_cell (FR.out.blk R1.out.blk NE.out.2.1) 3⟩
        have hown : ∀ k, k = gs → own X.v0 k := fun k hk => by rw [HV0.out, hk]; rfl
        have FIN := Aside0.mk (R1.out.sync (FR.out.mono (fun k hk => hown k hk)) (by rw [HF.out]; have h_ := HRW.out; rw [← HV0.out] at h_; exact h_))
        clear hrow RR hown
        go_wp2_with fail
        go_ret
        refine ⟨rfl, ⟨X.v0, X.v1, .slice none 0 0, v3', []⟩, ?_, (FR1.out.mono (fun k hk => .inl hk)).trans FIN.out.2 FT3.out, ?_⟩
        · unfold syM synced
          rw [if_neg HX.out, ← H.out.inv]
          exact FIN.out.1
        · rintro k ((hk | hk | hk | hk | hk) | hk)
          · exact .inl (.inl (.inl hk))
          · exact .inl (.inl (.inr (.inl hk)))
          · exact .inl (.inl (.inr (.inr (.inl hk))))
          · cases hk
          · exact .inl (.inl (.inr (.inr (.inr (.inr (OW.out k hk))))))
          · obtain ⟨p, hp, _⟩ := hk
            cases hp
end Go.Proofs.Ytldddinebhopcaa.Sec
namespace Go.Proofs.Ytldddinebhopcaa.Sec
open Go.RowKit Go.Proofs.YtldddinebhopcaaW.PrintWords Go.Proofs.YtldddinebhopcaaW.PrintLast Go.Proofs.YtldddinebhopcaaW.PrintMore Go.Proofs.Ytldddinebhopcaa.Bs Go.Proofs.Ytldddinebhopcaa.Fr
set_option linter.unusedVariables false
set_option linter.unusedSimpArgs false
theorem laid_all (l : List (Int × List Int)) (s : List (List Int)) (n : Nat) (b : List Int) : laid s (l ++ [((n : Int), b)]) = (laid s l).set n b := by rw [laid_snoc, Int.toNat_natCast]
section
variable {w1 w2 w3 : World} {base g : Nat} {X : RX} {m : DM}
def pushR (X : RX) (v2 : Value) (n gB cB : Nat) : RX := ⟨X.v0, X.v1, v2, X.v3, X.ws ++ [((n : Int), (some ⟨gB, 0, none⟩ : Option Addr), 64, cB)]⟩
theorem RV.push (h : RV w1 base g X m) (hb0 : base ≤ w1.heap.size) {n : Nat} (hn : n < m.now.length) {b : List Int} (hb : b.length = 64) {gB cB : Nat} {v2 : Value} (fr : Fr w1 w2 (own X.v1)) (hN : Kd.R (Kd.int .u8) 5 w2 base (fun _ => True) X.v1 (m.now.set n b).flatten)
    (hB : Kd.R (Kd.int .u8) 5 w2 w1.heap.size (fun _ => True) (.slice (some ⟨gB, 0, none⟩) 64 cB) b) (hg : w2.drew.grownBy w3 X.v2.ownBlock)
    (hS : Kd.R kO 107 w3 base (fun _ => True) v2 (pushR X v2 n gB cB).ws) (hat : v2.ownBlock = X.v2.ownBlock ∨ ∃ k, v2.ownBlock = some k ∧ w2.heap.size ≤ k) :
    RV (w3.setCell ⟨g, 3, none⟩ v2) base g (pushR X v2 n gB cB) ⟨m.sure, m.now.set n b, m.since ++ [((n : Int), b)], m.wait, m.ops⟩ ∧ Fr w1 (w3.setCell ⟨g, 3, none⟩ v2) (footR g X) ∧ ∀ k, allR g (pushR X v2 n gB cB) k → allR g X k ∨ w1.heap.size ≤ k := by
  have hne := h.ne
  have hown : ∀ k, own v2 k → own X.v2 k ∨ w2.heap.size ≤ k := fun k hk => by
    rcases hat with hat | ⟨j, hj, hlt⟩
    · exact .inl (by unfold own at hk ⊢; rw [← hat]; exact hk)
    · refine .inr ?_
      have hk : v2.ownBlock = some k := hk
      rw [hj] at hk
      rw [← Option.some.inj hk]; exact hlt
  have fg : Fr w2 w3 (fun k => k = g ∨ own X.v2 k) := ((Fr.refl w2 _).drew).grown hg (fun k hk => .inl (.inr hk))
  have fs : Fr w2 (w3.setCell ⟨g, 3, none⟩ v2) (fun k => k = g ∨ own X.v2 k) := fg.set (.inl (.inl rfl)) v2
  have f3 : Fr w3 (w3.setCell ⟨g, 3, none⟩ v2) (fun k => k = g) := Fr.set (g := g) (o := 3) (F := fun k => k = g) (Fr.refl w3 _) (.inl rfl) _
  have fa : Fr w1 (w3.setCell ⟨g, 3, none⟩ v2) (fun k => k = g ∨ own X.v2 k ∨ own X.v1 k) := (fr.mono (fun k hk => .inr (.inr hk))).trans fs (fun k hk => by rcases hk with hk | hk; exact .inl (.inl hk); exact .inl (.inr (.inl hk)))
  have hgl : g < w1.heap.size := blk_lt h.blk
  have hbl := fr.blk h.blk hne.2.1
  have hb3 : w3.heap[g]? = some (.cells #[.int .i64 m.now.length, X.v0, X.v1, X.v2, X.v3, .int .i64 m.ops] 101 (0, 0)) := by
    have := hg.block g (Nat.lt_of_lt_of_le hgl fr.size) (fun he => hne.2.2.1 he.symm)
    rw [this]; exact hbl
  have hgB1 : w1.heap.size ≤ gB := R_ge hB rfl
  have hgB2 : gB < w2.heap.size := R_lt' hB rfl
  obtain ⟨_, hcB, hCB⟩ := Kd.R_reads' hB
  have hft : ∀ k, footR g (pushR X v2 n gB cB) k → footR g X k ∨ w2.heap.size ≤ k := by
    rintro k (hk | hk | hk | hk | hk)
    · exact .inl (.inl hk)
    · exact .inl (.inr (.inl hk))
    · exact .inl (.inr (.inr (.inl hk)))
    · rcases hown k hk with hk | hk
      · exact .inl (.inr (.inr (.inr (.inl hk))))
      · exact .inr hk
    · exact .inl (.inr (.inr (.inr (.inr hk))))
  have hlt : ∀ k, footR g X k → k < w1.heap.size := fun k hk => h.foot_lt k (.inl hk)
  have frng : ∀ q cs, w2.rangeAt q 0 cs → ¬ (q = g ∨ own X.v2 q) → (w3.setCell ⟨g, 3, none⟩ v2).rangeAt q 0 cs := fun q cs hr hq => range_fr hr fs hq
  refine ⟨⟨?_, ?_, ?_, ?_, ?_, ?_, ?_, h.ap, h.ap3, h.byt, ?_, ?_, ?_, ?_, h.ge, h.s64, h.n64.set n hb, ?_⟩, fa.mono ?_, ?_⟩
  · have := blk_set hb3 3 v2
    rw [this]
    show _ = some (Obj.cells #[.int .i64 ((m.now.set n b).length : Nat), _, _, _, _, _] _ _)
    rw [List.length_set]; rfl
  · exact R_fr h.sure rfl fa (fun k hk he => by
      rcases he with he | he | he
      · exact hne.1 (he ▸ hk)
      · exact (h.ap23 he).1 hk
      · exact h.ap k hk he)
  · exact R_fr hN rfl fs (fun k hk he => by
      rcases he with he | he
      · exact hne.2.1 (he ▸ hk)
      · exact (h.ap23 he).2.1 hk)
  · exact R_fr hS rfl f3 (fun k hk he => by
      rcases hown k hk with h3 | h3
      · exact hne.2.2.1 (he ▸ h3)
      · have := fr.size; omega)
  · exact Q_fr h.wait rfl fa (fun k hk he => by
      rcases he with he | he | he
      · exact hne.2.2.2 (he ▸ hk)
      · exact (h.ap23 he).2.2 hk
      · exact (h.ap3 k hk).2 he)
  · show (X.ws ++ [_]).length = (m.since ++ [_]).length
    rw [List.length_append, List.length_append, h.wlen]; rfl
  · intro j p hp
    have hp : (m.since ++ [((n : Int), b)])[j]? = some p := hp
    show ∃ gb cap : Nat, (X.ws ++ [((n : Int), (some ⟨gB, 0, none⟩ : Option Addr), 64, cB)])[j]? = _ ∧ _
    by_cases hj : j < m.since.length
    · rw [List.getElem?_append_left hj] at hp
      obtain ⟨gb, cap, h1, h2, h3, h4, h5, h6, h7⟩ := h.bods j p hp
      refine ⟨gb, cap, by rw [List.getElem?_append_left (by rw [h.wlen]; exact hj)]; exact h1, h2, h3, range_fr h4 fa ?_, h5, Nat.lt_of_lt_of_le h6 fa.size, ?_⟩
      · rintro (hq | hq | hq)
        · exact h7 (.inl hq)
        · exact h7 (.inr (.inr (.inr (.inl hq))))
        · exact h7 (.inr (.inr (.inl hq)))
      · intro hq
        rcases hft gb hq with hq | hq
        · exact h7 hq
        · have := fr.size; omega
    · have hj2 : j = m.since.length := by
        have := (List.getElem?_eq_some_iff.1 hp).1
        rw [List.length_append] at this
        have h1 : [((n : Int), b)].length = 1 := rfl
        omega
      subst hj2
      rw [List.getElem?_append_right (Nat.le_refl _), Nat.sub_self] at hp
      obtain rfl : ((n : Int), b) = p := by simpa using hp
      refine ⟨gB, cB, by rw [List.getElem?_append_right (by rw [h.wlen]; exact Nat.le_refl _), h.wlen, Nat.sub_self]; rfl, hb, hcB, frng gB _ (range_of_C hCB) ?_, Nat.le_trans hb0 hgB1, Nat.lt_of_lt_of_le hgB2 fs.size, ?_⟩
      · rintro (hq | hq)
        · omega
        · have := R_lt' h.since hq; omega
      · intro hq
        rcases hft gB hq with hq | hq
        · have := hlt gB hq; omega
        · omega
  · show m.sure.length = (m.now.set n b).length
    rw [List.length_set]; exact h.len
  · show 1 ≤ (m.now.set n b).length
    rw [List.length_set]; exact h.n1
  · show (m.now.set n b).length ≤ 4096
    rw [List.length_set]; exact h.n2
  · intro p hp
    have hp : p ∈ m.since ++ [((n : Int), b)] := hp
    show 0 ≤ p.1 ∧ p.1 < ((m.now.set n b).length : Nat)
    rw [List.length_set]
    rcases List.mem_append.1 hp with hp | hp
    · exact h.at_ p hp
    · obtain rfl : p = ((n : Int), b) := by simpa using hp
      exact ⟨by show 0 ≤ (n : Int); omega, by show (n : Int) < _; omega⟩
  · show m.now.set n b = laid m.sure (m.since ++ [((n : Int), b)])
    rw [laid_all, ← h.inv]
  · rintro k (hk | hk | hk)
    · exact .inl hk
    · exact .inr (.inr (.inr (.inl hk)))
    · exact .inr (.inr (.inl hk))
  · rintro k (hk | hk)
    · rcases hft k hk with hk | hk
      · exact .inl (.inl hk)
      · exact .inr (Nat.le_trans fr.size hk)
    · obtain ⟨p, hp, a, ha, rfl⟩ := hk
      rcases List.mem_append.1 hp with hp | hp
      · exact .inl (.inr ⟨p, hp, a, ha, rfl⟩)
      · obtain rfl : p = ((n : Int), (some ⟨gB, 0, none⟩ : Option Addr), 64, cB) := by simpa using hp
        injection ha with ha
        subst ha
        exact .inr hgB1
end
end Go.Proofs.Ytldddinebhopcaa.Sec
