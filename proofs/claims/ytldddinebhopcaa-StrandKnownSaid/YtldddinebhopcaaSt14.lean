/- chapter 8: what the printed helpers answer. -/
import Derived.Test.YtldddinebhopcaaSt13
import Derived.Test.YtldddinebhopcaaPStrandPlaysx3
import Derived.Test.YtldddinebhopcaaPStrandPlaysx1
namespace Go.Proofs.Ytldddinebhopcaa.St
open Go.RowKit Go.Shelf Go.Proofs.YtldddinebhopcaaW.PrintWords Go.Proofs.YtldddinebhopcaaW.PrintLast Go.Proofs.YtldddinebhopcaaW.PrintMore Go.Proofs.Ytldddinebhopcaa.Bs Go.Proofs.Ytldddinebhopcaa.Fr Go.Proofs.Ytldddinebhopcaa.Oct Go.Proofs.Ytldddinebhopcaa.Sec Go.Proofs.Ytldddinebhopcaa.Rg Go.Proofs.Ytldddinebhopcaa.PStrandPlays
set_option linter.unusedVariables false
set_option linter.unusedSimpArgs false
theorem getD_eq_drop {l k : List Int} {i : Nat} (hi : i < l.length) (hk : l.length = k.length) : (l.drop i = k.drop i) ↔ (rd l (i : Int) = rd k (i : Int) ∧ l.drop (i + 1) = k.drop (i + 1)) := by
  have h1 : l.drop i = rd l (i : Int) :: l.drop (i + 1) := by
    rw [List.drop_eq_getElem_cons hi]; simp [rd, List.getD_eq_getElem?_getD, List.getElem?_eq_getElem hi]
  have hi' : i < k.length := by omega
  have h2 : k.drop i = rd k (i : Int) :: k.drop (i + 1) := by
    rw [List.drop_eq_getElem_cons hi']; simp [rd, List.getD_eq_getElem?_getD, List.getElem?_eq_getElem hi']
  rw [h1, h2, List.cons.injEq]
theorem same_l0 (l k : List Int) (hl : l.length ≤ 1000000) (hk : l.length = k.length) : ∀ (m i j : Nat), i + m = l.length → m + 1 ≤ j → bailiwickref1_Same.l0 j l k (i : Int) = some (decide (l.drop i = k.drop i)) := by
  intro m
  induction m with
  | zero =>
    intro i j hi hj
    obtain ⟨j, rfl⟩ : ∃ j', j = j' + 1 := ⟨j - 1, by omega⟩
    unfold bailiwickref1_Same.l0
    rw [if_neg (by omega), List.drop_of_length_le (by omega), List.drop_of_length_le (by omega)]
    simp
  | succ m ih =>
    intro i j hi hj
    obtain ⟨j, rfl⟩ : ∃ j', j = j' + 1 := ⟨j - 1, by omega⟩
    unfold bailiwickref1_Same.l0
    rw [if_pos (by omega), if_pos (by omega), if_pos (by omega), wrap_1 i (by omega)]
    have hd := getD_eq_drop (i := i) (by omega) hk
    by_cases h : rd l (i : Int) = rd k (i : Int)
    · rw [if_pos h, ih (i + 1) j (by omega) (by omega)]
      congr 1
      rw [decide_eq_decide, hd]
      simp [h]
    · rw [if_neg h]
      congr 1
      symm
      rw [decide_eq_false_iff_not, hd]
      exact fun hh => h hh.1
theorem same_f (l k : List Int) (hl : l.length ≤ 1000000) : ∀ j, l.length + 1 ≤ j → bailiwickref1_Same.f j l k = some (decide (l = k)) := by
  intro j hj
  unfold bailiwickref1_Same.f
  by_cases h : l.length = k.length
  · rw [if_pos (by omega)]
    exact same_l0 l k hl h l.length 0 j (by omega) hj
  · rw [if_neg (by omega)]
    congr 1
    symm
    rw [decide_eq_false_iff_not]
    exact fun hh => h (by rw [hh])
theorem same_any (w : World) (A0 A1 : Option Addr) (c0 c1 : Nat) (l k : List Int) (hl : l.length ≤ 1000000) (h0 : Kd.C (Kd.int .u8) w A0 l.length l) (hc0 : l.length ≤ c0) (h1 : Kd.C (Kd.int .u8) w A1 k.length k) (hc1 : k.length ≤ c1) :
    Calls Try.prog 16 #[.slice A0 l.length c0, .slice A1 k.length c1] w fun e w' => e = .returned (.bool (decide (l = k))) ∧ Below w.heap.size w w' :=
  (bailiwickref1_Same.calls (l.length + 1) A0 c0 l A1 c1 k _ w h0 hc0 h1 hc1 (same_f l k hl _ (Nat.le_refl _))).mono (fun e w' hh => ⟨hh.1, hh.2.below⟩)
theorem copy_l0 (l : List Int) (hl : l.length ≤ 1000000) : ∀ (m i j : Nat), i + m = l.length → m + 1 ≤ j → bailiwickref1_Copy.l0 j l (l.take i) (i : Int) = some l := by
  intro m
  induction m with
  | zero =>
    intro i j hi hj
    obtain ⟨j, rfl⟩ : ∃ j', j = j' + 1 := ⟨j - 1, by omega⟩
    unfold bailiwickref1_Copy.l0
    rw [if_neg (by omega), List.take_of_length_le (by omega)]
  | succ m ih =>
    intro i j hi hj
    obtain ⟨j, rfl⟩ : ∃ j', j = j' + 1 := ⟨j - 1, by omega⟩
    unfold bailiwickref1_Copy.l0
    rw [if_pos (by omega), if_pos (by omega), if_pos (by rw [List.length_take]; omega), wrap_1 i (by omega), ← take_snoc_rd l i (by omega), ih (i + 1) j (by omega) (by omega)]
theorem copy_calls (w : World) (A : Option Addr) (c : Nat) (l : List Int) (hl : l.length ≤ 1000000) (h0 : Kd.C (Kd.int .u8) w A l.length l) (hc0 : l.length ≤ c) :
    Calls Try.prog 19 #[.slice A l.length c] w fun e w' => ∃ v : Value, e = .returned v ∧ Kd.R (Kd.int .u8) 5 w' w.heap.size (fun _ => True) v l ∧ Below w.heap.size w w' :=
  bailiwickref1_Copy.calls (l.length + 1) A c l l w h0 hc0 (copy_l0 l hl l.length 0 _ (by omega) (Nat.le_refl _))
theorem rdL_mem (x : List (List Int)) (i : Nat) (hi : i < x.length) : rd_L2 x (i : Int) = x[i] := by simp [rd_L2, List.getD_eq_getElem?_getD, List.getElem?_eq_getElem hi]
theorem same8_l0 (l k : List (List Int)) (hl : l.length ≤ 1000000) (hs : ∀ x ∈ l, x.length ≤ 1000000) (hk : l.length = k.length) : ∀ (m i j : Nat), i + m = l.length → m + 1000010 ≤ j → bailiwicklaw8_same.l0 j l k (i : Int) = some (decide (l.drop i = k.drop i)) := by
  intro m
  induction m with
  | zero =>
    intro i j hi hj
    obtain ⟨j, rfl⟩ : ∃ j', j = j' + 1 := ⟨j - 1, by omega⟩
    unfold bailiwicklaw8_same.l0
    rw [if_neg (by omega), List.drop_of_length_le (by omega), List.drop_of_length_le (by omega)]
    simp
  | succ m ih =>
    intro i j hi hj
    obtain ⟨j, rfl⟩ : ∃ j', j = j' + 1 := ⟨j - 1, by omega⟩
    unfold bailiwicklaw8_same.l0
    have hi1 : i < l.length := by omega
    have hi2 : i < k.length := by omega
    rw [if_pos (by omega), if_pos (by omega), if_pos (by omega), rdL_mem l i hi1, rdL_mem k i hi2, wrap_1 i (by omega)]
    rw [same_f l[i] k[i] (hs _ (List.getElem_mem hi1)) j (by have := hs _ (List.getElem_mem hi1); omega)]
    rw [List.drop_eq_getElem_cons hi1, List.drop_eq_getElem_cons hi2]
    simp only [Option.bind_some, List.cons.injEq]
    by_cases h : l[i] = k[i]
    · rw [if_pos (by simp [h]), ih (i + 1) j (by omega) (by omega)]
      congr 1
      rw [decide_eq_decide]
      simp [h]
    · rw [if_neg (by simp [h])]
      congr 1
      symm
      rw [decide_eq_false_iff_not]
      exact fun hh => h hh.1
theorem same8_f (l k : List (List Int)) (hl : l.length ≤ 1000000) (hs : ∀ x ∈ l, x.length ≤ 1000000) : bailiwicklaw8_same.f (l.length + 1000010) l k = some (decide (l = k)) := by
  unfold bailiwicklaw8_same.f
  by_cases h : l.length = k.length
  · rw [if_pos (by omega)]
    exact same8_l0 l k hl hs h l.length 0 _ (by omega) (by omega)
  · rw [if_neg (by omega)]
    congr 1
    symm
    rw [decide_eq_false_iff_not]
    exact fun hh => h (by rw [hh])
theorem same8_calls (w : World) (A0 A1 : Option Addr) (c0 c1 : Nat) (l k : List (List Int)) (hl : l.length ≤ 1000000) (hs : ∀ x ∈ l, x.length ≤ 1000000) (h0 : Kd.C (Kd.slice 5 (Kd.int .u8)) w A0 l.length l) (hc0 : l.length ≤ c0) (h1 : Kd.C (Kd.slice 5 (Kd.int .u8)) w A1 k.length k) (hc1 : k.length ≤ c1) :
    Calls Try.prog 20 #[.slice A0 l.length c0, .slice A1 k.length c1] w fun e w' => e = .returned (.bool (decide (l = k))) ∧ Below w.heap.size w w' :=
  (bailiwicklaw8_same.calls _ A0 c0 l A1 c1 k _ w h0 hc0 h1 hc1 (same8_f l k hl hs)).mono (fun e w' hh => ⟨hh.1, hh.2.below⟩)
theorem ints_l0 (l k : List Int) (hl : l.length ≤ 1000000) (hk : l.length = k.length) : ∀ (m i j : Nat), i + m = l.length → m + 1 ≤ j → bailiwicklaw8_ints.l0 j l k (i : Int) = some (decide (l.drop i = k.drop i)) := by
  intro m
  induction m with
  | zero =>
    intro i j hi hj
    obtain ⟨j, rfl⟩ : ∃ j', j = j' + 1 := ⟨j - 1, by omega⟩
    unfold bailiwicklaw8_ints.l0
    rw [if_neg (by omega), List.drop_of_length_le (by omega), List.drop_of_length_le (by omega)]
    simp
  | succ m ih =>
    intro i j hi hj
    obtain ⟨j, rfl⟩ : ∃ j', j = j' + 1 := ⟨j - 1, by omega⟩
    unfold bailiwicklaw8_ints.l0
    rw [if_pos (by omega), if_pos (by omega), if_pos (by omega), wrap_1 i (by omega)]
    have hd := getD_eq_drop (i := i) (by omega) hk
    by_cases h : rd l (i : Int) = rd k (i : Int)
    · rw [if_pos h, ih (i + 1) j (by omega) (by omega)]
      congr 1
      rw [decide_eq_decide, hd]
      simp [h]
    · rw [if_neg h]
      congr 1
      symm
      rw [decide_eq_false_iff_not, hd]
      exact fun hh => h hh.1
theorem ints_calls (w : World) (A0 A1 : Option Addr) (c0 c1 : Nat) (l k : List Int) (hl : l.length ≤ 1000000) (h0 : Kd.C (Kd.int .i64) w A0 l.length l) (hc0 : l.length ≤ c0) (h1 : Kd.C (Kd.int .i64) w A1 k.length k) (hc1 : k.length ≤ c1) :
    Calls Try.prog 35 #[.slice A0 l.length c0, .slice A1 k.length c1] w fun e w' => e = .returned (.bool (decide (l = k))) ∧ Below w.heap.size w w' := by
  refine (bailiwicklaw8_ints.calls (l.length + 1) A0 c0 l A1 c1 k (decide (l = k)) w h0 hc0 h1 hc1 ?_).mono (fun e w' hh => ⟨hh.1, hh.2.below⟩)
  unfold bailiwicklaw8_ints.f
  by_cases h : l.length = k.length
  · rw [if_pos (by omega)]
    exact ints_l0 l k hl h l.length 0 _ (by omega) (Nat.le_refl _)
  · rw [if_neg (by omega)]
    congr 1
    symm
    rw [decide_eq_false_iff_not]
    exact fun hh => h (by rw [hh])
theorem room_l0 (l : List S48) (hl : l.length ≤ 200) : ∀ (m i k : Nat) (x : Int), i + m = l.length → m + 1 ≤ k → ∃ r, bailiwicklaw8_room.l0 k l x (i : Int) = some r ∧ (r = true → ∀ j : Nat, i ≤ j → j < l.length → (rd_T48 l j).f1.length ≤ 1000) := by
  intro m
  induction m with
  | zero =>
    intro i k x hi hk
    obtain ⟨k, rfl⟩ : ∃ k', k = k' + 1 := ⟨k - 1, by omega⟩
    unfold bailiwicklaw8_room.l0
    rw [if_neg (by omega)]
    exact ⟨_, rfl, fun _ j h1 h2 => by omega⟩
  | succ m ih =>
    intro i k x hi hk
    obtain ⟨k, rfl⟩ : ∃ k', k = k' + 1 := ⟨k - 1, by omega⟩
    unfold bailiwicklaw8_room.l0
    rw [if_pos (by omega), if_pos (by omega)]
    by_cases hb : ((rd_T48 l (i : Int)).f1.length : Int) > 1000
    · rw [if_pos hb]
      exact ⟨_, rfl, fun h => by cases h⟩
    · rw [if_neg hb, wrap_1 i (by omega)]
      obtain ⟨r, h1, h2⟩ := ih (i + 1) k (wrap64 (x + ((rd_T48 l (i : Int)).f1.length : Int))) (by omega) (by omega)
      refine ⟨r, h1, fun hr j hj1 hj2 => ?_⟩
      by_cases he : j = i
      · subst he; omega
      · exact h2 hr j (by omega) hj2
theorem room_calls (w : World) (A : Option Addr) (c : Nat) (l : List S48) (h0 : Kd.C k48 w A l.length l) (hc0 : l.length ≤ c) :
    ∃ r : Bool, (r = true → l.length ≤ 200 ∧ ∀ j : Nat, j < l.length → (rd_T48 l j).f1.length ≤ 1000) ∧ Calls Try.prog 22 #[.slice A l.length c] w fun e w' => e = .returned (.bool r) ∧ Below w.heap.size w w' := by
  have hf : ∃ r, bailiwicklaw8_room.f (l.length + 1) l = some r ∧ (r = true → l.length ≤ 200 ∧ ∀ j : Nat, j < l.length → (rd_T48 l j).f1.length ≤ 1000) := by
    unfold bailiwicklaw8_room.f
    by_cases h : l.length ≤ 200
    · rw [if_neg (by omega)]
      obtain ⟨r, h1, h2⟩ := room_l0 l h l.length 0 (l.length + 1) 0 (by omega) (by omega)
      exact ⟨r, h1, fun hr => ⟨h, fun j hj => h2 hr j (by omega) hj⟩⟩
    · rw [if_pos (by omega)]
      exact ⟨_, rfl, fun h => by cases h⟩
  obtain ⟨r, h1, h2⟩ := hf
  exact ⟨r, h2, (bailiwicklaw8_room.calls _ A c l r w h0 hc0 h1).mono (fun e w' hh => ⟨hh.1, hh.2.below⟩)⟩
end Go.Proofs.Ytldddinebhopcaa.St
