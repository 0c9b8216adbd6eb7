-- PRINTED BY print.sh 35421559b90ae4d0a3588c463048766b98c2df88dd9212a6774a882060cdf62d: not written by this session
import Derived.Test.YtkpaibkkigfahaaPBindLetsx0
namespace Go.Proofs.Ytkpaibkkigfahaa.PBindLets
open Go.RowKit Go.Proofs.YtkpaibkkigfahaaW.PrintWords Go.Proofs.YtkpaibkkigfahaaW.PrintLast Go.Proofs.YtkpaibkkigfahaaW.PrintMore
attribute [local go_sem] max2_int min2_int max_two min_two max_three min_three max_four min_four   -- for this text's walks alone
set_option linter.unusedVariables false
set_option linter.unusedSimpArgs false

-- NOT PRINTED: function 14 (bind_New)

/-! ### bind_port: function 72 -/
def bind_port.f (a0 : Int) : Option (Bool) := if a0 ≥ 0 then (some (decide (a0 ≤ 65535))) else (some false)
set_option maxHeartbeats 8000000 in
set_option maxRecDepth 100000 in
theorem bind_port.calls (a0 : Int) (r : Bool) (w : World) (h : bind_port.f a0 = some r) :
    Calls Try.prog 72 #[.int .i64 a0] w fun e w' => e = .returned (.bool r) ∧ Drawn0 w w' := by
  have H : (if a0 ≥ 0 then (some (decide (a0 ≤ 65535))) else (some false)) = some r := h
  clear h
  by_cases c2 : a0 ≥ 0
  · rw [if_pos c2] at H
    have c2b0 : decide (0 ≤ a0) = true := decide_eq_true c2
    clear c2
    obtain rfl := Option.some.inj H
    go_enter Try.func72, Try.ntmps72
    go_wp2
    go_ret
    exact ⟨by first | rfl | (simp; done) | (simp [*]; done), by repeat (first | exact Drawn0.refl _ | apply Drawn0.step)⟩
  · rw [if_neg c2] at H
    have c2b0 : decide (0 ≤ a0) = false := decide_eq_false c2
    clear c2
    obtain rfl := Option.some.inj H
    go_enter Try.func72, Try.ntmps72
    go_wp2
    go_ret
    exact ⟨by first | rfl | (simp; done) | (simp [*]; done), by repeat (first | exact Drawn0.refl _ | apply Drawn0.step)⟩

/-! ### bind_time: function 73 -/
def bind_time.f (a0 : Int) : Option (Bool) := if a0 ≥ 0 then (some (decide (a0 ≤ 1099511627776))) else (some false)
set_option maxHeartbeats 8000000 in
set_option maxRecDepth 100000 in
theorem bind_time.calls (a0 : Int) (r : Bool) (w : World) (h : bind_time.f a0 = some r) :
    Calls Try.prog 73 #[.int .i64 a0] w fun e w' => e = .returned (.bool r) ∧ Drawn0 w w' := by
  have H : (if a0 ≥ 0 then (some (decide (a0 ≤ 1099511627776))) else (some false)) = some r := h
  clear h
  by_cases c2 : a0 ≥ 0
  · rw [if_pos c2] at H
    have c2b0 : decide (0 ≤ a0) = true := decide_eq_true c2
    clear c2
    obtain rfl := Option.some.inj H
    go_enter Try.func73, Try.ntmps73
    go_wp2
    go_ret
    exact ⟨by first | rfl | (simp; done) | (simp [*]; done), by repeat (first | exact Drawn0.refl _ | apply Drawn0.step)⟩
  · rw [if_neg c2] at H
    have c2b0 : decide (0 ≤ a0) = false := decide_eq_false c2
    clear c2
    obtain rfl := Option.some.inj H
    go_enter Try.func73, Try.ntmps73
    go_wp2
    go_ret
    exact ⟨by first | rfl | (simp; done) | (simp [*]; done), by repeat (first | exact Drawn0.refl _ | apply Drawn0.step)⟩

-- NOT PRINTED: function 46 (bind_Check)

-- NOT PRINTED: function 49 (bind_Table_made)

-- NOT PRINTED: function 80 (api_Filter)

-- NOT PRINTED: function 50 (bind_own)

-- NOT PRINTED: function 15 (bind_Table_Put)

-- NOT PRINTED: function 37 (bind_Table_Get)

-- NOT PRINTED: function 42 (bind_Table_Back)

-- NOT PRINTED: function 13 (bailiwicklaw18_awake)

-- NOT PRINTED: function 16 (bind_Lets)

-- NOT PRINTED: function 17 (bind_Live)

-- NOT PRINTED: function 18 (bailiwickref18_Live)

/-! ### bailiwickref14_Top: function 51 -/
def bailiwickref14_Top.f (a0 : Int) (a1 : Int) (a2 : Int) : Option (Bool) := if a2 ≤ 0 then (some true) else (if a2 ≥ 32 then (some (a0 == a1)) else (if 0 ≤ (IntKind.u64.wrap (wrap64 (32 - a2))) then (some ((shr .u32 a0 (IntKind.u64.wrap (wrap64 (32 - a2)))) == (shr .u32 a1 (IntKind.u64.wrap (wrap64 (32 - a2)))))) else (none)))
set_option maxHeartbeats 8000000 in
set_option maxRecDepth 100000 in
theorem bailiwickref14_Top.calls (a0 : Int) (a1 : Int) (a2 : Int) (r : Bool) (w : World) (h : bailiwickref14_Top.f a0 a1 a2 = some r) :
    Calls Try.prog 51 #[.int .u32 a0, .int .u32 a1, .int .i64 a2] w fun e w' => e = .returned (.bool r) ∧ Drawn0 w w' := by
  have H : (if a2 ≤ 0 then (some true) else (if a2 ≥ 32 then (some (a0 == a1)) else (if 0 ≤ (IntKind.u64.wrap (wrap64 (32 - a2))) then (some ((shr .u32 a0 (IntKind.u64.wrap (wrap64 (32 - a2)))) == (shr .u32 a1 (IntKind.u64.wrap (wrap64 (32 - a2)))))) else (none)))) = some r := h
  clear h
  by_cases c4 : a2 ≤ 0
  · rw [if_pos c4] at H
    have c4b0 : decide (a2 ≤ 0) = true := decide_eq_true c4
    clear c4
    obtain rfl := Option.some.inj H
    go_enter Try.func51, Try.ntmps51
    go_wp2
    go_ret
    exact ⟨by first | rfl | (simp; done) | (simp [*]; done), by repeat (first | exact Drawn0.refl _ | apply Drawn0.step)⟩
  · rw [if_neg c4] at H
    have c4b0 : decide (a2 ≤ 0) = false := decide_eq_false c4
    clear c4
    by_cases c5 : a2 ≥ 32
    · rw [if_pos c5] at H
      have c5b0 : decide (32 ≤ a2) = true := decide_eq_true c5
      clear c5
      obtain rfl := Option.some.inj H
      go_enter Try.func51, Try.ntmps51
      go_wp2
      go_ret
      exact ⟨by first | rfl | (simp; done) | (simp [*]; done), by repeat (first | exact Drawn0.refl _ | apply Drawn0.step)⟩
    · rw [if_neg c5] at H
      have c5b0 : decide (32 ≤ a2) = false := decide_eq_false c5
      clear c5
      obtain ⟨ji6, hji6⟩ : ∃ j_ : Int, (IntKind.u64.wrap (wrap64 (32 - a2))) = j_ := ⟨_, rfl⟩
      replace H : (if 0 ≤ (ji6) then (some ((shr .u32 a0 (ji6)) == (shr .u32 a1 (ji6)))) else (none)) = some r := by first | (rw [hji6] at H; exact H) | (simp only [hji6] at H ⊢; exact H)
      by_cases c7 : 0 ≤ (ji6)
      · rw [if_pos c7] at H
        have c7b0 := eq_true c7
        have c7b1 : decide (0 ≤ (ji6)) = true := decide_eq_true c7
        clear c7
        obtain ⟨ji8, hji8⟩ : ∃ j_ : Int, (shr .u32 a0 (ji6)) = j_ := ⟨_, rfl⟩
        replace H : (some ((ji8) == (shr .u32 a1 (ji6)))) = some r := by first | (rw [hji8] at H; exact H) | (simp only [hji8] at H ⊢; exact H)
        have hji8_ : (a0 / 2 ^ min (ji6).toNat 32) = ji8 := hji8
        have hji8z : (ji6) ≤ 32 → (a0 / 2 ^ (ji6).toNat) = ji8 := shr_small hji8
        have c9b0 := eq_true (of_decide_eq_true (by first | (with_reducible assumption) | assumption) : 0 ≤ (ji6))
        obtain ⟨ji10, hji10⟩ : ∃ j_ : Int, (shr .u32 a1 (ji6)) = j_ := ⟨_, rfl⟩
        replace H : (some ((ji8) == (ji10))) = some r := by first | (rw [hji10] at H; exact H) | (simp only [hji10] at H ⊢; exact H)
        have hji10_ : (a1 / 2 ^ min (ji6).toNat 32) = ji10 := hji10
        have hji10z : (ji6) ≤ 32 → (a1 / 2 ^ (ji6).toNat) = ji10 := shr_small hji10
        obtain rfl := Option.some.inj H
        go_enter Try.func51, Try.ntmps51
        go_wp2
        go_ret
        exact ⟨by first | rfl | (simp; done) | (simp only [← hji6, ← hji8, ← hji10] <;> (first | rfl | simp)) | (simp [*]; done), by repeat (first | exact Drawn0.refl _ | apply Drawn0.step)⟩
      · rw [if_neg c7] at H
        exact absurd H (by simp)

-- NOT PRINTED: function 19 (bailiwickref18_Lets)

-- NOT PRINTED: function 5 (bailiwicklaw18_BindLets)

end Go.Proofs.Ytkpaibkkigfahaa.PBindLets
