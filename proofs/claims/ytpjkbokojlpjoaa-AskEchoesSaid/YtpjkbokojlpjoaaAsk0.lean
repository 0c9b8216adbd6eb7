/- Chapter 25: refuse, Known; what a panic of a result is. -/
import Derived.Test.YtpjkbokojlpjoaaAr
import Derived.Test.YtpjkbokojlpjoaaOct0
import Derived.Defers
import Derived.Recover
import Derived.WalkSmall
namespace Go.Proofs.Ytpjkbokojlpjoaa.Ak
open Go.RowKit Go.Proofs.YtpjkbokojlpjoaaW.PrintWords Go.Proofs.YtpjkbokojlpjoaaW.PrintLast Go.Proofs.YtpjkbokojlpjoaaW.PrintMore Go.Proofs.Ytpjkbokojlpjoaa.Bs Go.Proofs.Ytpjkbokojlpjoaa.Fr Go.Proofs.Ytpjkbokojlpjoaa.Oct
set_option linter.unusedVariables false
set_option linter.unusedSimpArgs false

/-- A result that was thrown. -/
def thrown (c : Int) : Ending := .panicked [{ v := .iface 48 (.int .i64 c), recovered := false }]
theorem refuse_ok (c : Int) (w : World) : Calls Try.prog 22 #[.bool false, .int .i64 c] w fun e w' => e = .returned (.tuple #[]) ∧ w' = w := by
  go_enter Try.func22, Try.ntmps22
  go_wp2
  first
    | go_end0
    | skip
  all_goals exact ⟨rfl, rfl⟩
theorem refuse_bad (c : Int) (w : World) : Calls Try.prog 22 #[.bool true, .int .i64 c] w fun e w' => e = thrown c ∧ w' = w := by
  go_enter Try.func22, Try.ntmps22
  go_wp2
  exact ⟨rfl, rfl, rfl⟩
theorem Known_calls (c : Int) (w : World) : Calls Try.prog 19 #[.int .i64 c] w fun e w' => e = .returned (.bool (decide (1 ≤ c ∧ c ≤ 3))) ∧ w' = w := by
  by_cases h1 : c = 1
  · subst h1
    go_enter Try.func19, Try.ntmps19
    go_wp2
    go_ret
    exact ⟨rfl, rfl⟩
  · by_cases h2 : c = 2
    · subst h2
      go_enter Try.func19, Try.ntmps19
      go_wp2
      go_ret
      exact ⟨rfl, rfl⟩
    · have b1 : (c == 1) = false := by simpa using h1
      have b2 : (c == 2) = false := by simpa using h2
      have hfin : Aside0 (decide (1 ≤ c ∧ c ≤ 3) = (c == 3)) := ⟨by rw [Bool.eq_iff_iff]; simp; omega⟩
      clear h1 h2
      go_enter Try.func19, Try.ntmps19
      go_wp2
      go_ret
      exact ⟨by rw [hfin.out]; rfl, rfl⟩
end Go.Proofs.Ytpjkbokojlpjoaa.Ak
