/- A year and the nineteenth behind it are alike: the pure statement; every input. -/
import Derived.Test.YtmeimicphadlpaaPCycleRoundx1
import Derived.Test.YtmeimicphadlpaaPlain
set_option linter.unusedVariables false
namespace Go.Proofs.Ytmeimicphadlpaa.Pure
open Go.RowKit Go.Proofs.Ytmeimicphadlpaa.PCycleRound Go.Proofs.YtmeimicphadlpaaW.PrintWords Go.Proofs.YtmeimicphadlpaaW.PrintLast
open Go.Proofs.Ytmeimicphadlpaa.Plain

namespace CR

theorem div_eq (a b : Int) (hb : 0 < b) (h0 : -9223372036854775808 ≤ a) (h1 : a ≤ 9223372036854775807) (hb1 : b ≤ 9223372036854775807) : exact_Div.f a b = some (a / b, 0) := by
  have f := (floor_both a b hb).1
  have m0 := ediv_range a b hb h0 h1
  have m1 := tdiv_range a b hb h0 h1
  unfold exact_Div.f exact_both.f
  rw [if_neg (by omega), if_neg (by omega)]
  by_cases h : Int.tmod a b < 0
  · rw [if_pos h] at f ⊢
    simp only [Option.bind_some]
    rw [w64 m1.1 m1.2, f, w64 (by omega) (by omega)]
  · rw [if_neg h] at f ⊢
    simp only [Option.bind_some]
    rw [f, w64 (by omega) (by omega)]

/-- Is a year a leap year? -/
def lp (y : Int) : Bool := decide ((7 * y + 1) % 19 < 7)

theorem leap_in (y : Int) (h0 : 0 ≤ y) (h1 : y ≤ 10001) : cycle_Leap.f y = some (lp y, 0) := by
  unfold cycle_Leap.f cycle_check.f lp
  rw [if_neg (by omega), if_neg (by omega)]
  simp only [Option.bind_some, if_true]
  rw [Int.tmod_eq_emod_of_nonneg h0]
  have e : (7 * y + 1) % 19 = (7 * (y % 19) + 1) % 19 := by omega
  rw [e]
  have : y % 19 = 0 ∨ y % 19 = 1 ∨ y % 19 = 2 ∨ y % 19 = 3 ∨ y % 19 = 4 ∨ y % 19 = 5 ∨ y % 19 = 6 ∨ y % 19 = 7 ∨ y % 19 = 8 ∨ y % 19 = 9 ∨ y % 19 = 10 ∨ y % 19 = 11 ∨ y % 19 = 12 ∨ y % 19 = 13 ∨ y % 19 = 14 ∨ y % 19 = 15 ∨ y % 19 = 16 ∨ y % 19 = 17 ∨ y % 19 = 18 := by omega
  generalize y % 19 = r at this
  rcases this with rfl | rfl | rfl | rfl | rfl | rfl | rfl | rfl | rfl | rfl | rfl | rfl | rfl | rfl | rfl | rfl | rfl | rfl | rfl <;> decide

theorem leap_out (y : Int) (h : y < 0 ∨ 10001 < y) : cycle_Leap.f y = some (false, 2) := by
  unfold cycle_Leap.f cycle_check.f
  by_cases a : y < 0
  · rw [if_pos a]; rfl
  · rw [if_neg a, if_pos (by omega)]; rfl

theorem in_in (y : Int) (h0 : 0 ≤ y) (h1 : y ≤ 10001) : cycle_In.f y = some (if lp y = true then 13 else 12, 0) := by
  unfold cycle_In.f
  rw [leap_in y h0 h1]
  cases lp y <;> rfl

theorem in_out (y : Int) (h : y < 0 ∨ 10001 < y) : cycle_In.f y = some (0, 2) := by
  unfold cycle_In.f
  rw [leap_out y h]
  rfl

/-- The months ahead of a year. -/
def bf (y : Int) : Int := (235 * y - 234) / 19

theorem before_in (y : Int) (h0 : 0 ≤ y) (h1 : y ≤ 10001) : cycle_Before.f y = some (bf y, 0) := by
  unfold cycle_Before.f cycle_check.f bf
  rw [if_neg (by omega), if_neg (by omega)]
  simp only [Option.bind_some, if_true]
  rw [w64 (n := y - 1) (by omega) (by omega), w64 (n := 235 * (y - 1)) (by omega) (by omega), w64 (n := 235 * (y - 1) + 1) (by omega) (by omega), div_eq _ 19 (by omega) (by omega) (by omega) (by omega)]
  simp only [Option.bind_some]
  congr 2
  omega

theorem before_out (y : Int) (h : y < 0 ∨ 10001 < y) : cycle_Before.f y = some (0, 2) := by
  unfold cycle_Before.f cycle_check.f
  by_cases a : y < 0
  · rw [if_pos a]; rfl
  · rw [if_neg a, if_pos (by omega)]; rfl

theorem awake_eq : almanackerlaw03_awake.f = some true := by
  unfold almanackerlaw03_awake.f
  rw [leap_in _ (by omega) (by omega), leap_in _ (by omega) (by omega), before_in _ (by omega) (by omega), in_out _ (by omega)]
  decide


end CR
open CR in
theorem CycleRound : almanackerlaw03_CycleRound.Pure := by
  intro a ha
  have b := bounds_u16 ha
  unfold almanackerlaw03_CycleRound.f
  rw [w64 (n := a) (by omega) (by omega), Int.tmod_eq_emod_of_nonneg b.1]
  have g : a % 9980 + 19 ≤ 10001 := by omega
  have g0 : 0 ≤ a % 9980 := by omega
  generalize a % 9980 = y at g g0
  rw [w64 (n := y + 19) (by omega) (by omega), leap_in y (by omega) (by omega), leap_in (y + 19) (by omega) (by omega), in_in y (by omega) (by omega), in_in (y + 19) (by omega) (by omega), awake_eq]
  have e : lp (y + 19) = lp y := by unfold lp; congr 2; omega
  rw [e]
  simp

end Go.Proofs.Ytmeimicphadlpaa.Pure
