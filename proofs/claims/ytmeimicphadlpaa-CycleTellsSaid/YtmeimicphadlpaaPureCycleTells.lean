/- Whether a year is a leap year, how many months it has and how many are ahead of it are the document's: the pure statement; every input. -/
import Derived.Test.YtmeimicphadlpaaPCycleTellsx2
import Derived.Test.YtmeimicphadlpaaPlain
set_option linter.unusedVariables false
namespace Go.Proofs.Ytmeimicphadlpaa.Pure
open Go.RowKit Go.Proofs.Ytmeimicphadlpaa.PCycleTells Go.Proofs.YtmeimicphadlpaaW.PrintWords Go.Proofs.YtmeimicphadlpaaW.PrintLast
open Go.Proofs.Ytmeimicphadlpaa.Plain

namespace CT

theorem div_eq (a b : Int) (hb : 0 < b) (h0 : -9223372036854775808 ≤ a) (h1 : a ≤ 9223372036854775807) (hb1 : b ≤ 9223372036854775807) : exact_Div.f a b = some (a / b, 0) := by
  have f := (floor_both a b hb).1
  have m0 := ediv_range a b hb h0 h1
  have m1 := tdiv_range a b hb h0 h1
  unfold exact_Div.f exact_both.f
  rw [if_neg (by omega), if_neg (by omega)]
  by_cases h : Int.tmod a b < 0
  · rw [if_pos h] at f ⊢
    simp only [Option.bind_some]
    rw [w64 m1.1 m1.2, f, w64 (by omega) (by omega)]
  · rw [if_neg h] at f ⊢
    simp only [Option.bind_some]
    rw [f, w64 (by omega) (by omega)]

/-- Is a year a leap year? -/
def lp (y : Int) : Bool := decide ((7 * y + 1) % 19 < 7)

theorem leap_in (y : Int) (h0 : 0 ≤ y) (h1 : y ≤ 10001) : cycle_Leap.f y = some (lp y, 0) := by
  unfold cycle_Leap.f cycle_check.f lp
  rw [if_neg (by omega), if_neg (by omega)]
  simp only [Option.bind_some, if_true]
  rw [Int.tmod_eq_emod_of_nonneg h0]
  have e : (7 * y + 1) % 19 = (7 * (y % 19) + 1) % 19 := by omega
  rw [e]
  have : y % 19 = 0 ∨ y % 19 = 1 ∨ y % 19 = 2 ∨ y % 19 = 3 ∨ y % 19 = 4 ∨ y % 19 = 5 ∨ y % 19 = 6 ∨ y % 19 = 7 ∨ y % 19 = 8 ∨ y % 19 = 9 ∨ y % 19 = 10 ∨ y % 19 = 11 ∨ y % 19 = 12 ∨ y % 19 = 13 ∨ y % 19 = 14 ∨ y % 19 = 15 ∨ y % 19 = 16 ∨ y % 19 = 17 ∨ y % 19 = 18 := by omega
  generalize y % 19 = r at this
  rcases this with rfl | rfl | rfl | rfl | rfl | rfl | rfl | rfl | rfl | rfl | rfl | rfl | rfl | rfl | rfl | rfl | rfl | rfl | rfl <;> decide

theorem leap_out (y : Int) (h : y < 0 ∨ 10001 < y) : cycle_Leap.f y = some (false, 2) := by
  unfold cycle_Leap.f cycle_check.f
  by_cases a : y < 0
  · rw [if_pos a]; rfl
  · rw [if_neg a, if_pos (by omega)]; rfl

theorem in_in (y : Int) (h0 : 0 ≤ y) (h1 : y ≤ 10001) : cycle_In.f y = some (if lp y = true then 13 else 12, 0) := by
  unfold cycle_In.f
  rw [leap_in y h0 h1]
  cases lp y <;> rfl

theorem in_out (y : Int) (h : y < 0 ∨ 10001 < y) : cycle_In.f y = some (0, 2) := by
  unfold cycle_In.f
  rw [leap_out y h]
  rfl

/-- The months ahead of a year. -/
def bf (y : Int) : Int := (235 * y - 234) / 19

theorem before_in (y : Int) (h0 : 0 ≤ y) (h1 : y ≤ 10001) : cycle_Before.f y = some (bf y, 0) := by
  unfold cycle_Before.f cycle_check.f bf
  rw [if_neg (by omega), if_neg (by omega)]
  simp only [Option.bind_some, if_true]
  rw [w64 (n := y - 1) (by omega) (by omega), w64 (n := 235 * (y - 1)) (by omega) (by omega), w64 (n := 235 * (y - 1) + 1) (by omega) (by omega), div_eq _ 19 (by omega) (by omega) (by omega) (by omega)]
  simp only [Option.bind_some]
  congr 2
  omega

theorem before_out (y : Int) (h : y < 0 ∨ 10001 < y) : cycle_Before.f y = some (0, 2) := by
  unfold cycle_Before.f cycle_check.f
  by_cases a : y < 0
  · rw [if_pos a]; rfl
  · rw [if_neg a, if_pos (by omega)]; rfl

theorem awake_eq : almanackerlaw03_awake.f = some true := by
  unfold almanackerlaw03_awake.f
  rw [leap_in _ (by omega) (by omega), leap_in _ (by omega) (by omega), before_in _ (by omega) (by omega), in_out _ (by omega)]
  decide

theorem left_eq (a b : Int) (hb : 0 < b) (hb1 : b ≤ 9223372036854775807) : almanackerref01_Left.f a b = some (a % b) := by
  have f := (floor_both a b hb).2
  have m0 := Int.emod_nonneg a (b := b) (by omega)
  have m1 := Int.emod_lt_of_pos a hb
  unfold almanackerref01_Left.f
  rw [if_neg (by omega)]
  by_cases h : Int.tmod a b < 0
  · rw [if_pos h] at f ⊢
    rw [f, w64 (by omega) (by omega)]
  · rw [if_neg h] at f ⊢
    rw [f]


theorem right_in (y : Int) (h0 : 0 ≤ y) (h1 : y ≤ 10001) : almanackerref03_Right.f y = some true := by
  unfold almanackerref03_Right.f
  rw [if_pos (by omega), decide_eq_true h1]
theorem right_out (y : Int) (h : y < 0 ∨ 10001 < y) : almanackerref03_Right.f y = some false := by
  unfold almanackerref03_Right.f
  by_cases a : y ≥ 0
  · rw [if_pos a, decide_eq_false (by omega)]
  · rw [if_neg a]
theorem is_eq (y : Int) (h0 : 0 ≤ y) (h1 : y ≤ 10001) : almanackerref03_Is.f y = some (lp y) := by
  unfold almanackerref03_Is.f lp
  rw [w64 (n := 7 * y) (by omega) (by omega), w64 (n := 7 * y + 1) (by omega) (by omega), left_eq _ 19 (by omega) (by omega)]
  rfl
theorem rleap_in (y : Int) (h0 : 0 ≤ y) (h1 : y ≤ 10001) : almanackerref03_Leap.f y = some (lp y, 0) := by
  unfold almanackerref03_Leap.f
  rw [right_in y h0 h1, is_eq y h0 h1]
  rfl
theorem rleap_out (y : Int) (h : y < 0 ∨ 10001 < y) : almanackerref03_Leap.f y = some (false, 2) := by
  unfold almanackerref03_Leap.f
  rw [right_out y h]
  rfl
theorem rin_in (y : Int) (h0 : 0 ≤ y) (h1 : y ≤ 10001) : almanackerref03_In.f y = some (if lp y = true then 13 else 12, 0) := by
  unfold almanackerref03_In.f
  rw [right_in y h0 h1, is_eq y h0 h1]
  cases lp y <;> rfl
theorem rin_out (y : Int) (h : y < 0 ∨ 10001 < y) : almanackerref03_In.f y = some (0, 2) := by
  unfold almanackerref03_In.f
  rw [right_out y h]
  rfl
theorem down_eq (a b : Int) (hb : 0 < b) (h0 : -9223372036854775808 ≤ a) (h1 : a ≤ 9223372036854775807) : almanackerref01_Down.f a b = some (a / b) := by
  have f := (floor_both a b hb).1
  have m0 := ediv_range a b hb h0 h1
  have m1 := tdiv_range a b hb h0 h1
  unfold almanackerref01_Down.f
  rw [if_neg (by omega), w64 m1.1 m1.2]
  by_cases h : Int.tmod a b < 0
  · rw [if_pos h] at f ⊢
    rw [f, w64 (by omega) (by omega)]
  · rw [if_neg h] at f ⊢
    rw [f]
theorem rbefore_in (y : Int) (h0 : 0 ≤ y) (h1 : y ≤ 10001) : almanackerref03_Before.f y = some (bf y, 0) := by
  unfold almanackerref03_Before.f bf
  rw [right_in y h0 h1, w64 (n := 235 * y) (by omega) (by omega), w64 (n := 235 * y - 234) (by omega) (by omega), down_eq _ 19 (by omega) (by omega) (by omega)]
  rfl
theorem rbefore_out (y : Int) (h : y < 0 ∨ 10001 < y) : almanackerref03_Before.f y = some (0, 2) := by
  unfold almanackerref03_Before.f
  rw [right_out y h]
  rfl


end CT
open CT in
theorem CycleTells : almanackerlaw03_CycleTells.Pure := by
  intro y hy
  refine ⟨2, ?_⟩
  unfold almanackerlaw03_CycleTells.f
  by_cases h : 0 ≤ y ∧ y ≤ 10001
  · obtain ⟨h0, h1⟩ := h
    rw [leap_in y h0 h1, rleap_in y h0 h1]
    simp only [Option.bind_some, almanackerlaw03_CycleTells.j0, almanackerlaw03_CycleTells.j1]
    rw [in_in y h0 h1, rin_in y h0 h1, before_in y h0 h1, rbefore_in y h0 h1, awake_eq]
    simp
  · have h' : y < 0 ∨ 10001 < y := by omega
    rw [leap_out y h', rleap_out y h']
    simp only [Option.bind_some, almanackerlaw03_CycleTells.j0, almanackerlaw03_CycleTells.j1]
    rw [in_out y h', rin_out y h', before_out y h', rbefore_out y h', awake_eq]
    simp

end Go.Proofs.Ytmeimicphadlpaa.Pure
