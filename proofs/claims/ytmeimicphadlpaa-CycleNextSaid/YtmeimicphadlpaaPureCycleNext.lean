/- The months ahead of the next year are one year's more, and in nineteen years on end there are seven leap years and 235 months: the pure statement; every input. -/
import Derived.Test.YtmeimicphadlpaaPCycleNextx1
import Derived.Test.YtmeimicphadlpaaPlain
set_option linter.unusedVariables false
namespace Go.Proofs.Ytmeimicphadlpaa.Pure
open Go.RowKit Go.Proofs.Ytmeimicphadlpaa.PCycleNext Go.Proofs.YtmeimicphadlpaaW.PrintWords Go.Proofs.YtmeimicphadlpaaW.PrintLast
open Go.Proofs.Ytmeimicphadlpaa.Plain

namespace CN

theorem div_eq (a b : Int) (hb : 0 < b) (h0 : -9223372036854775808 ≤ a) (h1 : a ≤ 9223372036854775807) (hb1 : b ≤ 9223372036854775807) : exact_Div.f a b = some (a / b, 0) := by
  have f := (floor_both a b hb).1
  have m0 := ediv_range a b hb h0 h1
  have m1 := tdiv_range a b hb h0 h1
  unfold exact_Div.f exact_both.f
  rw [if_neg (by omega), if_neg (by omega)]
  by_cases h : Int.tmod a b < 0
  · rw [if_pos h] at f ⊢
    simp only [Option.bind_some]
    rw [w64 m1.1 m1.2, f, w64 (by omega) (by omega)]
  · rw [if_neg h] at f ⊢
    simp only [Option.bind_some]
    rw [f, w64 (by omega) (by omega)]

/-- Is a year a leap year? -/
def lp (y : Int) : Bool := decide ((7 * y + 1) % 19 < 7)

theorem leap_in (y : Int) (h0 : 0 ≤ y) (h1 : y ≤ 10001) : cycle_Leap.f y = some (lp y, 0) := by
  unfold cycle_Leap.f cycle_check.f lp
  rw [if_neg (by omega), if_neg (by omega)]
  simp only [Option.bind_some, if_true]
  rw [Int.tmod_eq_emod_of_nonneg h0]
  have e : (7 * y + 1) % 19 = (7 * (y % 19) + 1) % 19 := by omega
  rw [e]
  have : y % 19 = 0 ∨ y % 19 = 1 ∨ y % 19 = 2 ∨ y % 19 = 3 ∨ y % 19 = 4 ∨ y % 19 = 5 ∨ y % 19 = 6 ∨ y % 19 = 7 ∨ y % 19 = 8 ∨ y % 19 = 9 ∨ y % 19 = 10 ∨ y % 19 = 11 ∨ y % 19 = 12 ∨ y % 19 = 13 ∨ y % 19 = 14 ∨ y % 19 = 15 ∨ y % 19 = 16 ∨ y % 19 = 17 ∨ y % 19 = 18 := by omega
  generalize y % 19 = r at this
  rcases this with rfl | rfl | rfl | rfl | rfl | rfl | rfl | rfl | rfl | rfl | rfl | rfl | rfl | rfl | rfl | rfl | rfl | rfl | rfl <;> decide

theorem leap_out (y : Int) (h : y < 0 ∨ 10001 < y) : cycle_Leap.f y = some (false, 2) := by
  unfold cycle_Leap.f cycle_check.f
  by_cases a : y < 0
  · rw [if_pos a]; rfl
  · rw [if_neg a, if_pos (by omega)]; rfl

theorem in_in (y : Int) (h0 : 0 ≤ y) (h1 : y ≤ 10001) : cycle_In.f y = some (if lp y = true then 13 else 12, 0) := by
  unfold cycle_In.f
  rw [leap_in y h0 h1]
  cases lp y <;> rfl

theorem in_out (y : Int) (h : y < 0 ∨ 10001 < y) : cycle_In.f y = some (0, 2) := by
  unfold cycle_In.f
  rw [leap_out y h]
  rfl

/-- The months ahead of a year. -/
def bf (y : Int) : Int := (235 * y - 234) / 19

theorem before_in (y : Int) (h0 : 0 ≤ y) (h1 : y ≤ 10001) : cycle_Before.f y = some (bf y, 0) := by
  unfold cycle_Before.f cycle_check.f bf
  rw [if_neg (by omega), if_neg (by omega)]
  simp only [Option.bind_some, if_true]
  rw [w64 (n := y - 1) (by omega) (by omega), w64 (n := 235 * (y - 1)) (by omega) (by omega), w64 (n := 235 * (y - 1) + 1) (by omega) (by omega), div_eq _ 19 (by omega) (by omega) (by omega) (by omega)]
  simp only [Option.bind_some]
  congr 2
  omega

theorem before_out (y : Int) (h : y < 0 ∨ 10001 < y) : cycle_Before.f y = some (0, 2) := by
  unfold cycle_Before.f cycle_check.f
  by_cases a : y < 0
  · rw [if_pos a]; rfl
  · rw [if_neg a, if_pos (by omega)]; rfl

theorem awake_eq : almanackerlaw03_awake.f = some true := by
  unfold almanackerlaw03_awake.f
  rw [leap_in _ (by omega) (by omega), leap_in _ (by omega) (by omega), before_in _ (by omega) (by omega), in_out _ (by omega)]
  decide

/-- The leap years among so many years on end. -/
def cnt (y : Int) : Nat → Int
  | 0 => 0
  | n + 1 => cnt y n + if lp (y + n) = true then 1 else 0

theorem cnt_le (y : Int) (n : Nat) : 0 ≤ cnt y n ∧ cnt y n ≤ n := by
  induction n with
  | zero => simp [cnt]
  | succ n ih => simp only [cnt]; split <;> omega

theorem lp_mod (y : Int) (n : Nat) : lp (y + n) = lp (y % 19 + n) := by unfold lp; congr 2; omega

theorem cnt_mod (y : Int) (n : Nat) : cnt y n = cnt (y % 19) n := by
  induction n with
  | zero => rfl
  | succ n ih => simp only [cnt]; rw [ih, lp_mod]

theorem cnt_19 (y : Int) : cnt y 19 = 7 := by
  rw [cnt_mod]
  have : y % 19 = 0 ∨ y % 19 = 1 ∨ y % 19 = 2 ∨ y % 19 = 3 ∨ y % 19 = 4 ∨ y % 19 = 5 ∨ y % 19 = 6 ∨ y % 19 = 7 ∨ y % 19 = 8 ∨ y % 19 = 9 ∨ y % 19 = 10 ∨ y % 19 = 11 ∨ y % 19 = 12 ∨ y % 19 = 13 ∨ y % 19 = 14 ∨ y % 19 = 15 ∨ y % 19 = 16 ∨ y % 19 = 17 ∨ y % 19 = 18 := by omega
  generalize y % 19 = r at this
  rcases this with rfl | rfl | rfl | rfl | rfl | rfl | rfl | rfl | rfl | rfl | rfl | rfl | rfl | rfl | rfl | rfl | rfl | rfl | rfl <;> decide

theorem loop_l (y : Int) (h0 : 0 ≤ y) (h1 : y + 19 ≤ 10001) (d : Nat) : ∀ (k n : Nat), n + d = 19 → 2 * d < k → almanackerlaw03_CycleNext.l0 k y (cnt y n) n = some true := by
  induction d with
  | zero =>
    intro k n hn hk
    obtain ⟨k, rfl⟩ : ∃ m, k = m + 1 := ⟨k - 1, by omega⟩
    simp only [almanackerlaw03_CycleNext.l0]
    rw [if_neg (by omega), awake_eq]
    obtain rfl : n = 19 := by omega
    rw [cnt_19]
    rfl
  | succ d ih =>
    intro k n hn hk
    obtain ⟨k, rfl⟩ : ∃ m, k = m + 2 := ⟨k - 2, by omega⟩
    have hc := cnt_le y n
    have h := ih k (n + 1) (by omega) (by omega)
    have e : ((n + 1 : Nat) : Int) = (n : Int) + 1 := by omega
    rw [e] at h
    simp only [cnt] at h
    simp only [almanackerlaw03_CycleNext.l0, almanackerlaw03_CycleNext.j2]
    rw [if_pos (by omega), w64 (n := y + n) (by omega) (by omega), leap_in (y + n) (by omega) (by omega), in_in (y + n) (by omega) (by omega), w64 (n := (n : Int) + 1) (by omega) (by omega), w64 (n := cnt y n + 1) (by omega) (by omega)]
    cases hl : lp (y + n) with
    | true => rw [hl, if_pos rfl] at h; simpa using h
    | false => rw [hl, if_neg (by simp)] at h; simpa using h


end CN
open CN in
theorem CycleNext : almanackerlaw03_CycleNext.Pure := by
  intro a ha
  have b := bounds_u16 ha
  refine ⟨50, ?_⟩
  unfold almanackerlaw03_CycleNext.f
  rw [w64 (n := a) (by omega) (by omega), Int.tmod_eq_emod_of_nonneg b.1]
  have g : a % 9900 + 19 ≤ 10001 := by omega
  have g0 : 0 ≤ a % 9900 := by omega
  generalize a % 9900 = y at g g0
  have hb : 0 ≤ bf y + 20 ∧ bf y ≤ 200000 := by unfold bf; omega
  have hs : bf (y + 1) = bf y + (if lp y = true then 13 else 12) := by
    have e : lp y = lp (y % 19) := by unfold lp; congr 2; omega
    rw [e]
    unfold bf
    have hr : y % 19 = 0 ∨ y % 19 = 1 ∨ y % 19 = 2 ∨ y % 19 = 3 ∨ y % 19 = 4 ∨ y % 19 = 5 ∨ y % 19 = 6 ∨ y % 19 = 7 ∨ y % 19 = 8 ∨ y % 19 = 9 ∨ y % 19 = 10 ∨ y % 19 = 11 ∨ y % 19 = 12 ∨ y % 19 = 13 ∨ y % 19 = 14 ∨ y % 19 = 15 ∨ y % 19 = 16 ∨ y % 19 = 17 ∨ y % 19 = 18 := by omega
    rcases hr with h | h | h | h | h | h | h | h | h | h | h | h | h | h | h | h | h | h | h <;> rw [h] <;> simp only [lp, Int.reduceMul, Int.reduceAdd, Int.reduceMod, Int.reduceLT, decide_true, decide_false, if_true] <;> first | omega | (rw [if_neg (by simp)]; omega)
  have hi : (0 : Int) ≤ (if lp y = true then 13 else 12) ∧ (if lp y = true then 13 else 12 : Int) ≤ 13 := by split <;> omega
  have hn : bf (y + 19) = bf y + 235 := by unfold bf; omega
  rw [w64 (n := y + 1) (by omega) (by omega), w64 (n := y + 19) (by omega) (by omega), before_in y (by omega) (by omega), before_in (y + 1) (by omega) (by omega), before_in (y + 19) (by omega) (by omega), in_in y (by omega) (by omega)]
  simp only [Option.bind_some, if_true]
  rw [w64 (n := bf y + (if lp y = true then 13 else 12)) (by omega) (by omega), w64 (n := bf y + 235) (by omega) (by omega), if_pos hs]
  simp only [almanackerlaw03_CycleNext.j0]
  rw [if_neg (by rw [hn]; simp)]
  have := loop_l y g0 g 19 49 0 (by omega) (by omega)
  simpa [cnt] using this

end Go.Proofs.Ytmeimicphadlpaa.Pure
