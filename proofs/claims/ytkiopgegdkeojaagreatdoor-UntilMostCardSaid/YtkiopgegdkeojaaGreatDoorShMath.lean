/- Months of all years, numbered one behind the other: no program in sight. -/
import Derived.Test.YtkiopgegdkeojaaGreatDoorMonMath
set_option linter.unusedVariables false
set_option linter.unusedSimpArgs false
namespace Go.Proofs.YtkiopgegdkeojaaGreatDoor.Math
open Go Go.RowKit Go.Proofs.YtkiopgegdkeojaaGreatDoor.Plain Go.Proofs.YtkiopgegdkeojaaGreatDoor.Walks

theorem bf_next (y : Int) : bf (y + 1) = bf y + (mct (lp y) : Int) := by
  have key : bf (y + 1) = bf y + (if lp y = true then 13 else 12) := by
    unfold bf lp
    have h := leap_cases y
    rcases h with h | h | h | h | h | h | h | h | h | h | h | h | h | h | h | h | h | h | h <;> (split <;> rename_i g <;> simp at g <;> omega)
  rw [key]
  unfold mct
  cases lp y <;> rfl
theorem ml_mct (y : Int) : ml y = (mct (lp y) : Int) := by unfold ml mct; cases lp y <;> rfl
theorem bf_mono {a b : Int} (h : a ≤ b) : bf a ≤ bf b := by unfold bf; omega
theorem bf_lt {a b : Int} (h : a < b) : bf a + 12 ≤ bf b := by unfold bf; omega
theorem bf_1 : bf 1 = 0 := by decide
/-- How many months there are in all years. -/
theorem bf_all : bf 10000 = 123671 := by decide
theorem month_of {t : Int} (h0 : 0 ≤ t) (h1 : t < 123671) : ∃ (y : Int) (j : Nat), 1 ≤ y ∧ y ≤ 9999 ∧ j < mct (lp y) ∧ bf y + j = t := by
  have key : ∀ d : Nat, d ≤ 9999 → t < bf ((d : Int) + 1) → ∃ (y : Int) (j : Nat), 1 ≤ y ∧ y ≤ 9999 ∧ j < mct (lp y) ∧ bf y + j = t := by
    intro d
    induction d with
    | zero => intro _ h; have := bf_1; simp at h; omega
    | succ d ih =>
      intro hd h
      by_cases c : t < bf ((d : Int) + 1)
      · exact ih (by omega) c
      · have e := bf_next ((d : Int) + 1)
        rw [show ((d + 1 : Nat) : Int) + 1 = (d : Int) + 1 + 1 from by omega] at h
        exact ⟨(d : Int) + 1, (t - bf ((d : Int) + 1)).toNat, by omega, by omega, by omega, by omega⟩
  exact key 9999 (Nat.le_refl _) (by have := bf_all; show t < bf (((9999 : Nat) : Int) + 1); rw [show ((9999 : Nat) : Int) + 1 = 10000 from rfl]; omega)
theorem month_in {y : Int} {j : Nat} (h0 : 1 ≤ y) (h1 : y ≤ 9999) (hj : j < mct (lp y)) : 0 ≤ bf y + j ∧ bf y + j < 123671 := by
  have a := bf_mono h0
  have b := bf_next y
  have c := bf_mono (show y + 1 ≤ 10000 by omega)
  have := bf_1
  have := bf_all
  omega
theorem month_inj {y y' : Int} {j j' : Nat} (hj : j < mct (lp y)) (hj' : j' < mct (lp y')) (h : bf y + j = bf y' + j') : y = y' ∧ j = j' := by
  have a := bf_next y
  have b := bf_next y'
  rcases Int.lt_trichotomy y y' with g | rfl | g
  · have := bf_mono (show y + 1 ≤ y' by omega); omega
  · exact ⟨rfl, by omega⟩
  · have := bf_mono (show y' + 1 ≤ y by omega); omega
/-- The year in which month t is; 0 or 10000: there is none. -/
theorem zyear (t : Int) : ∃ Z : Int, 0 ≤ Z ∧ Z ≤ 10000 ∧ (∀ y, 1 ≤ y → y ≤ 9999 → ((bf (y + 1) ≤ t ↔ y < Z) ∧ (t < bf y ↔ Z < y))) ∧
    ((Z = 0 ∧ t < 0) ∨ (Z = 10000 ∧ 123671 ≤ t) ∨ (1 ≤ Z ∧ Z ≤ 9999 ∧ ∃ j : Nat, j < mct (lp Z) ∧ bf Z + j = t)) := by
  by_cases h0 : t < 0
  · refine ⟨0, by decide, by decide, fun y y0 y1 => ?_, .inl ⟨rfl, h0⟩⟩
    have a := bf_mono y0
    have b := bf_mono (show 1 ≤ y + 1 by omega)
    have := bf_1
    omega
  · by_cases h1 : 123671 ≤ t
    · refine ⟨10000, by decide, by decide, fun y y0 y1 => ?_, .inr (.inl ⟨rfl, h1⟩)⟩
      have a := bf_mono (show y ≤ 10000 by omega)
      have b := bf_mono (show y + 1 ≤ 10000 by omega)
      have := bf_all
      omega
    · obtain ⟨Z, j, z0, z1, hj, e⟩ := month_of (t := t) (by omega) (by omega)
      refine ⟨Z, by omega, by omega, fun y y0 y1 => ?_, .inr (.inr ⟨z0, z1, j, hj, e⟩)⟩
      have n := bf_next Z
      constructor
      · constructor
        · intro h
          apply Int.lt_of_not_ge
          intro g
          have := bf_mono (show Z + 1 ≤ y + 1 by omega)
          omega
        · intro h
          have := bf_mono (show y + 1 ≤ Z by omega)
          omega
      · constructor
        · intro h
          apply Int.lt_of_not_ge
          intro g
          have := bf_mono g
          omega
        · intro h
          have := bf_mono (show Z + 1 ≤ y by omega)
          omega

end Go.Proofs.YtkiopgegdkeojaaGreatDoor.Math
