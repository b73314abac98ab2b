/- Plain arithmetic that the pure statements need: quotients and remainders rounded down, wrap-free ranges. -/
import Derived.OpenShut
import Derived.WalkKit
namespace Go.Proofs.YtkiopgegdkeojaaGreatDoor.Plain
open Go Go.RowKit

theorem w64 {n : Int} (h0 : -9223372036854775808 ≤ n) (h1 : n ≤ 9223372036854775807) : wrap64 n = n := by
  unfold wrap64
  omega

theorem floor_both (a b : Int) (hb : 0 < b) :
    (if Int.tmod a b < 0 then Int.tdiv a b - 1 else Int.tdiv a b) = a / b ∧ (if Int.tmod a b < 0 then Int.tmod a b + b else Int.tmod a b) = a % b := by
  have e := Int.tmod_add_mul_tdiv a b
  have h1 := Int.tmod_lt_of_pos a hb
  have h2 := Int.lt_tmod_of_pos a hb
  split
  · rename_i h
    have u := (Int.ediv_emod_unique (a := a) (b := b) (r := Int.tmod a b + b) (q := Int.tdiv a b - 1) hb).2 ⟨by rw [Int.mul_sub]; omega, by omega, by omega⟩
    exact ⟨u.1.symm, u.2.symm⟩
  · rename_i h
    have u := (Int.ediv_emod_unique (a := a) (b := b) (r := Int.tmod a b) (q := Int.tdiv a b) hb).2 ⟨by omega, by omega, by omega⟩
    exact ⟨u.1.symm, u.2.symm⟩

theorem ediv_range (a b : Int) (hb : 0 < b) (h0 : -9223372036854775808 ≤ a) (h1 : a ≤ 9223372036854775807) : -9223372036854775808 ≤ a / b ∧ a / b ≤ 9223372036854775807 := by
  have e := Int.emod_add_mul_ediv a b
  have m0 := Int.emod_nonneg a (b := b) (by omega)
  have m1 := Int.emod_lt_of_pos a hb
  constructor
  · by_cases h : 0 ≤ a
    · have := Int.ediv_nonneg h (Int.le_of_lt hb); omega
    · have : a ≤ a / b := by
        have hq : a / b ≤ 0 := by
          have := Int.ediv_le_ediv hb (show a ≤ 0 by omega)
          simpa using this
        have : b * (a / b) ≤ 1 * (a / b) := by
          have := Int.mul_le_mul_of_nonpos_right (show 1 ≤ b by omega) hq
          omega
        have h3 : b * (a / b) ≤ a := by omega
        by_cases h1 : b = 1
        · subst h1; simp
        · have hb2 : 2 ≤ b := by omega
          have h5 : a < b * (a / b) + b := by omega
          have h6 : b * (a / b + 1) > a := by rw [Int.mul_add]; omega
          by_cases h7 : a / b + 1 ≤ 0
          · have : b * (a / b + 1) ≤ 1 * (a / b + 1) := Int.mul_le_mul_of_nonpos_right (show 1 ≤ b by omega) h7
            omega
          · omega
      omega
  · by_cases h : 0 ≤ a
    · have := Int.ediv_le_self b h; omega
    · have := Int.ediv_le_ediv hb (show a ≤ 0 by omega)
      simp at this; omega

theorem tdiv_range (a b : Int) (hb : 0 < b) (h0 : -9223372036854775808 ≤ a) (h1 : a ≤ 9223372036854775807) : -9223372036854775808 ≤ Int.tdiv a b ∧ Int.tdiv a b ≤ 9223372036854775807 := by
  have e := ediv_range a b hb h0 h1
  have f := (floor_both a b hb).1
  by_cases h : Int.tmod a b < 0
  · rw [if_pos h] at f
    by_cases g : a / b = 9223372036854775807
    · exfalso
      have ha : 0 ≤ a := by
        have := Int.emod_add_mul_ediv a b
        have m0 := Int.emod_nonneg a (b := b) (by omega)
        rw [g] at this
        have : 0 ≤ b * 9223372036854775807 := Int.mul_nonneg (by omega) (by omega)
        omega
      have := Int.tmod_nonneg b ha
      omega
    · omega
  · rw [if_neg h] at f; omega

end Go.Proofs.YtkiopgegdkeojaaGreatDoor.Plain
