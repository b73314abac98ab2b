/- The calendar in plain numbers: no program in sight. -/
import Derived.Test.YtkiopgegdkeojaaGreatDoorPlain
set_option linter.unusedVariables false
namespace Go.Proofs.YtkiopgegdkeojaaGreatDoor.Math
open Go Go.RowKit Go.Proofs.YtkiopgegdkeojaaGreatDoor.Plain

/-- Is a year a leap year? -/
def lp (y : Int) : Bool := decide ((7 * y + 1) % 19 < 7)
/-- The months ahead of a year. -/
def bf (y : Int) : Int := (235 * y - 234) / 19
/-- Is a year reckoned? -/
def yr (y : Int) : Bool := decide (0 ≤ y ∧ y ≤ 10001)
def yE (y : Int) : Int := if yr y = true then 0 else 2
def lpN (y : Int) : Bool := yr y && lp y
def ml (y : Int) : Int := if lp y = true then 13 else 12
def inN (y : Int) : Int := if yr y = true then ml y else 0
def bfN (y : Int) : Int := if yr y = true then bf y else 0

theorem yr_in {y : Int} (h0 : 0 ≤ y) (h1 : y ≤ 10001) : yr y = true := decide_eq_true ⟨h0, h1⟩
theorem yr_out {y : Int} (h : y < 0 ∨ 10001 < y) : yr y = false := decide_eq_false (by omega)
theorem yE_in {y : Int} (h0 : 0 ≤ y) (h1 : y ≤ 10001) : yE y = 0 := by unfold yE; rw [yr_in h0 h1, if_pos rfl]
theorem yE_out {y : Int} (h : y < 0 ∨ 10001 < y) : yE y = 2 := by unfold yE; rw [yr_out h, if_neg (by decide)]
theorem lpN_in {y : Int} (h0 : 0 ≤ y) (h1 : y ≤ 10001) : lpN y = lp y := by unfold lpN; rw [yr_in h0 h1, Bool.true_and]
theorem lpN_out {y : Int} (h : y < 0 ∨ 10001 < y) : lpN y = false := by unfold lpN; rw [yr_out h, Bool.false_and]
theorem inN_in {y : Int} (h0 : 0 ≤ y) (h1 : y ≤ 10001) : inN y = ml y := by unfold inN; rw [yr_in h0 h1, if_pos rfl]
theorem inN_out {y : Int} (h : y < 0 ∨ 10001 < y) : inN y = 0 := by unfold inN; rw [yr_out h, if_neg (by decide)]
theorem bfN_in {y : Int} (h0 : 0 ≤ y) (h1 : y ≤ 10001) : bfN y = bf y := by unfold bfN; rw [yr_in h0 h1, if_pos rfl]
theorem bfN_out {y : Int} (h : y < 0 ∨ 10001 < y) : bfN y = 0 := by unfold bfN; rw [yr_out h, if_neg (by decide)]
theorem ml_range (y : Int) : 12 ≤ ml y ∧ ml y ≤ 13 := by unfold ml; split <;> omega
theorem bf_range {y : Int} (h0 : 0 ≤ y) (h1 : y ≤ 10001) : -13 ≤ bf y ∧ bf y ≤ 123688 := by unfold bf; omega

/-- The moment of the new moon number n. -/
def moD (n : Int) : Int := (5604 + 765433 * n) / 25920 - 1373427
def moP (n : Int) : Int := (5604 + 765433 * n) % 25920
theorem moP_range (n : Int) : 0 ≤ moP n ∧ moP n ≤ 25919 := by unfold moP; omega
def moR (n : Int) : Bool := decide (-200000 ≤ n ∧ n ≤ 200000)
def moDN (n : Int) : Int := if moR n = true then moD n else 0
def moPN (n : Int) : Int := if moR n = true then moP n else 0
def moE (n : Int) : Int := if moR n = true then 0 else 2
theorem moR_in {n : Int} (h0 : -200000 ≤ n) (h1 : n ≤ 200000) : moR n = true := decide_eq_true ⟨h0, h1⟩
theorem moR_out {n : Int} (h : n < -200000 ∨ 200000 < n) : moR n = false := decide_eq_false (by omega)
theorem moD_range {n : Int} (h0 : -200000 ≤ n) (h1 : n ≤ 200000) : -7300000 ≤ moD n ∧ moD n ≤ 4540000 := by unfold moD; omega

/-- The moment of the new moon of a month of a year. -/
def ofE (y m : Int) : Int := if yr y = true then (if 1 ≤ m ∧ m ≤ ml y then 0 else 3) else 2
def ofD (y m : Int) : Int := if ofE y m = 0 then moD (bf y + m - 1) else 0
def ofP (y m : Int) : Int := if ofE y m = 0 then moP (bf y + m - 1) else 0
theorem ofE_y {y m : Int} (h : y < 0 ∨ 10001 < y) : ofE y m = 2 := by unfold ofE; rw [yr_out h, if_neg (by decide)]
theorem ofE_m {y m : Int} (h0 : 0 ≤ y) (h1 : y ≤ 10001) (h : m < 1 ∨ ml y < m) : ofE y m = 3 := by unfold ofE; rw [yr_in h0 h1, if_pos rfl, if_neg (by omega)]
theorem ofE_ok {y m : Int} (h0 : 0 ≤ y) (h1 : y ≤ 10001) (m0 : 1 ≤ m) (m1 : m ≤ ml y) : ofE y m = 0 := by unfold ofE; rw [yr_in h0 h1, if_pos rfl, if_pos ⟨m0, m1⟩]
theorem ofD_ok {y m : Int} (h0 : 0 ≤ y) (h1 : y ≤ 10001) (m0 : 1 ≤ m) (m1 : m ≤ ml y) : ofD y m = moD (bf y + m - 1) := by unfold ofD; rw [ofE_ok h0 h1 m0 m1, if_pos rfl]
theorem ofP_ok {y m : Int} (h0 : 0 ≤ y) (h1 : y ≤ 10001) (m0 : 1 ≤ m) (m1 : m ≤ ml y) : ofP y m = moP (bf y + m - 1) := by unfold ofP; rw [ofE_ok h0 h1 m0 m1, if_pos rfl]

/-- May no year begin on a weekday? -/
def bad (w : Int) : Bool := w == 0 || w == 3 || w == 5
/-- Is a moment late? -/
def late (d p : Int) (leap after : Bool) : Bool := decide (19440 ≤ p) || (d % 7 == 2 && decide (9924 ≤ p) && !leap) || (d % 7 == 1 && decide (16789 ≤ p) && after)
/-- By how many days a year is put off. -/
def dly (d p : Int) (leap after : Bool) : Int := if late d p leap after = true then (if bad ((d + 1) % 7) = true then 2 else 1) else if bad (d % 7) = true then 1 else 0
theorem dly_range (d p : Int) (leap after : Bool) : 0 ≤ dly d p leap after ∧ dly d p leap after ≤ 2 := by unfold dly; split <;> split <;> omega
/-- A year's first day. -/
def fy (y : Int) : Int := moD (bf y) + dly (moD (bf y)) (moP (bf y)) (lp y) (lp (y - 1))
def fyN (y : Int) : Int := if yr y = true then fy y else 0
theorem fyN_in {y : Int} (h0 : 0 ≤ y) (h1 : y ≤ 10001) : fyN y = fy y := by unfold fyN; rw [yr_in h0 h1, if_pos rfl]
theorem fyN_out {y : Int} (h : y < 0 ∨ 10001 < y) : fyN y = 0 := by unfold fyN; rw [yr_out h, if_neg (by decide)]

end Go.Proofs.YtkiopgegdkeojaaGreatDoor.Math
