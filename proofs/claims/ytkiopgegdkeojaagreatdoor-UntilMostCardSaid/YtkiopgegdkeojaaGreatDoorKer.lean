/- Facts of all years by the kernel's own reckoning: their lengths and weekdays, and that both ways tell the same first day. -/
import Derived.Test.YtkiopgegdkeojaaGreatDoorMath
set_option linter.unusedVariables false
namespace Go.Proofs.YtkiopgegdkeojaaGreatDoor.Math
open Go Go.RowKit Go.Proofs.YtkiopgegdkeojaaGreatDoor.Plain

/-- Does a fact hold of 0, 1, .., n - 1? -/
def allB (f : Nat → Bool) : Nat → Bool
  | 0 => true
  | n + 1 => f n && allB f n
theorem allB_at {f : Nat → Bool} {n : Nat} (h : allB f n = true) : ∀ k, k < n → f k = true := by
  induction n with
  | zero => intro k hk; omega
  | succ n ih =>
    intro k hk
    simp only [allB, Bool.and_eq_true] at h
    by_cases e : k = n
    · rw [e]; exact h.1
    · exact ih h.2 k (by omega)

def yearOk (k : Nat) : Bool :=
  let a := fy k
  let b := fy (k + 1)
  let n := b - a
  let w := a % 7
  let m := if lp k = true then n - 30 else n
  decide (353 ≤ m) && decide (m ≤ 355) && !(w == 0) && !(w == 3) && !(w == 5)

set_option maxRecDepth 100000 in
theorem years_all : allB yearOk 10001 = true := by decide +kernel

/-- The days ahead of a year, nearly, and its first day out of these. -/
def ym (y : Int) : Int := 29 * bf y + (12084 + 13753 * bf y) / 25920
def yn (y : Int) : Int := if (3 * (ym y + 1)) % 7 < 3 then ym y + 1 else ym y
def cf (y : Int) : Int := (if yn (y + 1) - yn y = 356 then yn y + 2 else if yn y - yn (y - 1) = 382 then yn y + 1 else yn y) - 1373427
set_option maxRecDepth 100000 in
theorem closed_all : allB (fun k => cf k == fy k) 10002 = true := by decide +kernel

end Go.Proofs.YtkiopgegdkeojaaGreatDoor.Math
