/- Each year's type is one of the fourteen: by the kernel's own reckoning. -/
import Derived.Test.YtkiopgegdkeojaaGreatDoorKeviah3
set_option linter.unusedVariables false
set_option linter.unusedSimpArgs false
namespace Go.Proofs.YtkiopgegdkeojaaGreatDoor.Walks
open Go Go.RowKit Go.Sort Go.Proofs.YtkiopgegdkeojaaGreatDoor.Base Go.Proofs.YtkiopgegdkeojaaGreatDoor.Plain Go.Proofs.YtkiopgegdkeojaaGreatDoor.Math

/-- A year's type is one of the fourteen. -/
def kyOk (k : Nat) : Bool := decide (kix (kb (k + 1)) (kk (k + 1)) (lp (k + 1)) < 14)
theorem ky_all : allB kyOk 9999 = true := by decide +kernel
theorem ky_in {y : Int} (h0 : 1 ≤ y) (h1 : y ≤ 9999) : ∃ i, i < 14 ∧ kb y = kB i ∧ kk y = kK i ∧ lp y = kL i := by
  have h := allB_at ky_all (y - 1).toNat (by omega)
  unfold kyOk at h
  rw [show (((y - 1).toNat : Nat) : Int) + 1 = y from by omega] at h
  have g := of_decide_eq_true h
  exact ⟨_, g, kix_at g⟩

end Go.Proofs.YtkiopgegdkeojaaGreatDoor.Walks
