/- The lengths of years and their weekdays; the year of a day. -/
import Derived.Test.YtkiopgegdkeojaaGreatDoorKer
set_option linter.unusedVariables false
namespace Go.Proofs.YtkiopgegdkeojaaGreatDoor.Math
open Go Go.RowKit Go.Proofs.YtkiopgegdkeojaaGreatDoor.Plain

theorem year_facts (k : Nat) (hk : k < 10001) :
    (if lp k = true then 383 else 353) ≤ fy ((k : Int) + 1) - fy k ∧ fy ((k : Int) + 1) - fy k ≤ (if lp k = true then 385 else 355) ∧ (fy k % 7 == 0) = false ∧ (fy k % 7 == 3) = false ∧ (fy k % 7 == 5) = false := by
  have h := allB_at years_all k hk
  simp only [yearOk, Bool.and_eq_true, decide_eq_true_eq, Bool.not_eq_true'] at h
  obtain ⟨⟨⟨⟨h1, h2⟩, h3⟩, h4⟩, h5⟩ := h
  refine ⟨?_, ?_, h3, h4, h5⟩
  · cases hl : lp k <;> simp only [hl, Bool.false_eq_true, if_false, if_true] at h1 ⊢ <;> omega
  · cases hl : lp k <;> simp only [hl, Bool.false_eq_true, if_false, if_true] at h2 ⊢ <;> omega
theorem fy_range {y : Int} (h0 : 0 ≤ y) (h1 : y ≤ 10001) : -7300000 ≤ fy y ∧ fy y ≤ 4540000 := by
  have b := bf_range h0 h1
  have d := dly_range (moD (bf y)) (moP (bf y)) (lp y) (lp (y - 1))
  unfold fy
  have m : -1500000 ≤ moD (bf y) ∧ moD (bf y) ≤ 2400000 := by unfold moD; omega
  omega

theorem cf_fy {y : Int} (h0 : 0 ≤ y) (h1 : y ≤ 10001) : cf y = fy y := by
  have h := allB_at closed_all y.toNat (by omega)
  rw [show ((y.toNat : Nat) : Int) = y from by omega] at h
  exact beq_iff_eq.1 h
theorem ym_range {y : Int} (h0 : -1 ≤ y) (h1 : y ≤ 10002) : -1000 ≤ ym y ∧ ym y ≤ 4000000 := by unfold ym bf; omega
theorem yn_range {y : Int} (h0 : -1 ≤ y) (h1 : y ≤ 10002) : -1000 ≤ yn y ∧ yn y ≤ 4000001 := by have := ym_range h0 h1; unfold yn; split <;> omega
def ynR (y : Int) : Bool := decide (-1 ≤ y ∧ y ≤ 10002)
def ynN (y : Int) : Int := if ynR y = true then yn y else 0
def ynE (y : Int) : Int := if ynR y = true then 0 else 2
theorem ynR_in {y : Int} (h0 : -1 ≤ y) (h1 : y ≤ 10002) : ynR y = true := decide_eq_true ⟨h0, h1⟩
theorem ynR_out {y : Int} (h : y < -1 ∨ 10002 < y) : ynR y = false := decide_eq_false (by omega)

/-! ### years follow one another -/
theorem fy_step {y : Int} (h0 : 0 ≤ y) (h1 : y ≤ 10000) : fy y + 353 ≤ fy (y + 1) ∧ fy (y + 1) ≤ fy y + 385 := by
  have h := year_facts y.toNat (by omega)
  rw [show ((y.toNat : Nat) : Int) = y from by omega] at h
  obtain ⟨h1, h2, -⟩ := h
  split at h1 <;> simp_all <;> omega
theorem fy_mono_nat (a : Nat) : ∀ d : Nat, a + d ≤ 10001 → fy (a : Int) + 353 * d ≤ fy ((a + d : Nat) : Int) := by
  intro d
  induction d with
  | zero => intro _; simp
  | succ d ih =>
    intro h
    have h2 := fy_step (y := ((a + d : Nat) : Int)) (by omega) (by omega)
    have h3 := ih (by omega)
    rw [show ((a + d : Nat) : Int) + 1 = ((a + (d + 1) : Nat) : Int) from by omega] at h2
    omega
theorem fy_mono {a b : Int} (h0 : 0 ≤ a) (h : a ≤ b) (h1 : b ≤ 10001) : fy a + 353 * (b - a) ≤ fy b := by
  have := fy_mono_nat a.toNat (b - a).toNat (by omega)
  rw [show ((a.toNat : Nat) : Int) = a from by omega, show ((a.toNat + (b - a).toNat : Nat) : Int) = b from by omega, show (((b - a).toNat : Nat) : Int) = b - a from by omega] at this
  exact this
/-- The year of a day. -/
theorem year_of {n : Int} (h0 : fy 1 ≤ n) (h1 : n < fy 10000) : ∃ y : Int, 1 ≤ y ∧ y ≤ 9999 ∧ fy y ≤ n ∧ n < fy (y + 1) := by
  have key : ∀ d : Nat, d ≤ 9999 → n < fy ((d : Int) + 1) → ∃ y : Int, 1 ≤ y ∧ y ≤ 9999 ∧ fy y ≤ n ∧ n < fy (y + 1) := by
    intro d
    induction d with
    | zero => intro _ h; exact absurd h (by simp; omega)
    | succ d ih =>
      intro hd h
      by_cases c : n < fy ((d : Int) + 1)
      · exact ih (by omega) c
      · exact ⟨(d : Int) + 1, by omega, by omega, by omega, by rw [show ((d : Int) + 1 + 1) = (((d + 1 : Nat) : Int) + 1) from by omega]; exact h⟩
  exact key 9999 (Nat.le_refl _) h1
theorem fy_1 : fy 1 = -1373427 := by decide +kernel
def lastD : Int := fy 10000 - 1
theorem lastD_is : lastD = 2278650 := by decide +kernel

end Go.Proofs.YtkiopgegdkeojaaGreatDoor.Math
