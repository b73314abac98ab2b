/- Months of types in plain numbers: their days, what is ahead of them, their codes; dates and their days. No program in sight. -/
import Derived.Test.YtkiopgegdkeojaaGreatDoorKeviah3
set_option linter.unusedVariables false
set_option linter.unusedSimpArgs false
namespace Go.Proofs.YtkiopgegdkeojaaGreatDoor.Math
open Go Go.RowKit Go.Proofs.YtkiopgegdkeojaaGreatDoor.Plain Go.Proofs.YtkiopgegdkeojaaGreatDoor.Walks

/-- How many months a type has. -/
def mct (l : Bool) : Nat := if l = true then 13 else 12
theorem mct_le (l : Bool) : 12 ≤ mct l ∧ mct l ≤ 13 := by cases l <;> decide
/-- The days of month j (from 0 on). -/
def mlen (kd : Int) (l : Bool) (j : Nat) : Int :=
  if l = true ∧ j = 5 then 30 else
  if j = 1 then (if kd = 2 then 30 else 29) else
  if j = 2 then (if kd = 0 then 29 else 30) else
  if (if l = true ∧ 5 < j then j - 1 else j) % 2 = 0 then 30 else 29
theorem mlen_range (kd : Int) (l : Bool) (j : Nat) : 29 ≤ mlen kd l j ∧ mlen kd l j ≤ 30 := by
  unfold mlen
  repeat' split
  all_goals omega
/-- The days ahead of month j. -/
def mah (kd : Int) (l : Bool) : Nat → Int
  | 0 => 0
  | j + 1 => mah kd l j + mlen kd l j
theorem mah_range (kd : Int) (l : Bool) (j : Nat) : 29 * (j : Int) ≤ mah kd l j ∧ mah kd l j ≤ 30 * (j : Int) := by
  induction j with
  | zero => simp [mah]
  | succ j ih =>
    have := mlen_range kd l j
    simp only [mah]
    omega
theorem mah_step (kd : Int) (l : Bool) (j : Nat) : mah kd l j + 29 ≤ mah kd l (j + 1) := by
  have := mlen_range kd l j
  simp only [mah]
  omega
theorem mah_mono (kd : Int) (l : Bool) (i d : Nat) : mah kd l i + 29 * (d : Int) ≤ mah kd l (i + d) := by
  induction d with
  | zero => simp
  | succ d ih => have := mah_step kd l (i + d); rw [show i + (d + 1) = (i + d) + 1 from rfl]; omega
theorem mah_le (kd : Int) (l : Bool) {i j : Nat} (h : i ≤ j) : mah kd l i + 29 * ((j : Int) - i) ≤ mah kd l j := by
  have := mah_mono kd l i (j - i)
  rw [show i + (j - i) = j from by omega] at this
  omega
/-- All months' days together. -/
theorem mah_all (kd : Int) (l : Bool) (h0 : 0 ≤ kd) (h1 : kd ≤ 2) : mah kd l (mct l) = 353 + kd + (if l = true then 30 else 0) := by
  have : kd = 0 ∨ kd = 1 ∨ kd = 2 := by omega
  rcases this with rfl | rfl | rfl <;> cases l <;> decide
theorem kln_mah {y : Int} (h0 : 1 ≤ y) (h1 : y ≤ 9999) : mah (kk y) (lp y) (mct (lp y)) = kln y := by
  obtain ⟨a, b, c⟩ := kk_leap h0 h1
  rw [mah_all _ _ b c]
  cases hl : lp y <;> simp only [hl, Bool.false_eq_true, if_false, if_true] at a ⊢ <;> omega
/-- The month of a day. -/
theorem month_at (kd : Int) (l : Bool) (c : Nat) (r : Int) (h0 : 1 ≤ r) (h1 : r ≤ mah kd l c) : ∃ j, j < c ∧ mah kd l j < r ∧ r ≤ mah kd l (j + 1) := by
  induction c with
  | zero => simp [mah] at h1; omega
  | succ c ih =>
    by_cases h : r ≤ mah kd l c
    · obtain ⟨j, a, b⟩ := ih h
      exact ⟨j, by omega, b⟩
    · exact ⟨c, by omega, by omega, h1⟩

/-! ### codes -/
/-- The code of month j (from 0 on): its number, and whether it is the leap month. -/
def cN (l : Bool) (j : Nat) : Int := if l = true ∧ 5 ≤ j then (j : Int) else (j : Int) + 1
def cL (l : Bool) (j : Nat) : Bool := l && decide (j = 5)
/-- May a code be? -/
def cR (n : Int) (c : Bool) : Bool := decide (1 ≤ n ∧ n ≤ 12 ∧ (n = 5 ∨ c = false))
theorem cN_range (l : Bool) {j : Nat} (h : j < mct l) : 1 ≤ cN l j ∧ cN l j ≤ 12 := by
  unfold cN mct at *
  cases l <;> simp at * <;> (try split) <;> omega
theorem cR_at (l : Bool) {j : Nat} (h : j < mct l) : cR (cN l j) (cL l j) = true := by
  unfold cR
  refine decide_eq_true ⟨(cN_range l h).1, (cN_range l h).2, ?_⟩
  unfold cN cL mct at *
  cases l <;> simp at * <;> omega
/-- Does a year have a code? -/
def cHas (l : Bool) (n : Int) (c : Bool) : Bool := cR n c && (l || !c)
theorem code_in {l : Bool} {n : Int} {c : Bool} (h : cHas l n c = true) : ∃ j, j < mct l ∧ n = cN l j ∧ c = cL l j := by
  unfold cHas cR at h
  simp only [Bool.and_eq_true, decide_eq_true_eq, Bool.or_eq_true, Bool.not_eq_true'] at h
  obtain ⟨⟨a, b, d⟩, e⟩ := h
  unfold cN cL mct
  cases l
  · have hc : c = false := by simpa using e
    subst hc
    exact ⟨(n - 1).toNat, by simp; omega, by simp; omega, by simp⟩
  · cases c
    · by_cases z : n ≤ 5
      · exact ⟨(n - 1).toNat, by simp; omega, by rw [if_neg (by omega)]; omega, by simp; omega⟩
      · exact ⟨n.toNat, by simp; omega, by rw [if_pos ⟨rfl, by omega⟩]; omega, by simp; omega⟩
    · have h5 : n = 5 := by simpa using d
      subst h5
      exact ⟨5, by decide, by decide, by decide⟩
theorem code_has {l : Bool} {j : Nat} (h : j < mct l) : cHas l (cN l j) (cL l j) = true := by
  unfold cHas
  rw [cR_at l h]
  unfold cL
  cases l <;> simp
theorem code_inj {l : Bool} {i j : Nat} (hi : i < mct l) (hj : j < mct l) (h : cN l i = cN l j) (g : cL l i = cL l j) : i = j := by
  have e : ∀ l : Bool, ∀ i : Nat, i < 13 → ∀ j : Nat, j < 13 → cN l i = cN l j → cL l i = cL l j → i = j := by decide
  have := mct_le l
  exact e l i (by omega) j (by omega) h g
/-- One code ahead of another one. -/
def cLt (a : Int) (x : Bool) (b : Int) (y : Bool) : Bool := decide (a < b) || (decide (a = b) && !x && y)
theorem cLt_at {l : Bool} {i j : Nat} (hi : i < mct l) (hj : j < mct l) : cLt (cN l i) (cL l i) (cN l j) (cL l j) = decide (i < j) := by
  have e : ∀ l : Bool, ∀ i : Nat, i < 13 → ∀ j : Nat, j < 13 → cLt (cN l i) (cL l i) (cN l j) (cL l j) = decide (i < j) := by decide
  have := mct_le l
  exact e l i (by omega) j (by omega)

/-! ### dates and their days -/
/-- A date that may be: its year, its month (from 0 on), its day. -/
structure HV (y : Int) (j : Nat) (d : Int) : Prop where
  y0 : 1 ≤ y
  y1 : y ≤ 9999
  j1 : j < mct (lp y)
  d0 : 1 ≤ d
  d1 : d ≤ mlen (kk y) (lp y) j
/-- Its day. -/
def hd (y : Int) (j : Nat) (d : Int) : Int := fy y + mah (kk y) (lp y) j + d - 1
theorem hd_in {y : Int} {j : Nat} {d : Int} (h : HV y j d) : fy y ≤ hd y j d ∧ hd y j d < fy (y + 1) := by
  have a := mah_range (kk y) (lp y) j
  have b := kln_mah h.y0 h.y1
  have c := mah_le (kk y) (lp y) (i := j + 1) (j := mct (lp y)) h.j1
  have := h.d0
  have := h.d1
  have := h.j1
  simp only [mah] at c
  unfold kln at b
  unfold hd
  omega
theorem hd_range {y : Int} {j : Nat} {d : Int} (h : HV y j d) : -1373427 ≤ hd y j d ∧ hd y j d ≤ 2278650 := by
  have a := hd_in h
  have := fy_mono (a := 1) (b := y) (by omega) h.y0 (by have := h.y1; omega)
  have := fy_mono (a := y + 1) (b := 10000) (by have := h.y0; omega) (by have := h.y1; omega) (by omega)
  have := h.y0
  have := h.y1
  have e := fy_1
  have f := lastD_is
  unfold lastD at f
  omega
theorem hd_of {n : Int} (h0 : -1373427 ≤ n) (h1 : n ≤ 2278650) : ∃ y j d, HV y j d ∧ hd y j d = n := by
  have e := fy_1
  have f := lastD_is
  unfold lastD at f
  obtain ⟨y, a, b, c, g⟩ := year_of (n := n) (by omega) (by omega)
  have k := kln_mah a b
  unfold kln at k
  obtain ⟨j, u, v, w⟩ := month_at (kk y) (lp y) (mct (lp y)) (n - fy y + 1) (by omega) (by omega)
  refine ⟨y, j, n - fy y + 1 - mah (kk y) (lp y) j, ⟨a, b, u, by omega, by simp only [mah] at w; omega⟩, by unfold hd; omega⟩
/-- Dates stand in order just as their days. -/
def hLt (y : Int) (j : Nat) (d : Int) (y' : Int) (j' : Nat) (d' : Int) : Prop := y < y' ∨ (y = y' ∧ (j < j' ∨ (j = j' ∧ d < d')))
theorem hd_lt {y : Int} {j : Nat} {d : Int} {y' : Int} {j' : Nat} {d' : Int} (h : HV y j d) (h' : HV y' j' d') (g : hLt y j d y' j' d') : hd y j d < hd y' j' d' := by
  rcases g with g | ⟨rfl, g | ⟨rfl, g⟩⟩
  · have a := (hd_in h).2
    have b := (hd_in h').1
    have := fy_mono (a := y + 1) (b := y') (by have := h.y0; omega) (by omega) (by have := h'.y1; omega)
    omega
  · have := mah_le (kk y) (lp y) (i := j + 1) (j := j') g
    simp only [mah] at this
    have := h.d1
    have := h'.d0
    unfold hd
    omega
  · unfold hd; omega
theorem hLt_tri (y : Int) (j : Nat) (d : Int) (y' : Int) (j' : Nat) (d' : Int) : hLt y j d y' j' d' ∨ (y = y' ∧ j = j' ∧ d = d') ∨ hLt y' j' d' y j d := by
  unfold hLt
  omega
theorem hd_inj {y : Int} {j : Nat} {d : Int} {y' : Int} {j' : Nat} {d' : Int} (h : HV y j d) (h' : HV y' j' d') (g : hd y j d = hd y' j' d') : y = y' ∧ j = j' ∧ d = d' := by
  rcases hLt_tri y j d y' j' d' with a | a | a
  · have := hd_lt h h' a; omega
  · exact a
  · have := hd_lt h' h a; omega
theorem hd_lt_iff {y : Int} {j : Nat} {d : Int} {y' : Int} {j' : Nat} {d' : Int} (h : HV y j d) (h' : HV y' j' d') : hd y j d < hd y' j' d' ↔ hLt y j d y' j' d' := by
  refine ⟨fun g => ?_, hd_lt h h'⟩
  rcases hLt_tri y j d y' j' d' with a | ⟨rfl, rfl, rfl⟩ | a
  · exact a
  · omega
  · have := hd_lt h' h a; omega
/-- The next date. -/
theorem hd_next_day {y : Int} {j : Nat} {d : Int} (h : HV y j d) (g : d < mlen (kk y) (lp y) j) : HV y j (d + 1) ∧ hd y j (d + 1) = hd y j d + 1 :=
  ⟨⟨h.y0, h.y1, h.j1, by have := h.d0; omega, by omega⟩, by unfold hd; omega⟩
theorem hd_next_month {y : Int} {j : Nat} {d : Int} (h : HV y j d) (g : d = mlen (kk y) (lp y) j) (hj : j + 1 < mct (lp y)) : HV y (j + 1) 1 ∧ hd y (j + 1) 1 = hd y j d + 1 :=
  ⟨⟨h.y0, h.y1, hj, by decide, by have := mlen_range (kk y) (lp y) (j + 1); omega⟩, by unfold hd; simp only [mah]; omega⟩
theorem hd_next_year {y : Int} {j : Nat} {d : Int} (h : HV y j d) (g : d = mlen (kk y) (lp y) j) (hj : j + 1 = mct (lp y)) : hd y j d + 1 = fy (y + 1) := by
  have b := kln_mah h.y0 h.y1
  unfold kln at b
  rw [← hj] at b
  simp only [mah] at b
  unfold hd
  omega
theorem HV_first {y : Int} (h0 : 1 ≤ y) (h1 : y ≤ 9999) : HV y 0 1 ∧ hd y 0 1 = fy y :=
  ⟨⟨h0, h1, by have := mct_le (lp y); omega, by decide, by have := mlen_range (kk y) (lp y) 0; omega⟩, by unfold hd; simp only [mah]; omega⟩

end Go.Proofs.YtkiopgegdkeojaaGreatDoor.Math
