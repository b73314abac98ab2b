/- The Gregorian calendar in plain numbers: no program in sight. -/
import Derived.Test.YtgjgkldkdmohjaaPlain
set_option linter.unusedVariables false
namespace Go.Proofs.Ytgjgkldkdmohjaa.Math
open Go Go.RowKit Go.Proofs.Ytgjgkldkdmohjaa.Plain

/-- Is a year a leap year? -/
def gl (y : Int) : Bool := y % 400 == 0 || (y % 4 == 0 && !(y % 100 == 0))
/-- How many days a month has. -/
def gmd (l : Bool) (m : Int) : Int :=
  if m = 2 then (if l = true then 29 else 28) else if m = 4 ∨ m = 6 ∨ m = 9 ∨ m = 11 then 30 else if 1 ≤ m ∧ m ≤ 12 then 31 else 0
/-- The days ahead of a month. -/
def gc (l : Bool) : Nat → Int
  | 0 => 0
  | m + 1 => gc l m + gmd l m
/-- The day ahead of a year's first one. -/
def gb (y : Int) : Int := 365 * (y - 1) + (y - 1) / 4 - (y - 1) / 100 + (y - 1) / 400
/-- A date's day. -/
def gd (y : Int) (m : Nat) (d : Int) : Int := gb y + gc (gl y) m + d
theorem gmd_12 (l : Bool) (m : Int) (h0 : 1 ≤ m) (h1 : m ≤ 12) : 28 ≤ gmd l m ∧ gmd l m ≤ 31 := by unfold gmd; cases l <;> split <;> (try split) <;> (try split) <;> simp_all <;> omega
theorem gmd_no (l : Bool) (m : Int) (h : m < 1 ∨ 12 < m) : gmd l m = 0 := by
  unfold gmd
  rw [if_neg (by omega), if_neg (by omega), if_neg (by omega)]
theorem gmd_range (l : Bool) (m : Int) : 0 ≤ gmd l m ∧ gmd l m ≤ 31 := by
  by_cases h : 1 ≤ m ∧ m ≤ 12
  · have := gmd_12 l m h.1 h.2; omega
  · rw [gmd_no l m (by omega)]; omega
theorem gc_13 (l : Bool) : gc l 13 = if l = true then 366 else 365 := by cases l <;> decide
theorem gc_le (l : Bool) (m : Nat) (h : m ≤ 13) : 0 ≤ gc l m ∧ gc l m ≤ 366 := by
  have : m = 0 ∨ m = 1 ∨ m = 2 ∨ m = 3 ∨ m = 4 ∨ m = 5 ∨ m = 6 ∨ m = 7 ∨ m = 8 ∨ m = 9 ∨ m = 10 ∨ m = 11 ∨ m = 12 ∨ m = 13 := by omega
  rcases this with rfl | rfl | rfl | rfl | rfl | rfl | rfl | rfl | rfl | rfl | rfl | rfl | rfl | rfl <;> cases l <;> decide
/-- How long a year is. -/
theorem gb_next (y : Int) : gb (y + 1) = gb y + gc (gl y) 13 := by
  rw [gc_13]
  unfold gb gl
  by_cases h4 : y % 400 = 0
  · rw [beq_iff_eq.2 h4, Bool.true_or, if_pos rfl]; omega
  · rw [beq_eq_false_iff_ne.2 h4, Bool.false_or]
    by_cases h1 : y % 100 = 0
    · rw [beq_iff_eq.2 h1, Bool.not_true, Bool.and_false, if_neg (by decide)]; omega
    · rw [beq_eq_false_iff_ne.2 h1, Bool.not_false, Bool.and_true]
      by_cases h2 : y % 4 = 0
      · rw [beq_iff_eq.2 h2, if_pos rfl]; omega
      · rw [beq_eq_false_iff_ne.2 h2, if_neg (by decide)]; omega
theorem gb_mono {a b : Int} (h : a ≤ b) : gb a + 365 * (b - a) ≤ gb b := by unfold gb; omega
/-- The year of a day, as it is reckoned. -/
def gyr (n : Int) : Int :=
  let big := (n - 1) % 146097
  let a := (n - 1) / 146097
  let b := if big / 36524 < 3 then big / 36524 else 3
  let r := big - b * 36524
  let c := r / 1461
  let s := r % 1461
  let d := if s / 365 < 3 then s / 365 else 3
  400 * a + 100 * b + 4 * c + d + 1
theorem gyr_is (n : Int) : gb (gyr n) < n ∧ n ≤ gb (gyr n + 1) := by
  have key : ∀ a b c d s : Int, 0 ≤ b → b ≤ 3 → 0 ≤ c → c ≤ 24 → 0 ≤ d → d ≤ 3 → gb (400 * a + 100 * b + 4 * c + d + 1) = 146097 * a + 36524 * b + 1461 * c + 365 * d := by
    intro a b c d s b0 b1 c0 c1 d0 d1
    unfold gb
    have e4 : (400 * a + 100 * b + 4 * c + d + 1 - 1) / 4 = 100 * a + 25 * b + c := by omega
    have e1 : (400 * a + 100 * b + 4 * c + d + 1 - 1) / 100 = 4 * a + b := by omega
    have e40 : (400 * a + 100 * b + 4 * c + d + 1 - 1) / 400 = a := by omega
    rw [e4, e1, e40]; omega
  unfold gyr
  simp only
  have r0 : 0 ≤ (n - 1) % 146097 := by omega
  have r1 : (n - 1) % 146097 ≤ 146096 := by omega
  have hn : n = 146097 * ((n - 1) / 146097) + (n - 1) % 146097 + 1 := by omega
  generalize (n - 1) / 146097 = a at *
  generalize (n - 1) % 146097 = big at *
  obtain ⟨b, hb⟩ : ∃ b, (if big / 36524 < 3 then big / 36524 else 3) = b := ⟨_, rfl⟩
  rw [hb]
  have b0 : 0 ≤ b ∧ b ≤ 3 ∧ 0 ≤ big - b * 36524 ∧ (big - b * 36524 ≤ 36523 ∨ b = 3 ∧ big - b * 36524 = 36524) := by rw [← hb]; split <;> omega
  clear hb
  obtain ⟨r, hr⟩ : ∃ r, big - b * 36524 = r := ⟨_, rfl⟩
  rw [hr] at b0 ⊢
  obtain ⟨b0, b1, b2, b3⟩ := b0
  have c0 : 0 ≤ r / 1461 ∧ r / 1461 ≤ 24 := by omega
  have s0 : 0 ≤ r % 1461 ∧ r % 1461 ≤ 1460 := by omega
  have hrr : r = 1461 * (r / 1461) + r % 1461 := by omega
  generalize r / 1461 = c at *
  generalize r % 1461 = s at *
  obtain ⟨d, hd⟩ : ∃ d, (if s / 365 < 3 then s / 365 else 3) = d := ⟨_, rfl⟩
  rw [hd]
  have d0 : 0 ≤ d ∧ d ≤ 3 ∧ 365 * d ≤ s ∧ (s - 365 * d ≤ 364 ∨ d = 3 ∧ s - 365 * d ≤ 365) := by rw [← hd]; split <;> omega
  clear hd
  obtain ⟨d0, d1, d2, d3⟩ := d0
  have k0 := key a b c d 0 b0 b1 c0.1 c0.2 d0 d1
  refine ⟨by rw [k0]; omega, ?_⟩
  by_cases e : d < 3
  · have k1 := key a b c (d + 1) 0 b0 b1 c0.1 c0.2 (by omega) (by omega)
    rw [show 400 * a + 100 * b + 4 * c + d + 1 + 1 = 400 * a + 100 * b + 4 * c + (d + 1) + 1 from by omega, k1]; omega
  · by_cases f : c < 24
    · have k1 := key a b (c + 1) 0 0 b0 b1 (by omega) (by omega) (by omega) (by omega)
      rw [show 400 * a + 100 * b + 4 * c + d + 1 + 1 = 400 * a + 100 * b + 4 * (c + 1) + 0 + 1 from by omega, k1]; omega
    · by_cases g : b < 3
      · have k1 := key a (b + 1) 0 0 0 (by omega) (by omega) (by omega) (by omega) (by omega) (by omega)
        rw [show 400 * a + 100 * b + 4 * c + d + 1 + 1 = 400 * a + 100 * (b + 1) + 4 * 0 + 0 + 1 from by omega, k1]; omega
      · have k1 := key (a + 1) 0 0 0 0 (by omega) (by omega) (by omega) (by omega) (by omega) (by omega)
        rw [show 400 * a + 100 * b + 4 * c + d + 1 + 1 = 400 * (a + 1) + 100 * 0 + 4 * 0 + 0 + 1 from by omega, k1]; omega
/-- A year is the year of a day just if the day lies in it. -/
theorem year_uniq {n y z : Int} (h0 : gb y < n) (h1 : n ≤ gb (y + 1)) (h2 : gb z < n) (h3 : n ≤ gb (z + 1)) : y = z := by
  by_cases c : y < z
  · have := gb_mono (a := y + 1) (b := z) (by omega); omega
  · by_cases d : z < y
    · have := gb_mono (a := z + 1) (b := y) (by omega); omega
    · omega
theorem gc_mono (l : Bool) (m : Nat) : ∀ d, gc l m ≤ gc l (m + d) := by
  intro d
  induction d with
  | zero => exact Int.le_refl _
  | succ d ih =>
    have h := (gmd_range l ((m + d : Nat) : Int)).1
    show gc l m ≤ gc l (m + d) + gmd l ((m + d : Nat) : Int)
    omega
/-- A date that may be. -/
def gok (y : Int) (m : Nat) (d : Int) : Prop := 1 ≤ m ∧ m ≤ 12 ∧ 1 ≤ d ∧ d ≤ gmd (gl y) m
theorem gd_in {y : Int} {m : Nat} {d : Int} (h : gok y m d) : gb y < gd y m d ∧ gd y m d ≤ gb (y + 1) := by
  obtain ⟨m0, m1, d0, d1⟩ := h
  have a := (gc_le (gl y) m (by omega)).1
  have b : gc (gl y) (m + 1) ≤ gc (gl y) 13 := by have := gc_mono (gl y) (m + 1) (12 - m); rwa [show m + 1 + (12 - m) = 13 from by omega] at this
  have c : gc (gl y) (m + 1) = gc (gl y) m + gmd (gl y) m := rfl
  rw [gb_next]
  unfold gd
  omega
theorem find_month (l : Bool) (r : Int) (h0 : 1 ≤ r) (h1 : r ≤ gc l 13) : ∃ (m : Nat) (d : Int), 1 ≤ m ∧ m ≤ 12 ∧ 1 ≤ d ∧ d ≤ gmd l m ∧ gc l m + d = r := by
  have key : ∀ k : Nat, k ≤ 12 → r ≤ gc l (k + 1) → ∃ (m : Nat) (d : Int), 1 ≤ m ∧ m ≤ 12 ∧ 1 ≤ d ∧ d ≤ gmd l m ∧ gc l m + d = r := by
    intro k
    induction k with
    | zero =>
      intro _ h
      have : gc l (0 + 1) = 0 := by cases l <;> decide
      omega
    | succ k ih =>
      intro hk h
      by_cases c : r ≤ gc l (k + 1)
      · exact ih (by omega) c
      · have e : gc l (k + 1 + 1) = gc l (k + 1) + gmd l ((k + 1 : Nat) : Int) := rfl
        exact ⟨k + 1, r - gc l (k + 1), by omega, by omega, by omega, by omega, by omega⟩
  exact key 12 (Nat.le_refl _) h1
/-- Each day has its date. -/
theorem date_of (n : Int) : ∃ (m : Nat) (d : Int), gok (gyr n) m d ∧ gd (gyr n) m d = n := by
  obtain ⟨h0, h1⟩ := gyr_is n
  rw [gb_next] at h1
  obtain ⟨m, d, m0, m1, d0, d1, e⟩ := find_month (gl (gyr n)) (n - gb (gyr n)) (by omega) (by omega)
  exact ⟨m, d, ⟨m0, m1, d0, d1⟩, by unfold gd; omega⟩

end Go.Proofs.Ytgjgkldkdmohjaa.Math
