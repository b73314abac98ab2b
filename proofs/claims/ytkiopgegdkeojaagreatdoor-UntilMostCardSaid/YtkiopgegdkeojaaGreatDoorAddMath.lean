/- A duration, added to a date, in plain numbers: what comes of it, step by step. No program in sight. -/
import Derived.Test.YtkiopgegdkeojaaGreatDoorShift3
set_option linter.unusedVariables false
set_option linter.unusedSimpArgs false
namespace Go.Proofs.YtkiopgegdkeojaaGreatDoor.Walks
open Go Go.RowKit Go.Sort Go.Proofs.YtkiopgegdkeojaaGreatDoor.Base Go.Proofs.YtkiopgegdkeojaaGreatDoor.Plain Go.Proofs.YtkiopgegdkeojaaGreatDoor.Math

/-- The code of a date's month, brought into a year, is the code of its month i. -/
structure In1 (y : Int) (j : Nat) (m t : Int) (i : Nat) : Prop where
  t0 : 1 ≤ t
  t1 : t ≤ 9999
  i1 : i < mct (lp t)
  e : inE t (cN (lp y) j) (cL (lp y) j) m = 0
  n : inNum t (cN (lp y) j) (cL (lp y) j) m = cN (lp t) i
  c : inLp t (cN (lp y) j) (cL (lp y) j) m = cL (lp t) i
/-- Months on: the month J of the year Y. -/
structure Mo (t : Int) (i : Nat) (sm Y : Int) (J : Nat) : Prop where
  y0 : 1 ≤ Y
  y1 : Y ≤ 9999
  j1 : J < mct (lp Y)
  e : bf Y + J = bf t + i + sm
/-- The day, fitted into the month. -/
structure Ft (Y : Int) (J : Nat) (d m N : Int) : Prop where
  e : (d ≤ mlen (kk Y) (lp Y) J ∧ N = d) ∨ (mlen (kk Y) (lp Y) J < d ∧ m = 0 ∧ N = mlen (kk Y) (lp Y) J)
/-- What comes of a duration, added to a date: the error, the date. -/
inductive ToK (y : Int) (j : Nat) (d sy sm sw sd m : Int) : Int → Int → Int → Bool → Int → Prop
  | into (E : Int) : inE (y + sy) (cN (lp y) j) (cL (lp y) j) m = E → E ≠ 0 → ToK y j d sy sm sw sd m E 0 0 false 0
  | months (i : Nat) : In1 y j m (y + sy) i → (bf (y + sy) + i + sm < 0 ∨ 123671 ≤ bf (y + sy) + i + sm) → ToK y j d sy sm sw sd m 2 0 0 false 0
  | fit (i : Nat) (Y : Int) (J : Nat) : In1 y j m (y + sy) i → Mo (y + sy) i sm Y J → m = 1 → mlen (kk Y) (lp Y) J < d → ToK y j d sy sm sw sd m 7 0 0 false 0
  | out (i : Nat) (Y : Int) (J : Nat) (N : Int) : In1 y j m (y + sy) i → Mo (y + sy) i sm Y J → Ft Y J d m N → (hd Y J N + (7 * sw + sd) < -1373427 ∨ 2278650 < hd Y J N + (7 * sw + sd)) → ToK y j d sy sm sw sd m 2 0 0 false 0
  | ok (i : Nat) (Y : Int) (J : Nat) (N Y' : Int) (J' : Nat) (N' : Int) : In1 y j m (y + sy) i → Mo (y + sy) i sm Y J → Ft Y J d m N → HV Y' J' N' → hd Y' J' N' = hd Y J N + (7 * sw + sd) → ToK y j d sy sm sw sd m 0 Y' (cN (lp Y') J') (cL (lp Y') J') N'
theorem in1_of {y : Int} {j : Nat} (hj : j < mct (lp y)) {m t : Int} (e : inE t (cN (lp y) j) (cL (lp y) j) m = 0) : ∃ i, In1 y j m t i := by
  have hR := cR_at (lp y) hj
  have r : 1 ≤ t ∧ t ≤ 9999 ∧ (m = 0 ∨ m = 1) := by
    unfold inE at e
    split at e
    · split at e
      · rename_i a b; exact ⟨b.1, b.2, a⟩
      · cases e
    · cases e
  have eN : inNum t (cN (lp y) j) (cL (lp y) j) m = if cHas (lp t) (cN (lp y) j) (cL (lp y) j) = true then cN (lp y) j else cN (lp y) j + 1 := by unfold inNum; rw [e, if_pos rfl]
  have eL : inLp t (cN (lp y) j) (cL (lp y) j) m = if cHas (lp t) (cN (lp y) j) (cL (lp y) j) = true then cL (lp y) j else false := by unfold inLp; rw [e, if_pos rfl]
  cases hh : cHas (lp t) (cN (lp y) j) (cL (lp y) j)
  · have hc : lp t = false ∧ cL (lp y) j = true := by
      unfold cHas at hh
      rw [hR] at hh
      simpa using hh
    have h5 : cN (lp y) j = 5 := by
      unfold cR at hR
      have := (of_decide_eq_true hR).2.2
      rw [hc.2] at this
      simpa using this
    rw [hh] at eN eL
    exact ⟨5, r.1, r.2.1, by rw [hc.1]; decide, e, by rw [eN, h5, hc.1]; decide, by rw [eL, hc.1, if_neg (by decide)]; decide⟩
  · obtain ⟨i, hi, e1, e2⟩ := code_in hh
    rw [hh, if_pos rfl] at eN eL
    exact ⟨i, r.1, r.2.1, hi, e, by rw [eN, e1], by rw [eL, e2]⟩
theorem ft_hv {Y : Int} {J : Nat} {d m N : Int} (h : Ft Y J d m N) (y0 : 1 ≤ Y) (y1 : Y ≤ 9999) (j1 : J < mct (lp Y)) (d0 : 1 ≤ d) : HV Y J N := by
  have l := mlen_range (kk Y) (lp Y) J
  rcases h.e with ⟨a, rfl⟩ | ⟨a, -, rfl⟩
  · exact ⟨y0, y1, j1, d0, a⟩
  · exact ⟨y0, y1, j1, by omega, Int.le_refl _⟩
theorem toK_ex {y : Int} {j : Nat} {d : Int} (h : HV y j d) (sy sm sw sd m : Int) (hm : m = 0 ∨ m = 1) : ∃ E R1 R2 R3 R4, ToK y j d sy sm sw sd m E R1 R2 R3 R4 := by
  by_cases e : inE (y + sy) (cN (lp y) j) (cL (lp y) j) m = 0
  · obtain ⟨i, h1⟩ := in1_of h.j1 e
    by_cases a : bf (y + sy) + i + sm < 0 ∨ 123671 ≤ bf (y + sy) + i + sm
    · exact ⟨_, _, _, _, _, .months i h1 a⟩
    · obtain ⟨Y, J, y0, y1, j1, g⟩ := month_of (t := bf (y + sy) + i + sm) (by omega) (by omega)
      have h2 : Mo (y + sy) i sm Y J := ⟨y0, y1, j1, g⟩
      have l := mlen_range (kk Y) (lp Y) J
      by_cases b : m = 1 ∧ mlen (kk Y) (lp Y) J < d
      · exact ⟨_, _, _, _, _, .fit i Y J h1 h2 b.1 b.2⟩
      · obtain ⟨N, h3⟩ : ∃ N, Ft Y J d m N := by
          by_cases z : d ≤ mlen (kk Y) (lp Y) J
          · exact ⟨d, ⟨.inl ⟨z, rfl⟩⟩⟩
          · exact ⟨_, ⟨.inr ⟨by omega, by omega, rfl⟩⟩⟩
        by_cases q : hd Y J N + (7 * sw + sd) < -1373427 ∨ 2278650 < hd Y J N + (7 * sw + sd)
        · exact ⟨_, _, _, _, _, .out i Y J N h1 h2 h3 q⟩
        · obtain ⟨Y', J', N', hv, e'⟩ := hd_of (n := hd Y J N + (7 * sw + sd)) (by omega) (by omega)
          exact ⟨_, _, _, _, _, .ok i Y J N Y' J' N' h1 h2 h3 hv e'⟩
  · exact ⟨_, _, _, _, _, .into _ rfl e⟩
theorem toK_e {y : Int} {j : Nat} {d sy sm sw sd m E R1 R2 R4 : Int} {R3 : Bool} (h : ToK y j d sy sm sw sd m E R1 R2 R3 R4) : E ≠ 0 → R1 = 0 ∧ R2 = 0 ∧ R3 = false ∧ R4 = 0 := by
  cases h <;> simp
theorem ft_fit {Y : Int} {J : Nat} {d m N : Int} (h : Ft Y J d m N) (hm : m = 0 ∨ m = 1) (d0 : 1 ≤ d) (d1 : d ≤ 30) : fitN (mlen (kk Y) (lp Y) J) 0 d m = N ∧ fitE (mlen (kk Y) (lp Y) J) 0 d m = 0 := by
  have e : fitE (mlen (kk Y) (lp Y) J) 0 d m = 0 := by
    unfold fitE
    rw [if_pos hm, if_pos rfl, if_pos ⟨d0, d1⟩]
    rcases h.e with ⟨a, -⟩ | ⟨a, rfl, -⟩
    · rw [if_pos a]
    · rw [if_neg (by omega), if_neg (by decide)]
  refine ⟨?_, e⟩
  unfold fitN
  rw [e, if_pos rfl]
  rcases h.e with ⟨a, b⟩ | ⟨a, -, b⟩
  · rw [if_pos a, b]
  · rw [if_neg (by omega), b]

end Go.Proofs.YtkiopgegdkeojaaGreatDoor.Walks
