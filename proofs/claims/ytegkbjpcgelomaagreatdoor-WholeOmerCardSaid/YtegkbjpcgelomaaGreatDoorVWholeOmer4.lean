/- The days of a year's feasts, fasts and named Sabbaths are dates of the year, on the days that the tables tell. No program in sight. -/
import Derived.Test.YtegkbjpcgelomaaGreatDoorVWholeOmer2
import Derived.Test.YtegkbjpcgelomaaGreatDoorZ15
import Derived.Test.YtegkbjpcgelomaaGreatDoorVWholeOmer1
import Derived.Test.YtegkbjpcgelomaaGreatDoorZ18
import Derived.Test.YtegkbjpcgelomaaGreatDoorZ17
import Derived.Test.YtegkbjpcgelomaaGreatDoorVWholeOmer3
set_option linter.unusedVariables false
set_option linter.unusedSimpArgs false
section
namespace Go.Proofs.YtegkbjpcgelomaaGreatDoor.Math
open Go Go.RowKit Go.Proofs.YtegkbjpcgelomaaGreatDoor.Plain Go.Proofs.YtegkbjpcgelomaaGreatDoor.Walks

/-- What the tables tell: of a kind, a month's number, whether it is the leap one, a day, a weekday. -/
def tbl (K n d : Int) (c : Bool) (w : Int) : Prop :=
  (K = 2 → (n = 1 ∧ d = 3 ∧ w ≠ 6) ∨ (n = 1 ∧ d = 4 ∧ w = 0)) ∧
  (K = 3 → n = 1 ∧ d = 10) ∧
  (K = 10 → n = 4 ∧ d = 10 ∧ w ≠ 6) ∧
  (K = 13 → (n = 6 ∧ d = 13 ∧ w ≠ 6) ∨ (n = 6 ∧ d = 11 ∧ w = 4)) ∧
  (K = 14 → n = 6 ∧ d = 14 ∧ c = false) ∧
  (K = 16 → (n = 7 ∧ d = 14 ∧ w ≠ 6) ∨ (n = 7 ∧ d = 12 ∧ w = 4)) ∧
  (K = 26 → (n = 10 ∧ d = 17 ∧ w ≠ 6) ∨ (n = 10 ∧ d = 18 ∧ w = 0)) ∧
  (K = 27 → (n = 11 ∧ d = 9 ∧ w ≠ 6) ∨ (n = 11 ∧ d = 10 ∧ w = 0)) ∧
  (K = 21 → (n = 8 ∧ d = 5 ∧ w = 3) ∨ (n = 8 ∧ d = 4 ∧ w = 4) ∨ (n = 8 ∧ d = 3 ∧ w = 4) ∨ (n = 8 ∧ d = 6 ∧ w = 2)) ∧
  (30 ≤ K → w = 6)
/-- An event of a year on a day of that year that the tables let be. -/
def evOK (y : Int) (e : Int × Int) : Prop := 1 ≤ e.1 ∧ e.1 ≤ 37 ∧ ∃ (j : Nat) (d : Int), HV y j d ∧ hd y j d = e.2 ∧ tbl e.1 (cN (lp y) j) d (cL (lp y) j) (e.2 % 7)

theorem hd_year {y D : Int} (h0 : 1 ≤ y) (h1 : y ≤ 9999) (a : fy y ≤ D) (b : D < fy (y + 1)) : ∃ (j : Nat) (d : Int), HV y j d ∧ hd y j d = D := by
  have k := kln_mah h0 h1
  unfold kln at k
  obtain ⟨j, u, v, w⟩ := month_at (kk y) (lp y) (mct (lp y)) (D - fy y + 1) (by omega) (by omega)
  exact ⟨j, D - fy y + 1 - mah (kk y) (lp y) j, ⟨h0, h1, u, by omega, by simp only [mah] at w; omega⟩, by unfold hd; omega⟩
/-- A kind of which the tables tell nothing. -/
def bare (K : Int) : Prop := 1 ≤ K ∧ K ≤ 29 ∧ K ≠ 2 ∧ K ≠ 3 ∧ K ≠ 10 ∧ K ≠ 13 ∧ K ≠ 14 ∧ K ≠ 16 ∧ K ≠ 26 ∧ K ≠ 27 ∧ K ≠ 21
theorem tbl_bare {K n d : Int} {c : Bool} {w : Int} (h : bare K) : tbl K n d c w := by unfold bare at h; unfold tbl; omega
theorem ev_bare {y K D : Int} (h0 : 1 ≤ y) (h1 : y ≤ 9999) (h : bare K) (a : fy y ≤ D) (b : D < fy (y + 1)) : evOK y (K, D) := by
  obtain ⟨j, d, H, e⟩ := hd_year h0 h1 a b
  exact ⟨h.1, by have := h.2.1; show K ≤ 37; omega, j, d, H, e, tbl_bare h⟩
theorem ev_rest {y K D : Int} (h0 : 1 ≤ y) (h1 : y ≤ 9999) (k0 : 30 ≤ K) (k1 : K ≤ 37) (a : fy y ≤ D) (b : D < fy (y + 1)) (w : D % 7 = 6) : evOK y (K, D) := by
  obtain ⟨j, d, H, e⟩ := hd_year h0 h1 a b
  refine ⟨by show 1 ≤ K; omega, k1, j, d, H, e, ?_⟩
  show tbl K _ _ _ (D % 7)
  unfold tbl
  omega
/-- The days behind a date, far from the year's end. -/
theorem far_in {y : Int} (h0 : 1 ≤ y) (h1 : y ≤ 9999) {j : Nat} (hj : j + 2 ≤ mct (lp y)) {m : Int} (a : -29 * (j : Int) < m) (b : m ≤ 58) : fy y ≤ hd y j 1 + m - 1 ∧ hd y j 1 + m - 1 < fy (y + 1) := by
  have k := kln_mah h0 h1
  unfold kln at k
  have r := mah_range (kk y) (lp y) j
  have s := mah_le (kk y) (lp y) (i := j) (j := mct (lp y)) (by omega)
  have t : (2 : Int) ≤ (mct (lp y) : Int) - j := by omega
  unfold hd
  constructor
  · omega
  · omega
theorem fJ_far : ∀ l : Bool, ∀ i, i < 19 → fH l i = true → fJ l i + 2 ≤ mct l := by decide
theorem fK_all : ∀ i, i < 19 → i = 1 ∨ i = 10 ∨ (1 ≤ fK i ∧ fK i ≤ 29 ∧ fK i ≠ 2 ∧ fK i ≠ 3 ∧ fK i ≠ 10 ∧ fK i ≠ 13 ∧ fK i ≠ 14 ∧ fK i ≠ 16 ∧ fK i ≠ 26 ∧ fK i ≠ 27 ∧ fK i ≠ 21) := by decide
theorem evs_ok {y p : Int} (h0 : 1 ≤ y) (h1 : y ≤ 9999) (e : Int × Int) (he : e ∈ evs y p) : evOK y e := by
  unfold evs at he
  obtain ⟨i, hi, he⟩ := List.mem_flatMap.1 he
  have hi : i < 19 := List.mem_range.1 hi
  unfold evr at he
  split at he
  case isFalse => cases he
  case isTrue hH =>
  obtain ⟨m, hm, rfl⟩ := List.mem_map.1 he
  have hm := List.mem_range.1 hm
  have T := fFT p hi
  have hF : fdy y i = hd y (fJ (lp y) i) 1 := by unfold fdy; rw [if_pos hH]
  have far := far_in h0 h1 (fJ_far (lp y) i hi hH) (m := fF p i + (m : Int)) (by omega) (by omega)
  obtain ⟨j1, cn, cl⟩ := fJ_ok (lp y) i hi hH
  rcases fK_all i hi with rfl | rfl | hb
  · have f : fF p 1 = 10 := by unfold fF fA fC; split <;> rfl
    have t : fT p 1 = 10 := by unfold fT fB fD; split <;> rfl
    have hm0 : m = 0 := by omega
    subst hm0
    have ml := mlen_range (kk y) (lp y) (fJ (lp y) 1)
    refine ⟨by show (1 : Int) ≤ 3; omega, by show (3 : Int) ≤ 37; omega, fJ (lp y) 1, 10, ⟨h0, h1, j1, by omega, by omega⟩, ?_, ?_⟩
    · show _ = fdy y 1 + (fF p 1 + ((0 : Nat) : Int)) - 1
      rw [hF, f]; unfold hd; omega
    · show tbl 3 _ _ _ _
      rw [cn, cl]
      unfold tbl
      refine ⟨by omega, fun _ => ⟨rfl, rfl⟩, by omega, by omega, by omega, by omega, by omega, by omega, by omega, by omega⟩
  · have f : fF p 10 = 14 := by unfold fF fA fC; split <;> rfl
    have t : fT p 10 = 14 := by unfold fT fB fD; split <;> rfl
    have hm0 : m = 0 := by omega
    subst hm0
    have ml := mlen_range (kk y) (lp y) (fJ (lp y) 10)
    refine ⟨by show (1 : Int) ≤ 14; omega, by show (14 : Int) ≤ 37; omega, fJ (lp y) 10, 14, ⟨h0, h1, j1, by omega, by omega⟩, ?_, ?_⟩
    · show _ = fdy y 10 + (fF p 10 + ((0 : Nat) : Int)) - 1
      rw [hF, f]; unfold hd; omega
    · show tbl 14 _ _ _ _
      rw [cn, cl]
      unfold tbl
      refine ⟨by omega, by omega, by omega, by omega, fun _ => ⟨rfl, rfl, rfl⟩, by omega, by omega, by omega, by omega, by omega⟩
  · exact ev_bare h0 h1 hb (by rw [hF]; omega) (by rw [hF]; omega)

/-! ### the fasts and the days that are moved -/
theorem wd_year {y : Int} (h0 : 0 ≤ y) (h1 : y ≤ 10000) : fy y % 7 ≠ 0 ∧ fy y % 7 ≠ 3 ∧ fy y % 7 ≠ 5 := by
  have h := year_facts y.toNat (by omega)
  rw [show ((y.toNat : Nat) : Int) = y from by omega] at h
  obtain ⟨-, -, a, b, c⟩ := h
  exact ⟨by simpa using a, by simpa using b, by simpa using c⟩
theorem kk_in {y : Int} (h0 : 1 ≤ y) (h1 : y ≤ 9999) : kk y = 0 ∨ kk y = 1 ∨ kk y = 2 := by
  obtain ⟨-, b, c⟩ := kk_leap h0 h1
  omega
theorem dJ_all : ∀ i, i < 9 → ∀ l : Bool, dJ l (xN i) < mct l ∧ cN l (dJ l (xN i)) = xN i ∧ cL l (dJ l (xN i)) = false := by decide
/-- 10 Tevet is never a Sabbath. -/
theorem tevet {y : Int} (h0 : 1 ≤ y) (h1 : y ≤ 9999) : dyn y 4 10 % 7 ≠ 6 := by
  have k := kln_mah h0 h1
  have a := wd_year (y := y) (by omega) (by omega)
  have b := wd_year (y := y + 1) (by omega) (by omega)
  rw [mah_all _ _ (by rcases kk_in h0 h1 with q | q | q <;> omega) (by rcases kk_in h0 h1 with q | q | q <;> omega)] at k
  unfold kln at k
  have e : dyn y 4 10 = fy y + mah (kk y) (lp y) 3 + 9 := by
    unfold dyn hd
    rw [show dJ (lp y) 4 = 3 by cases lp y <;> rfl]; omega
  rcases kk_in h0 h1 with q | q | q <;> cases l : lp y <;> rw [q, l] at e k <;> simp [mah, mlen] at e k <;> omega
/-- 5 Iyar: which weekdays it may have. -/
theorem iyar {y : Int} (h0 : 1 ≤ y) (h1 : y ≤ 9999) : dyn y 8 5 % 7 = 1 ∨ dyn y 8 5 % 7 = 3 ∨ dyn y 8 5 % 7 = 5 ∨ dyn y 8 5 % 7 = 6 := by
  have k := kln_mah h0 h1
  have b := wd_year (y := y + 1) (by omega) (by omega)
  unfold kln at k
  have e : dyn y 8 5 = fy y + mah (kk y) (lp y) (dJ (lp y) 8) + 4 := by unfold dyn hd; omega
  rcases kk_in h0 h1 with q | q | q <;> cases l : lp y <;> rw [q, l] at e k <;> simp [mah, mlen, mct, dJ] at e k <;> omega
theorem w7 (F : Int) : F % 7 = 0 ∨ F % 7 = 1 ∨ F % 7 = 2 ∨ F % 7 = 3 ∨ F % 7 = 4 ∨ F % 7 = 5 ∨ F % 7 = 6 := by omega
theorem mv_2 (F : Int) : tbl 2 1 (3 + mvf 2 (F % 7)) false ((F + mvf 2 (F % 7)) % 7) := by
  rcases w7 F with q | q | q | q | q | q | q
  all_goals first | (exfalso; omega) | (rw [q]; simp [mvf]; unfold tbl; omega)
theorem mv_10 (F : Int) (h : F % 7 ≠ 6) : tbl 10 4 (10 + mvf 10 (F % 7)) false ((F + mvf 10 (F % 7)) % 7) := by
  rcases w7 F with q | q | q | q | q | q | q
  all_goals first | (exfalso; omega) | (rw [q]; simp [mvf]; unfold tbl; omega)
theorem mv_13 (F : Int) : tbl 13 6 (13 + mvf 13 (F % 7)) false ((F + mvf 13 (F % 7)) % 7) := by
  rcases w7 F with q | q | q | q | q | q | q
  all_goals first | (exfalso; omega) | (rw [q]; simp [mvf]; unfold tbl; omega)
theorem mv_16 (F : Int) : tbl 16 7 (14 + mvf 16 (F % 7)) false ((F + mvf 16 (F % 7)) % 7) := by
  rcases w7 F with q | q | q | q | q | q | q
  all_goals first | (exfalso; omega) | (rw [q]; simp [mvf]; unfold tbl; omega)
theorem mv_19 (F : Int) : tbl 19 7 (27 + mvf 19 (F % 7)) false ((F + mvf 19 (F % 7)) % 7) := by
  rcases w7 F with q | q | q | q | q | q | q
  all_goals first | (exfalso; omega) | (rw [q]; simp [mvf]; unfold tbl; omega)
theorem mv_21 (F : Int) (h : F % 7 = 1 ∨ F % 7 = 3 ∨ F % 7 = 5 ∨ F % 7 = 6) : tbl 21 8 (5 + mvf 21 (F % 7)) false ((F + mvf 21 (F % 7)) % 7) := by
  rcases w7 F with q | q | q | q | q | q | q
  all_goals first | (exfalso; omega) | (rw [q]; simp [mvf]; unfold tbl; omega)
theorem mv_24 (F : Int) : tbl 24 8 (28 + mvf 24 (F % 7)) false ((F + mvf 24 (F % 7)) % 7) := by
  rcases w7 F with q | q | q | q | q | q | q
  all_goals first | (exfalso; omega) | (rw [q]; simp [mvf]; unfold tbl; omega)
theorem mv_26 (F : Int) : tbl 26 10 (17 + mvf 26 (F % 7)) false ((F + mvf 26 (F % 7)) % 7) := by
  rcases w7 F with q | q | q | q | q | q | q
  all_goals first | (exfalso; omega) | (rw [q]; simp [mvf]; unfold tbl; omega)
theorem mv_27 (F : Int) : tbl 27 11 (9 + mvf 27 (F % 7)) false ((F + mvf 27 (F % 7)) % 7) := by
  rcases w7 F with q | q | q | q | q | q | q
  all_goals first | (exfalso; omega) | (rw [q]; simp [mvf]; unfold tbl; omega)
theorem xep_ok {y : Int} (h0 : 1 ≤ y) (h1 : y ≤ 9999) (e : Int × Int) (he : e ∈ xep y 9) : evOK y e := by
  unfold xep at he
  obtain ⟨i, hi, he⟩ := List.mem_flatMap.1 he
  have hi : i < 9 := List.mem_range.1 hi
  obtain ⟨j1, cn, cl⟩ := dJ_all i hi (lp y)
  have ml := mlen_range (kk y) (lp y) (dJ (lp y) (xN i))
  -- a date of that month
  have at_ : ∀ (K : Int) (v : Int), 1 ≤ K → K ≤ 37 → 1 ≤ xD i + v → xD i + v ≤ 29 → tbl K (xN i) (xD i + v) false ((dyn y (xN i) (xD i) + v) % 7) → evOK y (K, dyn y (xN i) (xD i) + v) := fun K v k0 k1 d0 d1 t =>
    ⟨k0, k1, dJ (lp y) (xN i), xD i + v, ⟨h0, h1, j1, d0, by omega⟩, by show _ = dyn y (xN i) (xD i) + v; unfold dyn hd; omega, by rw [cn, cl]; exact t⟩
  have tv := tevet h0 h1
  have iy := iyar h0 h1
  have c : i = 0 ∨ i = 1 ∨ i = 2 ∨ i = 3 ∨ i = 4 ∨ i = 5 ∨ i = 6 ∨ i = 7 ∨ i = 8 := by omega
  rcases c with rfl | rfl | rfl | rfl | rfl | rfl | rfl | rfl | rfl
  · replace he : e = (2, dyn y 1 3 + mvf 2 (dyn y 1 3 % 7)) := by simpa [xev, xdy, xK, xN, xD] using he
    subst he
    have hD : xD 0 = 3 := rfl
    have mv := mvf_range 2 (dyn y 1 3 % 7)
    exact at_ 2 _ (by decide) (by decide) (by omega) (by omega) (mv_2 (dyn y 1 3))
  · replace he : e = (10, dyn y 4 10 + mvf 10 (dyn y 4 10 % 7)) := by simpa [xev, xdy, xK, xN, xD] using he
    subst he
    have hD : xD 1 = 10 := rfl
    have mv := mvf_range 10 (dyn y 4 10 % 7)
    exact at_ 10 _ (by decide) (by decide) (by omega) (by omega) (mv_10 (dyn y 4 10) tv)
  · replace he : e = (13, dyn y 6 13 + mvf 13 (dyn y 6 13 % 7)) := by simpa [xev, xdy, xK, xN, xD] using he
    subst he
    have hD : xD 2 = 13 := rfl
    have mv := mvf_range 13 (dyn y 6 13 % 7)
    exact at_ 13 _ (by decide) (by decide) (by omega) (by omega) (mv_13 (dyn y 6 13))
  · replace he : e = (16, dyn y 7 14 + mvf 16 (dyn y 7 14 % 7)) := by simpa [xev, xdy, xK, xN, xD] using he
    subst he
    have hD : xD 3 = 14 := rfl
    have mv := mvf_range 16 (dyn y 7 14 % 7)
    exact at_ 16 _ (by decide) (by decide) (by omega) (by omega) (mv_16 (dyn y 7 14))
  · replace he : e = (19, dyn y 7 27 + mvf 19 (dyn y 7 27 % 7)) := by simpa [xev, xdy, xK, xN, xD] using he
    subst he
    have hD : xD 4 = 27 := rfl
    have mv := mvf_range 19 (dyn y 7 27 % 7)
    exact at_ 19 _ (by decide) (by decide) (by omega) (by omega) (mv_19 (dyn y 7 27))
  · replace he : e = (21, dyn y 8 5 + mvf 21 (dyn y 8 5 % 7)) ∨ e = (20, dyn y 8 5 + mvf 21 (dyn y 8 5 % 7) - 1) := by simpa [xev, xdy, xK, xN, xD] using he
    have hD : xD 5 = 5 := rfl
    have mv := mvf_range 21 (dyn y 8 5 % 7)
    rcases he with rfl | rfl
    · exact at_ 21 _ (by decide) (by decide) (by omega) (by omega) (mv_21 (dyn y 8 5) iy)
    · rw [show dyn y 8 5 + mvf 21 (dyn y 8 5 % 7) - 1 = dyn y 8 5 + (mvf 21 (dyn y 8 5 % 7) - 1) by omega]
      exact at_ 20 _ (by decide) (by decide) (by omega) (by omega) (tbl_bare (by unfold bare; omega))
  · replace he : e = (24, dyn y 8 28 + mvf 24 (dyn y 8 28 % 7)) := by simpa [xev, xdy, xK, xN, xD] using he
    subst he
    have hD : xD 6 = 28 := rfl
    have mv := mvf_range 24 (dyn y 8 28 % 7)
    exact at_ 24 _ (by decide) (by decide) (by omega) (by omega) (mv_24 (dyn y 8 28))
  · replace he : e = (26, dyn y 10 17 + mvf 26 (dyn y 10 17 % 7)) := by simpa [xev, xdy, xK, xN, xD] using he
    subst he
    have hD : xD 7 = 17 := rfl
    have mv := mvf_range 26 (dyn y 10 17 % 7)
    exact at_ 26 _ (by decide) (by decide) (by omega) (by omega) (mv_26 (dyn y 10 17))
  · replace he : e = (27, dyn y 11 9 + mvf 27 (dyn y 11 9 % 7)) := by simpa [xev, xdy, xK, xN, xD] using he
    subst he
    have hD : xD 8 = 9 := rfl
    have mv := mvf_range 27 (dyn y 11 9 % 7)
    exact at_ 27 _ (by decide) (by decide) (by omega) (by omega) (mv_27 (dyn y 11 9))

/-! ### the Sabbaths with names -/
theorem sJ_far : ∀ l : Bool, ∀ i, i < 8 → dJ l (sN i) + 2 ≤ mct l ∧ (i = 0 ∨ 1 ≤ dJ l (sN i)) := by decide
theorem sep_ok {y : Int} (h0 : 1 ≤ y) (h1 : y ≤ 9999) (e : Int × Int) (he : e ∈ sep y 8) : evOK y e := by
  unfold sep at he
  obtain ⟨i, hi, rfl⟩ := List.mem_map.1 he
  have hi : i < 8 := List.mem_range.1 hi
  obtain ⟨j2, j0⟩ := sJ_far (lp y) i hi
  have hs := s_ok i hi
  have e1 : dyn y (sN i) (sD i) = hd y (dJ (lp y) (sN i)) 1 + sD i - 1 := by unfold dyn hd; omega
  have key : ∃ v, sdy y i = dyn y (sN i) (sD i) + v ∧ v ≤ 14 ∧ (-14 ≤ v) ∧ (i = 0 → 0 ≤ v) ∧ sdy y i % 7 = 6 := by
    refine ⟨sdy y i - dyn y (sN i) (sD i), by omega, ?_⟩
    have r := sNear_range i (dyn y (sN i) (sD i))
    have x7 : sX i % 7 = 0 := by
      have : ∀ i, i < 8 → sX i % 7 = 0 := by decide
      exact this i hi
    have w : sNear i (dyn y (sN i) (sD i)) % 7 = 6 := by unfold sNear saF saU; split <;> omega
    unfold sdy
    refine ⟨by omega, by omega, ?_, by omega⟩
    rintro rfl
    have : sNear 0 (dyn y (sN 0) (sD 0)) = saF (dyn y (sN 0) (sD 0)) := rfl
    rw [this]
    have : sX 0 = 0 := rfl
    unfold saF
    omega
  obtain ⟨v, ev, v1, v0, vz, w⟩ := key
  have far := far_in h0 h1 j2 (m := sD i + v) (by
    rcases j0 with rfl | j0
    · have := vz rfl; omega
    · omega) (by omega)
  have k37 : 30 ≤ sK i ∧ sK i ≤ 37 := by
    have : ∀ i, i < 8 → 30 ≤ sK i ∧ sK i ≤ 37 := by decide
    exact this i hi
  exact ev_rest h0 h1 k37.1 k37.2 (by omega) (by omega) w

/-! ### new moons' days -/
theorem ch_ok {y : Int} (h0 : 1 ≤ y) (h1 : y ≤ 9999) (D : Int) (hD : D ∈ chL (kk y) (lp y) (fy y) (mct (lp y))) : evOK y (29, D) := by
  obtain ⟨i, hi, rfl⟩ := List.getElem_of_mem hD
  obtain ⟨j, d, H, e, -⟩ := chL_at h0 h1 hi
  have e : (chL (kk y) (lp y) (fy y) (mct (lp y)))[i] = hd y j d := by rw [← e]; simp [List.getD, hi]
  rw [e]
  exact ⟨(by decide : (1 : Int) ≤ 29), (by decide : (29 : Int) ≤ 37), j, d, H, rfl, tbl_bare (by unfold bare; omega)⟩
end Go.Proofs.YtegkbjpcgelomaaGreatDoor.Math
end
/- The days of Pesach, Lag BaOmer and Shavuot out of a year's sorted feasts; the days that are counted. No program in sight. -/
section
namespace Go.Proofs.YtegkbjpcgelomaaGreatDoor.Math
open Go Go.RowKit Go.Proofs.YtegkbjpcgelomaaGreatDoor.Plain Go.Proofs.YtegkbjpcgelomaaGreatDoor.Walks

/-- The day of a kind's first event. -/
def atf : List (Int × Int) → Int → Int
  | [], _ => 0
  | e :: r, K => if e.1 = K then e.2 else atf r K
theorem atf_drop {M : List (Int × Int)} {i : Nat} {e : Int × Int} (h : M[i]? = some e) (K : Int) : atf (M.drop i) K = if e.1 = K then e.2 else atf (M.drop (i + 1)) K := by
  obtain ⟨hi, q⟩ := List.getElem?_eq_some_iff.1 h
  rw [List.drop_eq_getElem_cons hi, q]
  rfl
theorem atf_min {M : List (Int × Int)} (S : M.Pairwise (fun x y => evc y x ≥ 0)) {K D : Int} (h : (K, D) ∈ M) (hmin : ∀ e, e ∈ M → e.1 = K → D ≤ e.2) : atf M K = D := by
  induction M with
  | nil => cases h
  | cons e r ih =>
    obtain ⟨S1, S2⟩ := List.pairwise_cons.1 S
    unfold atf
    by_cases q : e.1 = K
    · rw [if_pos q]
      have a := hmin e (List.mem_cons_self ..) q
      rcases List.mem_cons.1 h with rfl | h
      · rfl
      · have b := S1 _ h
        unfold evc at b
        by_cases z : D < e.2
        · rw [if_pos z] at b; omega
        · omega
    · rw [if_neg q]
      refine ih S2 ?_ (fun e he => hmin e (List.mem_cons_of_mem _ he))
      rcases List.mem_cons.1 h with rfl | h
      · exact absurd rfl q
      · exact h
/-- Where the month of Pesach begins. -/
def omP (y : Int) : Int := hd y (fJ (lp y) 12) 1
theorem om_J (l : Bool) : fH l 12 = true ∧ fH l 14 = true ∧ fH l 16 = true ∧ fH l 17 = true ∧ fJ l 14 = fJ l 12 ∧ fJ l 16 = fJ l 12 + 1 ∧ fJ l 17 = fJ l 12 + 2 ∧ p7 l = fJ l 12 ∧ fJ l 12 + 4 ≤ mct l ∧ 6 ≤ fJ l 12 ∧ fJ l 12 ≤ 7 := by cases l <;> decide
theorem om_len (kd : Int) (l : Bool) : mlen kd l (fJ l 12) = 30 ∧ mlen kd l (fJ l 12 + 1) = 29 := by cases l <;> simp [mlen, fJ, fL, fN]
theorem om_fdy (y : Int) : fdy y 12 = omP y ∧ fdy y 14 = omP y ∧ fdy y 16 = omP y + 30 ∧ fdy y 17 = omP y + 59 ∧ omS y = omP y + 14 := by
  obtain ⟨a, b, c, d, e, f, g, h, -⟩ := om_J (lp y)
  obtain ⟨u, v⟩ := om_len (kk y) (lp y)
  have m1 : mah (kk y) (lp y) (fJ (lp y) 12 + 1) = mah (kk y) (lp y) (fJ (lp y) 12) + 30 := by simp only [mah, u]
  have m2 : mah (kk y) (lp y) (fJ (lp y) 12 + 2) = mah (kk y) (lp y) (fJ (lp y) 12) + 59 := by
    show mah (kk y) (lp y) (fJ (lp y) 12 + 1) + mlen (kk y) (lp y) (fJ (lp y) 12 + 1) = _
    rw [m1, v]; omega
  unfold fdy omS omP
  rw [if_pos a, if_pos b, if_pos c, if_pos d, e, f, g, h]
  unfold hd
  rw [m1, m2]
  refine ⟨rfl, rfl, by omega, by omega, by omega⟩
theorem om_in (y : Int) (i : Nat) (hi : i < 19) (hH : fH (lp y) i = true) (h : fF 1 i ≤ fT 1 i) : (fK i, fdy y i + fF 1 i - 1) ∈ evs y 1 := by
  unfold evs
  refine List.mem_flatMap.2 ⟨i, List.mem_range.2 hi, ?_⟩
  unfold evr
  rw [if_pos hH]
  exact List.mem_map.2 ⟨0, List.mem_range.2 (by omega), by simp⟩
theorem om_of {y : Int} {e : Int × Int} (he : e ∈ evs y 1) : ∃ i m : Nat, i < 19 ∧ (m : Int) ≤ fT 1 i - fF 1 i ∧ e = (fK i, fdy y i + (fF 1 i + (m : Int)) - 1) := by
  unfold evs at he
  obtain ⟨i, hi, he⟩ := List.mem_flatMap.1 he
  unfold evr at he
  split at he
  case isFalse => cases he
  case isTrue hH =>
  obtain ⟨m, hm, rfl⟩ := List.mem_map.1 he
  have hm := List.mem_range.1 hm
  exact ⟨i, m, List.mem_range.1 hi, by omega, rfl⟩
theorem om_K : ∀ i, i < 19 → (fK i = 25 → i = 17) ∧ (fK i = 23 → i = 16) ∧ (fK i = 17 → i = 12 ∨ i = 14) := by decide
theorem om_F : fF 1 12 = 15 ∧ fT 1 12 = 15 ∧ fF 1 14 = 21 ∧ fT 1 14 = 21 ∧ fF 1 16 = 18 ∧ fT 1 16 = 18 ∧ fF 1 17 = 6 ∧ fT 1 17 = 6 := by decide
theorem om_at {y : Int} {M : List (Int × Int)} (P : M.Perm (evs y 1)) (S : M.Pairwise (fun x y => evc y x ≥ 0)) : atf M 25 = omP y + 64 ∧ atf M 23 = omP y + 47 ∧ atf M 17 = omP y + 14 := by
  obtain ⟨a, b, c, d, -⟩ := om_J (lp y)
  obtain ⟨e12, e14, e16, e17, -⟩ := om_fdy y
  obtain ⟨f1, f2, f3, f4, f5, f6, f7, f8⟩ := om_F
  refine ⟨atf_min S (P.mem_iff.2 ?_) (fun e he q => ?_), atf_min S (P.mem_iff.2 ?_) (fun e he q => ?_), atf_min S (P.mem_iff.2 ?_) (fun e he q => ?_)⟩
  · have := om_in y 17 (by omega) d (by omega)
    rw [e17, f7, show fK 17 = 25 from rfl] at this
    rwa [show omP y + 59 + 6 - 1 = omP y + 64 by omega] at this
  · obtain ⟨i, m, hi, hm, rfl⟩ := om_of (P.mem_iff.1 he)
    obtain rfl := (om_K i hi).1 q
    show _ ≤ fdy y 17 + (fF 1 17 + (m : Int)) - 1
    omega
  · have := om_in y 16 (by omega) c (by omega)
    rw [e16, f5, show fK 16 = 23 from rfl] at this
    rwa [show omP y + 30 + 18 - 1 = omP y + 47 by omega] at this
  · obtain ⟨i, m, hi, hm, rfl⟩ := om_of (P.mem_iff.1 he)
    obtain rfl := (om_K i hi).2.1 q
    show _ ≤ fdy y 16 + (fF 1 16 + (m : Int)) - 1
    omega
  · have := om_in y 12 (by omega) a (by omega)
    rw [e12, f1, show fK 12 = 17 from rfl] at this
    rwa [show omP y + 15 - 1 = omP y + 14 by omega] at this
  · obtain ⟨i, m, hi, hm, rfl⟩ := om_of (P.mem_iff.1 he)
    rcases (om_K i hi).2.2 q with rfl | rfl
    · show _ ≤ fdy y 12 + (fF 1 12 + (m : Int)) - 1
      omega
    · show _ ≤ fdy y 14 + (fF 1 14 + (m : Int)) - 1
      omega
/-- These days are dates of the year. -/
theorem om_hv {y x : Int} (h0 : 1 ≤ y) (h1 : y ≤ 9999) (a : 0 ≤ x) (b : x ≤ 64) : ∃ (j : Nat) (d : Int), HV y j d ∧ hd y j d = omP y + x := by
  obtain ⟨-, -, -, -, -, -, g, -, m, m6, -⟩ := om_J (lp y)
  obtain ⟨-, -, -, e17, -⟩ := om_fdy y
  have f12 := far_in h0 h1 (j := fJ (lp y) 12) (by omega) (m := 1) (by omega) (by omega)
  have f17 := far_in h0 h1 (j := fJ (lp y) 12 + 2) (by omega) (m := 6) (by omega) (by omega)
  have q : fdy y 17 = hd y (fJ (lp y) 12 + 2) 1 := by unfold fdy; rw [if_pos (om_J (lp y)).2.2.2.1, g]
  have p : omP y = hd y (fJ (lp y) 12) 1 := rfl
  exact hd_year h0 h1 (by omega) (by omega)
end Go.Proofs.YtegkbjpcgelomaaGreatDoor.Math
end
/- WholeOmer, walked. -/
section
namespace Go.Proofs.YtegkbjpcgelomaaGreatDoor.Walks
open Go Go.RowKit Go.Sort Go.Proofs.YtegkbjpcgelomaaGreatDoor.Base Go.Proofs.YtegkbjpcgelomaaGreatDoor.Plain Go.Proofs.YtegkbjpcgelomaaGreatDoor.Math

/-- The forty cells of the days by kinds. -/
structure A40 (w : World) (b : Nat) (f : Int → Int) : Prop where
  ex : ∃ cs : Array Value, w.heap[b]? = some (.cells cs 69 (0, 0)) ∧ cs.size = 40 ∧ ∀ k : Nat, k < 40 → cs[k]? = some (.int .i64 (f (k : Int)))
theorem A40.lt {w : World} {b : Nat} {f : Int → Int} (h : A40 w b f) : b < w.heap.size := by obtain ⟨cs, q, -⟩ := h.ex; exact heap_lt q
theorem A40.c {w : World} {b : Nat} {f : Int → Int} (h : A40 w b f) (k : Nat) (hk : k < 40) : w.cell? ⟨b, k, none⟩ = some (.int .i64 (f (k : Int))) := by obtain ⟨cs, q, -, r⟩ := h.ex; exact cellh q (r k hk)
theorem A40.z {w : World} {b : Nat} {f : Int → Int} (h : A40 w b f) (k : Nat) : w.frozen? ⟨b, k, none⟩ = false := by obtain ⟨cs, q, -⟩ := h.ex; exact froz q k
theorem A40.gr {w w' : World} {b : Nat} {f : Int → Int} (h : A40 w b f) (g : Gr w w') : A40 w' b f := by
  obtain ⟨cs, q, r⟩ := h.ex
  exact ⟨cs, (g.heap (heap_lt q)).trans q, r⟩
theorem A40.set {w : World} {b : Nat} {f g : Int → Int} (h : A40 w b f) (k : Nat) (hk : k < 40) (D : Int) (e : ∀ j : Nat, j < 40 → g (j : Int) = if j = k then D else f (j : Int)) : A40 (w.setCell ⟨b, k, none⟩ (.int .i64 D)) b g := by
  obtain ⟨cs, q, hs, r⟩ := h.ex
  refine ⟨_, set_heap q, by simpa using hs, fun j hj => ?_⟩
  rw [e j hj]
  by_cases z : j = k
  · subst z
    rw [if_pos rfl]
    simp [hs, hj]
  · rw [if_neg z, Array.getElem?_setIfInBounds_ne (Ne.symm z)]
    exact r j hj
theorem A40.new (w : World) (cs : Array Value) (h : cs = Array.replicate 40 (.int .i64 0)) {f : Int → Int} (e : ∀ j : Nat, j < 40 → f (j : Int) = 0) : A40 (w.alloc (.cells cs 69)) w.heap.size f := by
  subst h
  refine ⟨_, heap_alloc_new w _, by simp, fun j hj => ?_⟩
  rw [e j hj]
  simp [hj]

/-- Three of these cells. -/
structure A3 (w : World) (b : Nat) (x z u : Int) : Prop where
  lt : b < w.heap.size
  c25 : w.cell? ⟨b, 25, none⟩ = some (.int .i64 x)
  c23 : w.cell? ⟨b, 23, none⟩ = some (.int .i64 z)
  c17 : w.cell? ⟨b, 17, none⟩ = some (.int .i64 u)
theorem A3.gr {w w' : World} {b : Nat} {x z u : Int} (h : A3 w b x z u) (g : Gr w w') : A3 w' b x z u := ⟨g.lt h.lt, g.keep h.lt h.c25, g.keep h.lt h.c23, g.keep h.lt h.c17⟩
/-- The count in what is said of a day. -/
structure Om9 (w : World) (b : Nat) (v : Int) : Prop where
  lt : b < w.heap.size
  c : w.cell? ⟨b, 9, none⟩ = some (.int .i64 v)
theorem Om9.gr {w w' : World} {b : Nat} {v : Int} (h : Om9 w b v) (g : Gr w w') : Om9 w' b v := ⟨g.lt h.lt, g.keep h.lt h.c⟩
theorem Om9.at (w : World) (n y N : Int) (c : Bool) (d Y M D wd om : Int) (ev : Value) (r0 r1 r2 : Int) : Om9 (w.alloc (.cells (abC n y N c d Y M D wd om ev r0 r1 r2) 74)) w.heap.size om :=
  ⟨by simp, cellh (heap_alloc_new w _) rfl⟩

set_option maxRecDepth 20000 in
set_option maxHeartbeats 16000000 in
theorem omer_law (y y0 P : Int) (w : World) (y00 : 0 ≤ y0) (y01 : y0 ≤ 65535) (h0 : 1 ≤ y) (h1 : y ≤ 9999) (P0 : -2000000 ≤ P) (P1 : P ≤ 3000000)
    (hat : ∀ M : List (Int × Int), M.Perm (evs y 1) → M.Pairwise (fun x y => evc y x ≥ 0) → atf M 25 = P + 64 ∧ atf M 23 = P + 47 ∧ atf M 17 = P + 14)
    (hk : ∀ e, e ∈ evs y 1 → 1 ≤ e.1 ∧ e.1 ≤ 37) (hlen : (evs y 1).length ≤ 152) (hpos : 0 < (evs y 1).length)
    (c1 : ∀ W, Calls Tryq.prog 13 #[.int .u16 y0] W fun e w' => e = .returned (.int .i64 y) ∧ Gr W w')
    (c2 : ∀ W, Gr w W → Calls Tryq.prog 31 #[.int .i64 y, .int .i64 1] W (OfE W (evs y 1)))
    (c3 : ∀ W, Gr w W → Calls Tryq.prog 35 #[.int .i64 (P + 64 - 1), .int .i64 1] W (DOf W (P + 64 - 1) 49))
    (c4 : ∀ W, Gr w W → Calls Tryq.prog 35 #[.int .i64 (P + 47), .int .i64 1] W (DOf W (P + 47) 33))
    (c5 : ∀ W, Gr w W → Calls Tryq.prog 35 #[.int .i64 (P + 14 + 1), .int .i64 1] W (DOf W (P + 14 + 1) 1))
    (c6 : ∀ W, Gr w W → Calls Tryq.prog 35 #[.int .i64 (P + 14), .int .i64 1] W (DOf W (P + 14) 0))
    (c7 : ∀ W, Gr w W → Calls Tryq.prog 11 #[] W fun e w' => e = .returned (.bool true) ∧ Gr W w') :
    Calls Tryq.prog 9 #[.int .u16 y0] w fun e w' => e = .returned (.bool true) ∧ Gr w w' := by
  have C1 := Lib.hid c1
  have C2 := Lib.hid c2
  have C3 := Lib.hid c3
  have C4 := Lib.hid c4
  have C5 := Lib.hid c5
  have C6 := Lib.hid c6
  have C7 := Lib.hid c7
  have HAT := Lib.hid hat
  have HK := Lib.hid hk
  clear c1 c2 c3 c4 c5 c6 c7 hat hk
  go_enter Tryq.func9, Tryq.ntmps9
  go_wp2_with (first
    | ((go_at_call 13; (with_reducible refine (C1.out _).mono ?_); rintro e wY ⟨rfl, hgwY⟩); have GY : Gr w wY := hgwY; clear hgwY)
    | (go_at_call 31; refine (C2.out _ ((by repeat (first | exact Gr.refl _ | refine Gr.setCell ?_ _ _ (by first | exact Nat.le_refl _ | (simp; omega) | (simp; done)) | refine Gr.grown ?_ _ _ | refine Gr.drewN ?_ _ | refine Gr.drew ?_ | refine Gr.alloc ?_ _ | refine Gr.grow ?_ _ | (refine Gr.trans ?_ (by assumption)))))).mono ?_; rintro e1 wA ⟨gE, capE, M, rfl, hP, hS, hE, hgA⟩; have GA : Gr w wA := GY.trans hgA; clear hgA GY; have hML := Lib.hid hP.length_eq; have hMK := Lib.hid (fun e (he : e ∈ M) => HK.out e (hP.mem_iff.1 he)); have hM1 : M.length ≤ 152 := (by rw [hML.out]; exact hlen); have hA := Lib.hid (HAT.out M hP hS); have hq : IntKind.i64.wrap ((M.length : Int) - 1) = (M.length : Int) - 1 := (by rw [IntKind.wrap_i64]; omega); clear hP hS HAT HK C1 C2))
  have HE := Lib.hid hE
  have hp : 0 < M.length := by rw [hML.out]; exact hpos
  go_loopg [7] M.length (fun kx s7 wr => ∃ (i : Nat) (z : Int), i ≤ M.length ∧ i ≤ kx ∧ s7 = .int .i64 z ∧ z = (i : Int) - 1 ∧ A40 wr wA.heap.size (atf (M.drop i)) ∧ Gr wA wr)
  case atStart => exact ⟨M.length, _, Nat.le_refl _, Nat.le_refl _, rfl, rfl, A40.new _ _ (by kernel_rfl) (fun j hj => by simp [atf]), (Gr.refl _).alloc _⟩
  case round =>
    obtain ⟨i, z, hi, hm', rfl, hz, hZ, hg⟩ := hrel
    rename World => wo
    by_cases ei : 1 ≤ i
    · obtain ⟨q, rfl⟩ : ∃ q, i = q + 1 := ⟨i - 1, by omega⟩
      obtain rfl : z = (q : Int) := by omega
      clear hz
      obtain ⟨x, hx⟩ : ∃ x, M[q]? = some x := ⟨_, List.getElem?_eq_getElem (by omega)⟩
      have hE2 := HE.out.gr hg
      obtain ⟨k0, k1⟩ := hE2.c q x hx
      rw [Nat.mul_comm] at k0 k1
      have hxK := hMK.out x (List.mem_of_getElem? hx)
      have hst := Lib.hid fun K' => atf_drop hx K'
      obtain ⟨K, D⟩ := x
      simp only at k0 k1 hxK hst
      obtain ⟨k, rfl⟩ : ∃ k : Nat, K = (k : Int) := ⟨K.toNat, by omega⟩
      have kp : (0 : Int) < (k : Int) := by omega
      have k40 : (k : Int) < 40 := by omega
      have hw : IntKind.i64.wrap (k : Int) = (k : Int) := by rw [IntKind.wrap_i64]; omega
      have hq2 : IntKind.i64.wrap ((q : Int) - 1) = (q : Int) - 1 := by rw [IntKind.wrap_i64]; omega
      have qM : (q : Int) < (M.length : Int) := by omega
      have g0 := gcell_in hE2.lt k0
      have g1 := gcell_in hE2.lt k1
      have hZ' := Lib.hid hZ
      clear hE2 hxK hZ hx hE
      go_wp2
      (refine wp_region_grown_tail 10 mixed (by kernel_rfl) ?_; simp only [List.take_succ_cons, List.take_zero, List.drop_succ_cons, List.drop_zero]; (repeat (first | go_big_quiet_step (fail) | quiet_step (fail))); refine wpQuiet_nil ?_; intro _ hw'; obtain ⟨⟨nq, osq⟩, hw''⟩ := hw'; subst hw'')
      generalize hW2 : grow (wo.drewN nq) osq = W2
      have GW2 : Gr wo W2 := by rw [← hW2]; exact (Gr.refl _).grown _ _
      have Z2 := hZ'.out.gr GW2
      have cK := Z2.c k (by omega)
      have zK := Z2.z k
      have lZ := Z2.lt
      clear hW2 g0 g1 k0 k1
      go_wp2
      go_roundg q
      case measure => omega
      case rel =>
        refine ⟨q, (q : Int) - 1, by omega, Nat.le_refl _, by go_num, rfl, Z2.set k (by omega) D (fun j hj => ?_), (hg.trans GW2).setCell _ _ (Nat.le_refl _)⟩
        rw [hst.out]
        by_cases e : j = k
        · subst e; rw [if_pos rfl, if_pos rfl]
        · rw [if_neg (by omega), if_neg e]
    · obtain rfl : i = 0 := by omega
      obtain rfl : z = -1 := by omega
      clear hz
      obtain ⟨a25, a23, a17⟩ := hA.out
      have T : A3 wo wA.heap.size (P + 64) (P + 47) (P + 14) := by
        have b25 := hZ.c 25 (by decide)
        have b23 := hZ.c 23 (by decide)
        have b17 := hZ.c 17 (by decide)
        rw [List.drop_zero] at b25 b23 b17
        rw [show atf M ((25 : Nat) : Int) = P + 64 from a25] at b25
        rw [show atf M ((23 : Nat) : Int) = P + 47 from a23] at b23
        rw [show atf M ((17 : Nat) : Int) = P + 14 from a17] at b17
        exact ⟨hZ.lt, b25, b23, b17⟩
      have gw : Gr w wo := GA.trans hg
      have w1 : IntKind.i64.wrap (P + 64 - 1) = P + 64 - 1 := by rw [IntKind.wrap_i64]; omega
      have w2 : IntKind.i64.wrap (P + 14 + 1) = P + 14 + 1 := by rw [IntKind.wrap_i64]; omega
      have w3 : IntKind.i64.wrap (P + 64 - (P + 14)) = P + 64 - (P + 14) := by rw [IntKind.wrap_i64]; omega
      have w4 : (P + 64 - (P + 14) == 50) = true := beq_iff_eq.2 (by omega)
      clear hZ hA a25 a23 a17 hML hMK hE HE hg GA hp hM1 hq hi hm' ei
      obtain ⟨t0, t25, t23, t17⟩ := id T
      go_wp2_with (first | (go_at_call 35; fail))
      go_at_call 35
      refine (C3.out _ gw).mono ?_
      rintro e1 wB ⟨y1, N1, k1, d1, Y1, M1, D1, v1, vp1, vl1, vc1, r1, s1, u1, rfl, hgwB⟩
      replace T := T.gr hgwB
      replace gw := gw.trans hgwB
      clear hgwB t0 t25 t23 t17
      obtain ⟨t0, t25, t23, t17⟩ := id T
      dsimp only [abC]
      go_wp2_with (first | (go_at_call 35; fail))
      go_at_call 35
      refine Calls.name ?_
      intro V1 hV1
      have X1 : Om9 V1 wB.heap.size 49 := by rw [hV1]; exact Om9.at wB (P + 64 - 1) y1 N1 k1 d1 Y1 M1 D1 v1 49 (.slice vp1 vl1 vc1) r1 s1 u1
      have gA : Gr wB V1 := by rw [hV1]; exact (Gr.refl _).alloc _
      replace T := T.gr gA
      replace gw := gw.trans gA
      clear hV1 gA
      refine (C4.out _ gw).mono ?_
      rintro e2 wC ⟨y2, N2, k2, d2, Y2, M2, D2, v2, vp2, vl2, vc2, r2, s2, u2, rfl, hgwC⟩
      replace T := T.gr hgwC
      replace gw := gw.trans hgwC
      replace X1 := X1.gr hgwC
      clear hgwC t0 t25 t23 t17
      obtain ⟨t0, t25, t23, t17⟩ := id T
      obtain ⟨lX1, cX1⟩ := id X1
      dsimp only [abC]
      go_wp2_with (first | (go_at_call 35; fail))
      go_at_call 35
      refine Calls.name ?_
      intro V2 hV2
      have X2 : Om9 V2 wC.heap.size 33 := by rw [hV2]; exact Om9.at wC (P + 47) y2 N2 k2 d2 Y2 M2 D2 v2 33 (.slice vp2 vl2 vc2) r2 s2 u2
      have gA : Gr wC V2 := by rw [hV2]; exact (Gr.refl _).alloc _
      replace T := T.gr gA
      replace gw := gw.trans gA
      replace X1 := X1.gr gA
      clear hV2 gA
      refine (C5.out _ gw).mono ?_
      rintro e3 wD ⟨y3, N3, k3, d3, Y3, M3, D3, v3, vp3, vl3, vc3, r3, s3, u3, rfl, hgwD⟩
      replace T := T.gr hgwD
      replace gw := gw.trans hgwD
      replace X1 := X1.gr hgwD
      replace X2 := X2.gr hgwD
      clear hgwD t0 t25 t23 t17
      obtain ⟨t0, t25, t23, t17⟩ := id T
      obtain ⟨lX1, cX1⟩ := id X1
      obtain ⟨lX2, cX2⟩ := id X2
      dsimp only [abC]
      go_wp2_with (first | (go_at_call 35; fail))
      go_at_call 35
      refine Calls.name ?_
      intro V3 hV3
      have X3 : Om9 V3 wD.heap.size 1 := by rw [hV3]; exact Om9.at wD (P + 14 + 1) y3 N3 k3 d3 Y3 M3 D3 v3 1 (.slice vp3 vl3 vc3) r3 s3 u3
      have gA : Gr wD V3 := by rw [hV3]; exact (Gr.refl _).alloc _
      replace T := T.gr gA
      replace gw := gw.trans gA
      replace X1 := X1.gr gA
      replace X2 := X2.gr gA
      clear hV3 gA
      refine (C6.out _ gw).mono ?_
      rintro e4 wE ⟨y4, N4, k4, d4, Y4, M4, D4, v4, vp4, vl4, vc4, r4, s4, u4, rfl, hgwE⟩
      replace T := T.gr hgwE
      replace gw := gw.trans hgwE
      replace X1 := X1.gr hgwE
      replace X2 := X2.gr hgwE
      replace X3 := X3.gr hgwE
      clear hgwE t0 t25 t23 t17
      obtain ⟨t0, t25, t23, t17⟩ := id T
      obtain ⟨lX1, cX1⟩ := id X1
      obtain ⟨lX2, cX2⟩ := id X2
      obtain ⟨lX3, cX3⟩ := id X3
      dsimp only [abC]
      go_wp2_with (first | (go_at_call 11; fail))
      go_at_call 11
      refine Calls.name ?_
      intro V4 hV4
      have X4 : Om9 V4 wE.heap.size 0 := by rw [hV4]; exact Om9.at wE (P + 14) y4 N4 k4 d4 Y4 M4 D4 v4 0 (.slice vp4 vl4 vc4) r4 s4 u4
      have gA : Gr wE V4 := by rw [hV4]; exact (Gr.refl _).alloc _
      replace T := T.gr gA
      replace gw := gw.trans gA
      replace X1 := X1.gr gA
      replace X2 := X2.gr gA
      replace X3 := X3.gr gA
      clear hV4 gA
      refine (C7.out _ gw).mono ?_
      rintro e5 wF ⟨rfl, hgF⟩
      replace T := T.gr hgF
      replace gw := gw.trans hgF
      replace X1 := X1.gr hgF
      replace X2 := X2.gr hgF
      replace X3 := X3.gr hgF
      replace X4 := X4.gr hgF
      clear hgF t0 t25 t23 t17
      obtain ⟨t0, t25, t23, t17⟩ := id T
      obtain ⟨zX1, qX1⟩ := id X1
      obtain ⟨zX2, qX2⟩ := id X2
      obtain ⟨zX3, qX3⟩ := id X3
      obtain ⟨zX4, qX4⟩ := id X4
      go_wp2
      go_ret
      exact ⟨rfl, gw⟩
theorem om_day {y : Int} (h0 : 1 ≤ y) (h1 : y ≤ 9999) (n om : Int) (a : omP y ≤ n) (b : n ≤ omP y + 64) (e : omN (n - omS y) = om) (w : World) (G : GT w) : Calls Tryq.prog 35 #[.int .i64 n, .int .i64 1] w (DOf w n om) := by
  obtain ⟨j, d, hv, hn⟩ := om_hv h0 h1 (x := n - omP y) (by omega) (by omega)
  have := dayof_c y d n j w G hv (by omega)
  rwa [e] at this
theorem wholeOmer_t (y : Int) (w : World) (G : GT w) (p : PT w) (h : (Lit.int .u16 y).wf = true) : Calls Tryq.prog 9 #[.int .u16 y] w fun e w' => e = .returned (.bool true) ∧ Gr w w' := by
  have b := u16_of h
  have h0 : 1 ≤ 1 + y % 9999 := by omega
  have h1 : 1 + y % 9999 ≤ 9999 := by omega
  obtain ⟨-, -, -, -, eS⟩ := om_fdy (1 + y % 9999)
  obtain ⟨j, d, hv, hn⟩ := om_hv h0 h1 (x := 0) (by omega) (by omega)
  have r := hd_range hv
  have le : (evs (1 + y % 9999) 1).length ≤ 8 * 19 := evp_len (1 + y % 9999) 1 19 (by omega)
  have oN : ∀ n : Int, 0 < n → n ≤ 49 → omN n = n := fun n a b => by unfold omN; rw [if_pos ⟨a, b⟩]
  refine omer_law (1 + y % 9999) y (omP (1 + y % 9999)) w b.1 b.2 h0 h1 (by omega) (by omega) (fun M hP hS => om_at hP hS) (fun e he => ?_) (by omega) (evs_pos _ 1 (.inr rfl))
    (fun W => topyear_c y W b.1 b.2) (fun W hW => feof_c _ 1 W (G.gr hW) h0 h1 (.inr rfl))
    (fun W hW => om_day h0 h1 _ 49 (by omega) (by omega) ?_ W (G.gr hW)) (fun W hW => om_day h0 h1 _ 33 (by omega) (by omega) ?_ W (G.gr hW)) (fun W hW => om_day h0 h1 _ 1 (by omega) (by omega) ?_ W (G.gr hW)) (fun W hW => om_day h0 h1 _ 0 (by omega) (by omega) ?_ W (G.gr hW))
    (fun W hW => awake_c W (G.gr hW) (p.gr hW))
  · obtain ⟨a, b, -⟩ := evs_ok h0 h1 e he
    exact ⟨a, b⟩
  · rw [eS, oN _ (by omega) (by omega)]; omega
  · rw [eS, oN _ (by omega) (by omega)]; omega
  · rw [eS, oN _ (by omega) (by omega)]; omega
  · rw [eS]; unfold omN; rw [if_neg (by omega)]
end Go.Proofs.YtegkbjpcgelomaaGreatDoor.Walks
end
