/- Walks of package greg. -/
import Derived.Test.YtgjgkldkdmohjaaYear
import Derived.Test.YtgjgkldkdmohjaaGMath
import Derived.StillTailTactics
set_option linter.unusedVariables false
set_option linter.unusedSimpArgs false
namespace Go.Proofs.Ytgjgkldkdmohjaa.Walks
open Go Go.RowKit Go.Sort Go.Proofs.Ytgjgkldkdmohjaa.Base Go.Proofs.Ytgjgkldkdmohjaa.Plain Go.Proofs.Ytgjgkldkdmohjaa.Math

theorem tmod_zero (y k : Int) : (Int.tmod y k == 0) = (y % k == 0) := by
  rw [Bool.eq_iff_iff, beq_iff_eq, beq_iff_eq, ← Int.dvd_iff_emod_eq_zero, Int.dvd_iff_tmod_eq_zero]

theorem gleap_s (y : Int) (w : World) : Calls Try.prog 14 #[.int .i64 y] w fun e w' => e = .returned (.bool (gl y)) ∧ w' = w := by
  have t4 := tmod_zero y 400
  have t1 := tmod_zero y 100
  have t0 := tmod_zero y 4
  cases h4 : (y % 400 == 0)
  · cases h1 : (y % 100 == 0)
    · cases h0 : (y % 4 == 0)
      · rw [h4] at t4; rw [h1] at t1; rw [h0] at t0
        have E : RowKit.Hid (gl y = false) := Lib.hid (by unfold gl; rw [h4, h0]; rfl)
        clear h4 h1 h0
        go_enter Try.func14, Try.ntmps14
        go_wp2
        go_ret
        exact ⟨retb E.out.symm, rfl⟩
      · rw [h4] at t4; rw [h1] at t1; rw [h0] at t0
        have E : RowKit.Hid (gl y = true) := Lib.hid (by unfold gl; rw [h4, h0, h1]; rfl)
        clear h4 h1 h0
        go_enter Try.func14, Try.ntmps14
        go_wp2
        go_ret
        exact ⟨retb E.out.symm, rfl⟩
    · rw [h4] at t4; rw [h1] at t1
      have E : RowKit.Hid (gl y = false) := Lib.hid (by unfold gl; rw [h4, h1]; simp)
      clear h4 h1 t0
      go_enter Try.func14, Try.ntmps14
      go_wp2
      go_ret
      exact ⟨retb E.out.symm, rfl⟩
  · rw [h4] at t4
    have E : RowKit.Hid (gl y = true) := Lib.hid (by unfold gl; rw [h4]; rfl)
    clear h4 t0 t1
    go_enter Try.func14, Try.ntmps14
    go_wp2
    go_ret
    exact ⟨retb E.out.symm, rfl⟩

set_option maxHeartbeats 4000000 in
theorem gdays_s (y m : Int) (w : World) : Calls Try.prog 10 #[.int .i64 y, .int .i64 m] w fun e w' => e = .returned (.int .i64 (gmd (gl y) m)) ∧ w' = w := by
  by_cases h : 1 ≤ m ∧ m ≤ 12
  · have : m = 1 ∨ m = 2 ∨ m = 3 ∨ m = 4 ∨ m = 5 ∨ m = 6 ∨ m = 7 ∨ m = 8 ∨ m = 9 ∨ m = 10 ∨ m = 11 ∨ m = 12 := by omega
    clear h
    cases hl : gl y
    · have L : RowKit.Hid (gl y = false) := Lib.hid hl
      clear hl
      rcases this with rfl | rfl | rfl | rfl | rfl | rfl | rfl | rfl | rfl | rfl | rfl | rfl
      all_goals
        go_enter Try.func10, Try.ntmps10
        go_wp2_with (go_at_call 14; (with_reducible refine (gleap_s y _).mono ?_); rintro e w1 ⟨rfl, rfl⟩; rw [L.out])
        go_ret
        exact ⟨rfl, rfl⟩
    · have L : RowKit.Hid (gl y = true) := Lib.hid hl
      clear hl
      rcases this with rfl | rfl | rfl | rfl | rfl | rfl | rfl | rfl | rfl | rfl | rfl | rfl
      all_goals
        go_enter Try.func10, Try.ntmps10
        go_wp2_with (go_at_call 14; (with_reducible refine (gleap_s y _).mono ?_); rintro e w1 ⟨rfl, rfl⟩; rw [L.out])
        go_ret
        exact ⟨rfl, rfl⟩
  · rw [gmd_no _ m (by omega)]
    have b1 : (m == 1) = false := beq_eq_false_iff_ne.2 (by omega)
    have b2 : (m == 2) = false := beq_eq_false_iff_ne.2 (by omega)
    have b3 : (m == 3) = false := beq_eq_false_iff_ne.2 (by omega)
    have b4 : (m == 4) = false := beq_eq_false_iff_ne.2 (by omega)
    have b5 : (m == 5) = false := beq_eq_false_iff_ne.2 (by omega)
    have b6 : (m == 6) = false := beq_eq_false_iff_ne.2 (by omega)
    have b7 : (m == 7) = false := beq_eq_false_iff_ne.2 (by omega)
    have b8 : (m == 8) = false := beq_eq_false_iff_ne.2 (by omega)
    have b9 : (m == 9) = false := beq_eq_false_iff_ne.2 (by omega)
    have b10 : (m == 10) = false := beq_eq_false_iff_ne.2 (by omega)
    have b11 : (m == 11) = false := beq_eq_false_iff_ne.2 (by omega)
    have b12 : (m == 12) = false := beq_eq_false_iff_ne.2 (by omega)
    clear h
    go_enter Try.func10, Try.ntmps10
    go_wp2
    go_ret
    exact ⟨rfl, rfl⟩

theorem gdown_c (a b : Int) (w : World) (hb : 0 < b) (h0 : -9223372036854775808 ≤ a) (h1 : a ≤ 9223372036854775807) (hb1 : b ≤ 9223372036854775807) :
    Calls Try.prog 28 #[.int .i64 a, .int .i64 b] w fun e w' => e = .returned (.int .i64 (a / b)) ∧ Gr w w' := by
  go_enter Try.func28, Try.ntmps28
  go_wp2_with (go_at_call 37; (with_reducible refine (div_c a b _ hb h0 h1 hb1).mono ?_); rintro e w1 ⟨rfl, hg⟩)
  go_ret
  exact ⟨rfl, (by repeat (first | exact Gr.refl _ | refine Gr.setCell ?_ _ _ (by first | exact Nat.le_refl _ | (simp; omega) | (simp; done)) | refine Gr.grown ?_ _ _ | refine Gr.drewN ?_ _ | refine Gr.drew ?_ | refine Gr.alloc ?_ _ | refine Gr.grow ?_ _ | (refine Gr.trans ?_ (by assumption))))⟩
theorem gbegins_c (y : Int) (w : World) (h0 : -1000000 ≤ y) (h1 : y ≤ 1000000) : Calls Try.prog 21 #[.int .i64 y] w fun e w' => e = .returned (.int .i64 (gb y)) ∧ Gr w w' := by
  have E : RowKit.Hid (365 * (y - 1) + (y - 1) / 4 - (y - 1) / 100 + (y - 1) / 400 = gb y) := Lib.hid rfl
  go_enter Try.func21, Try.ntmps21
  go_wp2_with (first | (go_at_call 28; (with_reducible refine (gdown_c (y - 1) 4 _ (by omega) (by omega) (by omega) (by omega)).mono ?_); rintro e w1 ⟨rfl, hg⟩) | (go_at_call 28; (with_reducible refine (gdown_c (y - 1) 100 _ (by omega) (by omega) (by omega) (by omega)).mono ?_); rintro e w1 ⟨rfl, hg⟩) | (go_at_call 28; (with_reducible refine (gdown_c (y - 1) 400 _ (by omega) (by omega) (by omega) (by omega)).mono ?_); rintro e w1 ⟨rfl, hg⟩))
  go_ret
  exact ⟨ret1 E.out, (by repeat (first | exact Gr.refl _ | refine Gr.setCell ?_ _ _ (by first | exact Nat.le_refl _ | (simp; omega) | (simp; done)) | refine Gr.grown ?_ _ _ | refine Gr.drewN ?_ _ | refine Gr.drew ?_ | refine Gr.alloc ?_ _ | refine Gr.grow ?_ _ | (refine Gr.trans ?_ (by assumption))))⟩
/-- Is a day one of the Hebrew years? -/
def inD (n : Int) : Bool := decide (-1373427 ≤ n ∧ n ≤ 2278650)
theorem gin_c (n : Int) (w : World) : Calls Try.prog 19 #[.int .i64 n] w fun e w' => e = .returned (.bool (inD n)) ∧ Gr w w' := by
  by_cases h : -1373427 ≤ n ∧ n ≤ 2278650
  · have E : RowKit.Hid (inD n = true) := Lib.hid (decide_eq_true h)
    have f1 := fy_1
    have f2 := lastD_is
    unfold lastD at f2
    obtain ⟨Y, y0, y1, h0, h1⟩ := year_of (n := n) (by omega) (by omega)
    have C := Lib.hid (fun w => year_c n Y w y0 y1 h0 h1)
    clear h f1 f2 h0 h1
    go_enter Try.func19, Try.ntmps19
    go_wp2_with (go_at_call 26; (with_reducible refine (C.out _).mono ?_); rintro e w1 ⟨rfl, hg⟩)
    go_ret
    exact ⟨retb E.out.symm, (by repeat (first | exact Gr.refl _ | refine Gr.setCell ?_ _ _ (by first | exact Nat.le_refl _ | (simp; omega) | (simp; done)) | refine Gr.grown ?_ _ _ | refine Gr.drewN ?_ _ | refine Gr.drew ?_ | refine Gr.alloc ?_ _ | refine Gr.grow ?_ _ | (refine Gr.trans ?_ (by assumption))))⟩
  · have E : RowKit.Hid (inD n = false) := Lib.hid (decide_eq_false h)
    have C := Lib.hid (fun w => year_out n w (by omega))
    clear h
    go_enter Try.func19, Try.ntmps19
    go_wp2_with (go_at_call 26; (with_reducible refine (C.out _).mono ?_); rintro e w1 ⟨rfl, hg⟩)
    go_ret
    exact ⟨retb E.out.symm, (by repeat (first | exact Gr.refl _ | refine Gr.setCell ?_ _ _ (by first | exact Nat.le_refl _ | (simp; omega) | (simp; done)) | refine Gr.grown ?_ _ _ | refine Gr.drewN ?_ _ | refine Gr.drew ?_ | refine Gr.alloc ?_ _ | refine Gr.grow ?_ _ | (refine Gr.trans ?_ (by assumption))))⟩

end Go.Proofs.Ytgjgkldkdmohjaa.Walks
