/- Walks of package cycle and of its reference. -/
import Derived.Test.YtkiopgegdkeojaaGreatDoorExact
import Derived.Test.YtkiopgegdkeojaaGreatDoorRef01
import Derived.Test.YtkiopgegdkeojaaGreatDoorMath
set_option linter.unusedVariables false
set_option linter.unusedSimpArgs false
namespace Go.Proofs.YtkiopgegdkeojaaGreatDoor.Walks
open Go Go.RowKit Go.Sort Go.Proofs.YtkiopgegdkeojaaGreatDoor.Base Go.Proofs.YtkiopgegdkeojaaGreatDoor.Plain Go.Proofs.YtkiopgegdkeojaaGreatDoor.Math

theorem check_c (y : Int) (w : World) : Calls Tryz.prog 102 #[.int .i64 y] w fun e w' => e = .returned (.int .i64 (yE y)) ∧ Gr w w' := by
  by_cases h : y < 0
  · have E := Lib.hid (yE_out (y := y) (Or.inl h))
    go_enter Tryz.func102, Tryz.ntmps102
    go_wp2
    go_ret
    exact ⟨ret1 E.out.symm, (by repeat (first | exact Gr.refl _ | refine Gr.setCell ?_ _ _ (by first | exact Nat.le_refl _ | (simp; omega) | (simp; done)) | refine Gr.grown ?_ _ _ | refine Gr.drewN ?_ _ | refine Gr.drew ?_ | refine Gr.alloc ?_ _ | refine Gr.grow ?_ _ | (refine Gr.trans ?_ (by assumption))))⟩
  · by_cases g : 10001 < y
    · have E := Lib.hid (yE_out (y := y) (Or.inr g))
      go_enter Tryz.func102, Tryz.ntmps102
      go_wp2
      go_ret
      exact ⟨ret1 E.out.symm, (by repeat (first | exact Gr.refl _ | refine Gr.setCell ?_ _ _ (by first | exact Nat.le_refl _ | (simp; omega) | (simp; done)) | refine Gr.grown ?_ _ _ | refine Gr.drewN ?_ _ | refine Gr.drew ?_ | refine Gr.alloc ?_ _ | refine Gr.grow ?_ _ | (refine Gr.trans ?_ (by assumption))))⟩
    · have E := Lib.hid (yE_in (y := y) (by omega) (by omega))
      go_enter Tryz.func102, Tryz.ntmps102
      go_wp2
      go_ret
      exact ⟨ret1 E.out.symm, (by repeat (first | exact Gr.refl _ | refine Gr.setCell ?_ _ _ (by first | exact Nat.le_refl _ | (simp; omega) | (simp; done)) | refine Gr.grown ?_ _ _ | refine Gr.drewN ?_ _ | refine Gr.drew ?_ | refine Gr.alloc ?_ _ | refine Gr.grow ?_ _ | (refine Gr.trans ?_ (by assumption))))⟩

theorem leap_cases (y : Int) : y % 19 = 0 ∨ y % 19 = 1 ∨ y % 19 = 2 ∨ y % 19 = 3 ∨ y % 19 = 4 ∨ y % 19 = 5 ∨ y % 19 = 6 ∨ y % 19 = 7 ∨ y % 19 = 8 ∨ y % 19 = 9 ∨ y % 19 = 10 ∨ y % 19 = 11 ∨ y % 19 = 12 ∨ y % 19 = 13 ∨ y % 19 = 14 ∨ y % 19 = 15 ∨ y % 19 = 16 ∨ y % 19 = 17 ∨ y % 19 = 18 := by omega
theorem lp_is {y : Int} (h : y % 19 = 0 ∨ y % 19 = 3 ∨ y % 19 = 6 ∨ y % 19 = 8 ∨ y % 19 = 11 ∨ y % 19 = 14 ∨ y % 19 = 17) : lp y = true := by
  unfold lp
  have e : (7 * y + 1) % 19 = (7 * (y % 19) + 1) % 19 := by omega
  rw [e]
  generalize y % 19 = r at h
  rcases h with rfl | rfl | rfl | rfl | rfl | rfl | rfl <;> decide
theorem lp_not {y : Int} (h0 : y % 19 ≠ 0) (h1 : y % 19 ≠ 3) (h2 : y % 19 ≠ 6) (h3 : y % 19 ≠ 8) (h4 : y % 19 ≠ 11) (h5 : y % 19 ≠ 14) (h6 : y % 19 ≠ 17) : lp y = false := by
  unfold lp
  have e : (7 * y + 1) % 19 = (7 * (y % 19) + 1) % 19 := by omega
  rw [e]
  have := leap_cases y
  generalize y % 19 = r at *
  rcases this with rfl | rfl | rfl | rfl | rfl | rfl | rfl | rfl | rfl | rfl | rfl | rfl | rfl | rfl | rfl | rfl | rfl | rfl | rfl <;> first | decide | omega

set_option maxHeartbeats 1000000 in
theorem leap_in (y : Int) (w : World) (h0 : 0 ≤ y) (h1 : y ≤ 10001) : Calls Tryz.prog 87 #[.int .i64 y] w fun e w' => e = .returned (.tuple #[.bool (lp y), .int .i64 0]) ∧ Gr w w' := by
  have e0 := yE_in h0 h1
  go_enter Tryz.func87, Tryz.ntmps87
  go_wp2_with (go_at_call 102; (with_reducible refine (check_c y _).mono ?_); rintro e w1 ⟨rfl, hg⟩)
  all_goals go_ret2
  all_goals (refine ⟨?_, (by repeat (first | exact Gr.refl _ | refine Gr.setCell ?_ _ _ (by first | exact Nat.le_refl _ | (simp; omega) | (simp; done)) | refine Gr.grown ?_ _ _ | refine Gr.drewN ?_ _ | refine Gr.drew ?_ | refine Gr.alloc ?_ _ | refine Gr.grow ?_ _ | (refine Gr.trans ?_ (by assumption))))⟩; simp only [beq_iff_eq, beq_eq_false_iff_ne] at *; exact retb2 (by first | exact (lp_is (by omega)).symm | exact (lp_not (by omega) (by omega) (by omega) (by omega) (by omega) (by omega) (by omega)).symm) rfl)
theorem leap_out (y : Int) (w : World) (h : y < 0 ∨ 10001 < y) : Calls Tryz.prog 87 #[.int .i64 y] w fun e w' => e = .returned (.tuple #[.bool false, .int .i64 2]) ∧ Gr w w' := by
  have e0 := yE_out h
  clear h
  go_enter Tryz.func87, Tryz.ntmps87
  go_wp2_with (go_at_call 102; (with_reducible refine (check_c y _).mono ?_); rintro e w1 ⟨rfl, hg⟩)
  go_ret2
  exact ⟨rfl, (by repeat (first | exact Gr.refl _ | refine Gr.setCell ?_ _ _ (by first | exact Nat.le_refl _ | (simp; omega) | (simp; done)) | refine Gr.grown ?_ _ _ | refine Gr.drewN ?_ _ | refine Gr.drew ?_ | refine Gr.alloc ?_ _ | refine Gr.grow ?_ _ | (refine Gr.trans ?_ (by assumption))))⟩
theorem leap_c (y : Int) (w : World) : Calls Tryz.prog 87 #[.int .i64 y] w fun e w' => e = .returned (.tuple #[.bool (lpN y), .int .i64 (yE y)]) ∧ Gr w w' := by
  by_cases h : 0 ≤ y ∧ y ≤ 10001
  · rw [lpN_in h.1 h.2, yE_in h.1 h.2]; exact leap_in y w h.1 h.2
  · rw [lpN_out (by omega), yE_out (by omega)]; exact leap_out y w (by omega)

theorem in_c (y : Int) (w : World) : Calls Tryz.prog 100 #[.int .i64 y] w fun e w' => e = .returned (.tuple #[.int .i64 (inN y), .int .i64 (yE y)]) ∧ Gr w w' := by
  by_cases h : 0 ≤ y ∧ y ≤ 10001
  · obtain ⟨h0, h1⟩ := h
    rw [inN_in h0 h1, yE_in h0 h1]
    unfold ml
    cases hl : lp y
    · go_enter Tryz.func100, Tryz.ntmps100
      go_wp2_with (go_at_call 87; (with_reducible refine (leap_in y _ h0 h1).mono ?_); rintro e w1 ⟨rfl, hg⟩)
      go_ret2
      exact ⟨rfl, (by repeat (first | exact Gr.refl _ | refine Gr.setCell ?_ _ _ (by first | exact Nat.le_refl _ | (simp; omega) | (simp; done)) | refine Gr.grown ?_ _ _ | refine Gr.drewN ?_ _ | refine Gr.drew ?_ | refine Gr.alloc ?_ _ | refine Gr.grow ?_ _ | (refine Gr.trans ?_ (by assumption))))⟩
    · go_enter Tryz.func100, Tryz.ntmps100
      go_wp2_with (go_at_call 87; (with_reducible refine (leap_in y _ h0 h1).mono ?_); rintro e w1 ⟨rfl, hg⟩)
      go_ret2
      exact ⟨rfl, (by repeat (first | exact Gr.refl _ | refine Gr.setCell ?_ _ _ (by first | exact Nat.le_refl _ | (simp; omega) | (simp; done)) | refine Gr.grown ?_ _ _ | refine Gr.drewN ?_ _ | refine Gr.drew ?_ | refine Gr.alloc ?_ _ | refine Gr.grow ?_ _ | (refine Gr.trans ?_ (by assumption))))⟩
  · have h' : y < 0 ∨ 10001 < y := by omega
    rw [inN_out h', yE_out h']
    clear h
    have H := Lib.hid h'
    clear h'
    go_enter Tryz.func100, Tryz.ntmps100
    go_wp2_with (go_at_call 87; (with_reducible refine (leap_out y _ H.out).mono ?_); rintro e w1 ⟨rfl, hg⟩)
    go_ret2
    exact ⟨rfl, (by repeat (first | exact Gr.refl _ | refine Gr.setCell ?_ _ _ (by first | exact Nat.le_refl _ | (simp; omega) | (simp; done)) | refine Gr.grown ?_ _ _ | refine Gr.drewN ?_ _ | refine Gr.drew ?_ | refine Gr.alloc ?_ _ | refine Gr.grow ?_ _ | (refine Gr.trans ?_ (by assumption))))⟩

theorem before_c (y : Int) (w : World) : Calls Tryz.prog 94 #[.int .i64 y] w fun e w' => e = .returned (.tuple #[.int .i64 (bfN y), .int .i64 (yE y)]) ∧ Gr w w' := by
  by_cases h : 0 ≤ y ∧ y ≤ 10001
  · obtain ⟨h0, h1⟩ := h
    have e0 := yE_in h0 h1
    have E : RowKit.Hid ((235 * (y - 1) + 1) / 19 = bfN y) := Lib.hid (by rw [bfN_in h0 h1]; unfold bf; omega)
    rw [e0]
    go_enter Tryz.func94, Tryz.ntmps94
    go_wp2_with (first | (go_at_call 102; (with_reducible refine (check_c y _).mono ?_); rintro e w1 ⟨rfl, hg⟩) | (go_at_call 109; (with_reducible refine (div_c _ 19 _ (by omega) (by omega) (by omega) (by omega)).mono ?_); rintro e w1 ⟨rfl, hg⟩))
    go_ret2
    exact ⟨ret2 E.out rfl, (by repeat (first | exact Gr.refl _ | refine Gr.setCell ?_ _ _ (by first | exact Nat.le_refl _ | (simp; omega) | (simp; done)) | refine Gr.grown ?_ _ _ | refine Gr.drewN ?_ _ | refine Gr.drew ?_ | refine Gr.alloc ?_ _ | refine Gr.grow ?_ _ | (refine Gr.trans ?_ (by assumption))))⟩
  · have h' : y < 0 ∨ 10001 < y := by omega
    have e0 := yE_out h'
    rw [bfN_out h', e0]
    clear h h'
    go_enter Tryz.func94, Tryz.ntmps94
    go_wp2_with (go_at_call 102; (with_reducible refine (check_c y _).mono ?_); rintro e w1 ⟨rfl, hg⟩)
    go_ret2
    exact ⟨rfl, (by repeat (first | exact Gr.refl _ | refine Gr.setCell ?_ _ _ (by first | exact Nat.le_refl _ | (simp; omega) | (simp; done)) | refine Gr.grown ?_ _ _ | refine Gr.drewN ?_ _ | refine Gr.drew ?_ | refine Gr.alloc ?_ _ | refine Gr.grow ?_ _ | (refine Gr.trans ?_ (by assumption))))⟩

/-! ### the reference -/
theorem rright_c (y : Int) (w : World) : Calls Tryz.prog 83 #[.int .i64 y] w fun e w' => e = .returned (.bool (yr y)) ∧ Gr w w' := by
  by_cases h : 0 ≤ y
  · have E : RowKit.Hid (decide (y ≤ 10001) = yr y) := Lib.hid (by unfold yr; rw [Bool.eq_iff_iff]; simp; omega)
    go_enter Tryz.func83, Tryz.ntmps83
    go_wp2
    go_ret
    exact ⟨retb E.out, (by repeat (first | exact Gr.refl _ | refine Gr.setCell ?_ _ _ (by first | exact Nat.le_refl _ | (simp; omega) | (simp; done)) | refine Gr.grown ?_ _ _ | refine Gr.drewN ?_ _ | refine Gr.drew ?_ | refine Gr.alloc ?_ _ | refine Gr.grow ?_ _ | (refine Gr.trans ?_ (by assumption))))⟩
  · have E : RowKit.Hid (false = yr y) := Lib.hid (yr_out (by omega)).symm
    go_enter Tryz.func83, Tryz.ntmps83
    go_wp2
    go_ret
    exact ⟨retb E.out, (by repeat (first | exact Gr.refl _ | refine Gr.setCell ?_ _ _ (by first | exact Nat.le_refl _ | (simp; omega) | (simp; done)) | refine Gr.grown ?_ _ _ | refine Gr.drewN ?_ _ | refine Gr.drew ?_ | refine Gr.alloc ?_ _ | refine Gr.grow ?_ _ | (refine Gr.trans ?_ (by assumption))))⟩
theorem ris_c (y : Int) (w : World) (h0 : -1000000 ≤ y) (h1 : y ≤ 1000000) : Calls Tryz.prog 49 #[.int .i64 y] w fun e w' => e = .returned (.bool (lp y)) ∧ Gr w w' := by
  have E : RowKit.Hid (decide ((7 * y + 1) % 19 < 7) = lp y) := Lib.hid rfl
  go_enter Tryz.func49, Tryz.ntmps49
  go_wp2_with (go_at_call 82; (with_reducible refine (rleft_c _ 19 _ (by omega) (by omega) (by omega) (by omega)).mono ?_); rintro e w1 ⟨rfl, hg⟩)
  go_ret
  exact ⟨retb E.out, (by repeat (first | exact Gr.refl _ | refine Gr.setCell ?_ _ _ (by first | exact Nat.le_refl _ | (simp; omega) | (simp; done)) | refine Gr.grown ?_ _ _ | refine Gr.drewN ?_ _ | refine Gr.drew ?_ | refine Gr.alloc ?_ _ | refine Gr.grow ?_ _ | (refine Gr.trans ?_ (by assumption))))⟩
theorem rin_c (y : Int) (w : World) : Calls Tryz.prog 50 #[.int .i64 y] w fun e w' => e = .returned (.tuple #[.int .i64 (inN y), .int .i64 (yE y)]) ∧ Gr w w' := by
  by_cases h : 0 ≤ y ∧ y ≤ 10001
  · obtain ⟨h0, h1⟩ := h
    have e1 := yr_in h0 h1
    rw [inN_in h0 h1, yE_in h0 h1]
    unfold ml
    cases hl : lp y
    · go_enter Tryz.func50, Tryz.ntmps50
      go_wp2_with (first | (go_at_call 83; (with_reducible refine (rright_c y _).mono ?_); rintro e w1 ⟨rfl, hg⟩) | (go_at_call 49; (with_reducible refine (ris_c y _ (by omega) (by omega)).mono ?_); rintro e w1 ⟨rfl, hg⟩))
      go_ret2
      exact ⟨rfl, (by repeat (first | exact Gr.refl _ | refine Gr.setCell ?_ _ _ (by first | exact Nat.le_refl _ | (simp; omega) | (simp; done)) | refine Gr.grown ?_ _ _ | refine Gr.drewN ?_ _ | refine Gr.drew ?_ | refine Gr.alloc ?_ _ | refine Gr.grow ?_ _ | (refine Gr.trans ?_ (by assumption))))⟩
    · go_enter Tryz.func50, Tryz.ntmps50
      go_wp2_with (first | (go_at_call 83; (with_reducible refine (rright_c y _).mono ?_); rintro e w1 ⟨rfl, hg⟩) | (go_at_call 49; (with_reducible refine (ris_c y _ (by omega) (by omega)).mono ?_); rintro e w1 ⟨rfl, hg⟩))
      go_ret2
      exact ⟨rfl, (by repeat (first | exact Gr.refl _ | refine Gr.setCell ?_ _ _ (by first | exact Nat.le_refl _ | (simp; omega) | (simp; done)) | refine Gr.grown ?_ _ _ | refine Gr.drewN ?_ _ | refine Gr.drew ?_ | refine Gr.alloc ?_ _ | refine Gr.grow ?_ _ | (refine Gr.trans ?_ (by assumption))))⟩
  · have h' : y < 0 ∨ 10001 < y := by omega
    have e1 := yr_out h'
    rw [inN_out h', yE_out h']
    clear h h'
    go_enter Tryz.func50, Tryz.ntmps50
    go_wp2_with (go_at_call 83; (with_reducible refine (rright_c y _).mono ?_); rintro e w1 ⟨rfl, hg⟩)
    go_ret2
    exact ⟨rfl, (by repeat (first | exact Gr.refl _ | refine Gr.setCell ?_ _ _ (by first | exact Nat.le_refl _ | (simp; omega) | (simp; done)) | refine Gr.grown ?_ _ _ | refine Gr.drewN ?_ _ | refine Gr.drew ?_ | refine Gr.alloc ?_ _ | refine Gr.grow ?_ _ | (refine Gr.trans ?_ (by assumption))))⟩
theorem rbefore_c (y : Int) (w : World) : Calls Tryz.prog 91 #[.int .i64 y] w fun e w' => e = .returned (.tuple #[.int .i64 (bfN y), .int .i64 (yE y)]) ∧ Gr w w' := by
  by_cases h : 0 ≤ y ∧ y ≤ 10001
  · obtain ⟨h0, h1⟩ := h
    have e1 := yr_in h0 h1
    have E : RowKit.Hid ((235 * y - 234) / 19 = bfN y) := Lib.hid (by rw [bfN_in h0 h1]; rfl)
    rw [yE_in h0 h1]
    go_enter Tryz.func91, Tryz.ntmps91
    go_wp2_with (first | (go_at_call 83; (with_reducible refine (rright_c y _).mono ?_); rintro e w1 ⟨rfl, hg⟩) | (go_at_call 106; (with_reducible refine (rdown_c _ 19 _ (by omega) (by omega) (by omega) (by omega)).mono ?_); rintro e w1 ⟨rfl, hg⟩))
    go_ret2
    exact ⟨ret2 E.out rfl, (by repeat (first | exact Gr.refl _ | refine Gr.setCell ?_ _ _ (by first | exact Nat.le_refl _ | (simp; omega) | (simp; done)) | refine Gr.grown ?_ _ _ | refine Gr.drewN ?_ _ | refine Gr.drew ?_ | refine Gr.alloc ?_ _ | refine Gr.grow ?_ _ | (refine Gr.trans ?_ (by assumption))))⟩
  · have h' : y < 0 ∨ 10001 < y := by omega
    have e1 := yr_out h'
    rw [bfN_out h', yE_out h']
    clear h h'
    go_enter Tryz.func91, Tryz.ntmps91
    go_wp2_with (go_at_call 83; (with_reducible refine (rright_c y _).mono ?_); rintro e w1 ⟨rfl, hg⟩)
    go_ret2
    exact ⟨rfl, (by repeat (first | exact Gr.refl _ | refine Gr.setCell ?_ _ _ (by first | exact Nat.le_refl _ | (simp; omega) | (simp; done)) | refine Gr.grown ?_ _ _ | refine Gr.drewN ?_ _ | refine Gr.drew ?_ | refine Gr.alloc ?_ _ | refine Gr.grow ?_ _ | (refine Gr.trans ?_ (by assumption))))⟩

end Go.Proofs.YtkiopgegdkeojaaGreatDoor.Walks
