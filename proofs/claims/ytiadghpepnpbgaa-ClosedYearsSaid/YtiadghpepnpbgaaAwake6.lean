/- The fixed example of the laws of layer 6; the year of any day by both ways. -/
import Derived.Test.YtiadghpepnpbgaaRef06
set_option linter.unusedVariables false
set_option linter.unusedSimpArgs false
namespace Go.Proofs.Ytiadghpepnpbgaa.Walks
open Go Go.RowKit Go.Sort Go.Proofs.Ytiadghpepnpbgaa.Base Go.Proofs.Ytiadghpepnpbgaa.Plain Go.Proofs.Ytiadghpepnpbgaa.Math

theorem fy_first : fy 1 = -1373427 := fy_1
theorem fy_last : fy 10000 = 2278651 := by have := lastD_is; unfold lastD at this; omega
theorem fy_5784 : fy 5784 = 738779 := by decide +kernel
theorem fy_5785 : fy 5785 = 739162 := by decide +kernel
theorem fy_5786 : fy 5786 = 739517 := by decide +kernel
theorem year_both (n : Int) : ∃ Y E : Int, (∀ w, Calls Try.prog 43 #[.int .i64 n] w fun e w' => e = .returned (.tuple #[.int .i64 Y, .int .i64 E]) ∧ Gr w w') ∧
    (∀ w, Calls Try.prog 47 #[.int .i64 n] w fun e w' => e = .returned (.tuple #[.int .i64 Y, .int .i64 E]) ∧ Gr w w') := by
  by_cases h : -1373427 ≤ n ∧ n ≤ 2278650
  · obtain ⟨Y, y0, y1, h0, h1⟩ := year_of (n := n) (by rw [fy_first]; omega) (by rw [fy_last]; omega)
    exact ⟨Y, 0, fun w => year_c n Y w y0 y1 h0 h1, fun w => ryear_c n Y w y0 y1 h0 h1⟩
  · exact ⟨0, 2, fun w => year_out n w (by omega), fun w => ryear_out n w (by omega)⟩
theorem awake06_c (w : World) : Calls Try.prog 41 #[] w fun e w' => e = .returned (.bool true) ∧ Gr w w' := by
  have C1 := Lib.hid (fun w => year_c 739162 5785 w (by omega) (by omega) (by rw [fy_5785]; omega) (by rw [show (5785 : Int) + 1 = 5786 from rfl, fy_5786]; omega))
  have C2 := Lib.hid (fun w => year_c 739161 5784 w (by omega) (by omega) (by rw [fy_5784]; omega) (by rw [show (5784 : Int) + 1 = 5785 from rfl, fy_5785]; omega))
  have C3 := Lib.hid (fun w => year_out (-1373428) w (by omega))
  have C4 : RowKit.Hid (∀ w, Calls Try.prog 40 #[.int .i64 5785] w fun e w' => e = .returned (.tuple #[.int .i64 739162, .int .i64 0]) ∧ Gr w w') := Lib.hid fun w => by
    have := cFirst_c 5785 w
    rwa [fyN_in (by omega) (by omega), fy_5785, yE_in (by omega) (by omega)] at this
  go_enter Try.func41, Try.ntmps41
  go_wp2_with (first | (go_at_call 43; (with_reducible refine (C1.out _).mono ?_); rintro e w1 ⟨rfl, hg⟩) | (go_at_call 43; (with_reducible refine (C2.out _).mono ?_); rintro e w1 ⟨rfl, hg⟩) | (go_at_call 43; (with_reducible refine (C3.out _).mono ?_); rintro e w1 ⟨rfl, hg⟩) | (go_at_call 40; (with_reducible refine (C4.out _).mono ?_); rintro e w1 ⟨rfl, hg⟩))
  go_ret
  exact ⟨rfl, (by repeat (first | exact Gr.refl _ | refine Gr.setCell ?_ _ _ (by first | exact Nat.le_refl _ | (simp; omega) | (simp; done)) | refine Gr.grown ?_ _ _ | refine Gr.drewN ?_ _ | refine Gr.drew ?_ | refine Gr.alloc ?_ _ | refine Gr.grow ?_ _ | (refine Gr.trans ?_ (by assumption))))⟩

end Go.Proofs.Ytiadghpepnpbgaa.Walks
