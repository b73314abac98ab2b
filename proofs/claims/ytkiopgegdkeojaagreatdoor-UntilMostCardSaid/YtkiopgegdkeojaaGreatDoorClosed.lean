/- Walks of package closed and of its reference. -/
import Derived.Test.YtkiopgegdkeojaaGreatDoorFirst
import Derived.Test.YtkiopgegdkeojaaGreatDoorYears
import Derived.Test.YtkiopgegdkeojaaGreatDoorSearch
set_option linter.unusedVariables false
set_option linter.unusedSimpArgs false
namespace Go.Proofs.YtkiopgegdkeojaaGreatDoor.Walks
open Go Go.RowKit Go.Sort Go.Proofs.YtkiopgegdkeojaaGreatDoor.Base Go.Proofs.YtkiopgegdkeojaaGreatDoor.Plain Go.Proofs.YtkiopgegdkeojaaGreatDoor.Math

theorem frame_yn {y : Int} (h0 : -1 ≤ y) (h1 : y ≤ 10002) : -100 ≤ bf y ∧ bf y ≤ 130000 := by unfold bf; omega
theorem yn_lo {y : Int} (h : (3 * (ym y + 1)) % 7 < 3) : yn y = ym y + 1 := by unfold yn; rw [if_pos h]
theorem yn_hi {y : Int} (h : ¬ (3 * (ym y + 1)) % 7 < 3) : yn y = ym y := by unfold yn; rw [if_neg h]


/-! ### years of days -/
theorem begins_c (y : Int) (w : World) : Calls Tryz.prog 97 #[.int .i64 y] w fun e w' => e = .returned (.int .i64 (fyN y)) ∧ Gr w w' := by
  go_enter Tryz.func97, Tryz.ntmps97
  go_wp2_with (go_at_call 55; (with_reducible refine (first_c y _).mono ?_); rintro e w1 ⟨rfl, hg⟩)
  go_ret
  exact ⟨rfl, (by repeat (first | exact Gr.refl _ | refine Gr.setCell ?_ _ _ (by first | exact Nat.le_refl _ | (simp; omega) | (simp; done)) | refine Gr.grown ?_ _ _ | refine Gr.drewN ?_ _ | refine Gr.drew ?_ | refine Gr.alloc ?_ _ | refine Gr.grow ?_ _ | (refine Gr.trans ?_ (by assumption))))⟩
theorem last_c (w : World) : Calls Tryz.prog 95 #[] w fun e w' => e = .returned (.int .i64 2278650) ∧ Gr w w' := by
  have E : RowKit.Hid (fyN 10000 = 2278651) := Lib.hid (by rw [fyN_in (by omega) (by omega)]; have := lastD_is; unfold lastD at this; omega)
  go_enter Tryz.func95, Tryz.ntmps95
  go_wp2_with (go_at_call 97; (with_reducible refine (begins_c 10000 _).mono ?_); rintro e w1 ⟨rfl, hg⟩; rw [E.out])
  go_ret
  exact ⟨rfl, (by repeat (first | exact Gr.refl _ | refine Gr.setCell ?_ _ _ (by first | exact Nat.le_refl _ | (simp; omega) | (simp; done)) | refine Gr.grown ?_ _ _ | refine Gr.drewN ?_ _ | refine Gr.drew ?_ | refine Gr.alloc ?_ _ | refine Gr.grow ?_ _ | (refine Gr.trans ?_ (by assumption))))⟩

end Go.Proofs.YtkiopgegdkeojaaGreatDoor.Walks
