/- Walks of the reference of layer 6: years of days, by halves. -/
import Derived.Test.YtgjgkldkdmohjaaYear
set_option linter.unusedVariables false
set_option linter.unusedSimpArgs false
namespace Go.Proofs.Ytgjgkldkdmohjaa.Walks
open Go Go.RowKit Go.Sort Go.Proofs.Ytgjgkldkdmohjaa.Base Go.Proofs.Ytgjgkldkdmohjaa.Plain Go.Proofs.Ytgjgkldkdmohjaa.Math

theorem rlast_c (w : World) : Calls Try.prog 8 #[] w fun e w' => e = .returned (.int .i64 2278650) ∧ Gr w w' := by
  have E : RowKit.Hid (fyN 10000 = 2278651) := Lib.hid (by rw [fyN_in (by omega) (by omega)]; have := lastD_is; unfold lastD at this; omega)
  go_enter Try.func8, Try.ntmps8
  go_wp2_with (go_at_call 22; (with_reducible refine (rfirst_c 10000 _).mono ?_); rintro e w1 ⟨rfl, hg⟩; rw [E.out])
  go_ret
  exact ⟨rfl, (by repeat (first | exact Gr.refl _ | refine Gr.setCell ?_ _ _ (by first | exact Nat.le_refl _ | (simp; omega) | (simp; done)) | refine Gr.grown ?_ _ _ | refine Gr.drewN ?_ _ | refine Gr.drew ?_ | refine Gr.alloc ?_ _ | refine Gr.grow ?_ _ | (refine Gr.trans ?_ (by assumption))))⟩
theorem three_up (X : Int) : 3 * (X + 1) = 3 * X + 3 := by omega

end Go.Proofs.Ytgjgkldkdmohjaa.Walks
