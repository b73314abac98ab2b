/- The sum, the product, the quotient and what is left of any two numbers are the document's: the walk of the law; every input. -/
import Derived.Test.YtmeimicphadlpaaExactU
set_option linter.unusedVariables false
set_option linter.unusedSimpArgs false
namespace Go.Proofs.Ytmeimicphadlpaa.Walks
open Go Go.RowKit Go.Sort Go.Proofs.Ytmeimicphadlpaa.Base Go.Proofs.Ytmeimicphadlpaa.Plain

set_option maxHeartbeats 1000000 in
theorem exactTells_w (a b : Int) (w : World) (wa : (Lit.int .i64 a).wf = true) (wb : (Lit.int .i64 b).wf = true) :
    Calls Try.prog 9 #[.int .i64 a, .int .i64 b] w fun e w' => e = .returned (.bool true) ∧ Gr w w' := by
  have ha := fits_wf wa
  have hb := fits_wf wb
  clear wa wb
  go_enter Try.func9, Try.ntmps9
  go_wp2_with (first | (go_at_call 28; (with_reducible refine (add_u a b _ ha hb).mono ?_); rintro e w1 ⟨rfl, hg⟩) | (go_at_call 29; (with_reducible refine (radd_u a b _ ha hb).mono ?_); rintro e w1 ⟨rfl, hg⟩) | (go_at_call 30; (with_reducible refine (mul_u a b _ ha hb).mono ?_); rintro e w1 ⟨rfl, hg⟩) | (go_at_call 31; (with_reducible refine (rmul_u a b _ ha hb).mono ?_); rintro e w1 ⟨rfl, hg⟩) | (go_at_call 32; (with_reducible refine (div_u a b _ ha hb).mono ?_); rintro e w1 ⟨rfl, hg⟩) | (go_at_call 33; (with_reducible refine (rdiv_u a b _ ha hb).mono ?_); rintro e w1 ⟨rfl, hg⟩) | (go_at_call 34; (with_reducible refine (mod_u a b _ ha hb).mono ?_); rintro e w1 ⟨rfl, hg⟩) | (go_at_call 35; (with_reducible refine (rmod_u a b _ ha hb).mono ?_); rintro e w1 ⟨rfl, hg⟩) | (go_at_call 36; (with_reducible refine (awake01_c _).mono ?_); rintro e w1 ⟨rfl, hg⟩))
  go_ret
  exact ⟨rfl, (by repeat (first | exact Gr.refl _ | refine Gr.grown ?_ _ _ | refine Gr.drewN ?_ _ | refine Gr.drew ?_ | refine Gr.alloc ?_ _ | refine Gr.grow ?_ _ | (refine Gr.trans ?_ (by assumption))))⟩

end Go.Proofs.Ytmeimicphadlpaa.Walks
