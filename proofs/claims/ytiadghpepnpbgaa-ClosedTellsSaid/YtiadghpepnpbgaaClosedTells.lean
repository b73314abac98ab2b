/- How many days are nearly ahead of any year, its first day, the year of any day, and the last day, are the document's: the walk of the law; every input. -/
import Derived.Test.YtiadghpepnpbgaaAwake6
set_option linter.unusedVariables false
set_option linter.unusedSimpArgs false
namespace Go.Proofs.Ytiadghpepnpbgaa.Walks
open Go Go.RowKit Go.Sort Go.Proofs.Ytiadghpepnpbgaa.Base Go.Proofs.Ytiadghpepnpbgaa.Plain Go.Proofs.Ytiadghpepnpbgaa.Math

set_option maxHeartbeats 1000000 in
theorem closedTells_w (y n : Int) (w : World) (w0 : (Lit.int .i64 y).wf = true) (w1 : (Lit.int .i64 n).wf = true) :
    Calls Try.prog 14 #[.int .i64 y, .int .i64 n] w fun e w' => e = .returned (.bool true) ∧ Gr w w' := by
  clear w0 w1
  obtain ⟨Y, E, c1, c2⟩ := year_both n
  have C1 := Lib.hid c1
  have C2 := Lib.hid c2
  clear c1 c2
  go_enter Try.func14, Try.ntmps14
  go_wp2_with (first | (go_at_call 44; (with_reducible refine (cNearly_c y _).mono ?_); rintro e w1 ⟨rfl, hg⟩) | (go_at_call 45; (with_reducible refine (rNearly_c y _).mono ?_); rintro e w1 ⟨rfl, hg⟩) | (go_at_call 40; (with_reducible refine (cFirst_c y _).mono ?_); rintro e w1 ⟨rfl, hg⟩) | (go_at_call 46; (with_reducible refine (r6First_c y _).mono ?_); rintro e w1 ⟨rfl, hg⟩) | (go_at_call 43; (with_reducible refine (C1.out _).mono ?_); rintro e w1 ⟨rfl, hg⟩) | (go_at_call 47; (with_reducible refine (C2.out _).mono ?_); rintro e w1 ⟨rfl, hg⟩) | (go_at_call 41; (with_reducible refine (awake06_c _).mono ?_); rintro e w1 ⟨rfl, hg⟩) | (go_at_call 48; (with_reducible refine (last_c _).mono ?_); rintro e w1 ⟨rfl, hg⟩) | (go_at_call 42; (with_reducible refine (rlast_c _).mono ?_); rintro e w1 ⟨rfl, hg⟩))
  go_ret
  exact ⟨rfl, (by repeat (first | exact Gr.refl _ | refine Gr.setCell ?_ _ _ (by first | exact Nat.le_refl _ | (simp; omega) | (simp; done)) | refine Gr.grown ?_ _ _ | refine Gr.drewN ?_ _ | refine Gr.drew ?_ | refine Gr.alloc ?_ _ | refine Gr.grow ?_ _ | (refine Gr.trans ?_ (by assumption))))⟩

end Go.Proofs.Ytiadghpepnpbgaa.Walks
