/- Both ways tell the same first day: the walk of the law; every input. -/
import Derived.Test.YtiadghpepnpbgaaAwake6
set_option linter.unusedVariables false
set_option linter.unusedSimpArgs false
namespace Go.Proofs.Ytiadghpepnpbgaa.Walks
open Go Go.RowKit Go.Sort Go.Proofs.Ytiadghpepnpbgaa.Base Go.Proofs.Ytiadghpepnpbgaa.Plain Go.Proofs.Ytiadghpepnpbgaa.Math

set_option maxHeartbeats 1000000 in
theorem same_core (y k : Int) (w : World) (y0 : 0 ≤ y) (y1 : y ≤ 65535) (hk : y % 10002 = k) :
    Calls Try.prog 12 #[.int .u16 y] w fun e w' => e = .returned (.bool true) ∧ Gr w w' := by
  have HK := Lib.hid hk
  have e0 := yE_in (y := k) (by omega) (by omega)
  clear hk
  go_enter Try.func12, Try.ntmps12
  go_wp2_with fail
  rw [HK.out]
  go_wp2_with (first | (go_at_call 40; (with_reducible refine (cFirst_c k _).mono ?_); rintro e w1 ⟨rfl, hg⟩) | (go_at_call 35; (with_reducible refine (rfirst_c k _).mono ?_); rintro e w1 ⟨rfl, hg⟩) | (go_at_call 41; (with_reducible refine (awake06_c _).mono ?_); rintro e w1 ⟨rfl, hg⟩))
  go_ret
  exact ⟨rfl, (by repeat (first | exact Gr.refl _ | refine Gr.setCell ?_ _ _ (by first | exact Nat.le_refl _ | (simp; omega) | (simp; done)) | refine Gr.grown ?_ _ _ | refine Gr.drewN ?_ _ | refine Gr.drew ?_ | refine Gr.alloc ?_ _ | refine Gr.grow ?_ _ | (refine Gr.trans ?_ (by assumption))))⟩
theorem closedSame_w (y : Int) (w : World) (w0 : (Lit.int .u16 y).wf = true) :
    Calls Try.prog 12 #[.int .u16 y] w fun e w' => e = .returned (.bool true) ∧ Gr w w' :=
  same_core y _ w (bounds_u16 w0).1 (bounds_u16 w0).2 rfl

end Go.Proofs.Ytiadghpepnpbgaa.Walks
