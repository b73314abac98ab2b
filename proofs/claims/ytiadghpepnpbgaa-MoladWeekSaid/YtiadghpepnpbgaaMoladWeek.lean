/- Weekdays go round, and a week later it is the same one: the walk of the law; every input. -/
import Derived.Test.YtiadghpepnpbgaaAwake45
set_option linter.unusedVariables false
set_option linter.unusedSimpArgs false
namespace Go.Proofs.Ytiadghpepnpbgaa.Walks
open Go Go.RowKit Go.Sort Go.Proofs.Ytiadghpepnpbgaa.Base Go.Proofs.Ytiadghpepnpbgaa.Plain Go.Proofs.Ytiadghpepnpbgaa.Math

theorem wd_v (d r : Int) (w : World) (h0 : -9223372036854775808 ≤ d) (h1 : d ≤ 9223372036854775807) (h : d % 7 = r) : Calls Try.prog 31 #[.int .i64 d] w fun e w' => e = .returned (.int .i64 r) ∧ Gr w w' := by
  subst h; exact wd_c d w h0 h1

set_option maxHeartbeats 1000000 in
theorem moladWeek_w (d : Int) (w : World) (w0 : (Lit.int .i32 d).wf = true) :
    Calls Try.prog 8 #[.int .i32 d] w fun e w' => e = .returned (.bool true) ∧ Gr w w' := by
  have b0 := bounds_i32 w0
  have l0 := b0.1
  have l1 := b0.2
  obtain ⟨r, hr⟩ : ∃ r, d % 7 = r := ⟨_, rfl⟩
  have r0 : 0 ≤ r := by omega
  have r1 : r < 7 := by omega
  have H1 : RowKit.Hid (d % 7 = r) := Lib.hid hr
  have H2 : RowKit.Hid ((d + 1) % 7 = (r + 1) % 7) := Lib.hid (by omega)
  have H3 : RowKit.Hid ((d - 7) % 7 = r) := Lib.hid (by omega)
  clear w0 b0 hr
  go_enter Try.func8, Try.ntmps8
  go_wp2_with (first | (go_at_call 31; (with_reducible refine (wd_v d _ _ (by omega) (by omega) H1.out).mono ?_); rintro e w1 ⟨rfl, hg⟩) | (go_at_call 31; (with_reducible refine (wd_v (d + 1) _ _ (by omega) (by omega) H2.out).mono ?_); rintro e w1 ⟨rfl, hg⟩) | (go_at_call 31; (with_reducible refine (wd_v (d - 7) _ _ (by omega) (by omega) H3.out).mono ?_); rintro e w1 ⟨rfl, hg⟩) | (go_at_call 30; (with_reducible refine (awake04_c _).mono ?_); rintro e w1 ⟨rfl, hg⟩))
  go_ret
  exact ⟨rfl, (by repeat (first | exact Gr.refl _ | refine Gr.setCell ?_ _ _ (by first | exact Nat.le_refl _ | (simp; omega) | (simp; done)) | refine Gr.grown ?_ _ _ | refine Gr.drewN ?_ _ | refine Gr.drew ?_ | refine Gr.alloc ?_ _ | refine Gr.grow ?_ _ | (refine Gr.trans ?_ (by assumption))))⟩

end Go.Proofs.Ytiadghpepnpbgaa.Walks
