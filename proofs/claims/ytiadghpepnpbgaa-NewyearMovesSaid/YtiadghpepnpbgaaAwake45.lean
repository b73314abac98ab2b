/- The fixed examples of the laws of layers 4 and 5. -/
import Derived.Test.YtiadghpepnpbgaaFirst
set_option linter.unusedVariables false
set_option linter.unusedSimpArgs false
namespace Go.Proofs.Ytiadghpepnpbgaa.Walks
open Go Go.RowKit Go.Sort Go.Proofs.Ytiadghpepnpbgaa.Base Go.Proofs.Ytiadghpepnpbgaa.Plain Go.Proofs.Ytiadghpepnpbgaa.Math

theorem awake04_c (w : World) : Calls Try.prog 30 #[] w fun e w' => e = .returned (.bool true) ∧ Gr w w' := by
  have co : ∀ w, Calls Try.prog 28 #[.int .i64 1, .int .i64 1] w fun e w' => e = .returned (.tuple #[.agg #[.int .i64 (-1373427), .int .i64 5604], .int .i64 0]) ∧ Gr w w' := fun w => of_in 1 1 w (by omega) (by omega) (by omega) (by decide)
  have CO := Lib.hid co
  clear co
  go_enter Try.func30, Try.ntmps30
  go_wp2_with (first | (go_at_call 28; (with_reducible refine (CO.out _).mono ?_); rintro e wA ⟨rfl, hgwA⟩; obtain ⟨hclwA, hfzwA, hszwA⟩ := gcell hgwA; (try simp [Nat.add_one_le_iff] at hszwA)) | (go_at_call 28; (with_reducible refine (of_m 5785 13 _ (by omega) (by omega) (by decide)).mono ?_); rintro e wB ⟨rfl, hgwB⟩; obtain ⟨hclwB, hfzwB, hszwB⟩ := gcell hgwB; (try simp [Nat.add_one_le_iff] at hszwB)) | (go_at_call 31; (with_reducible refine (wd_c (-1373427) _ (by omega) (by omega)).mono ?_); rintro e wC ⟨rfl, hgwC⟩))
  go_ret
  exact ⟨rfl, (by repeat (first | exact Gr.refl _ | refine Gr.setCell ?_ _ _ (by first | exact Nat.le_refl _ | (simp; omega) | (simp; done)) | refine Gr.grown ?_ _ _ | refine Gr.drewN ?_ _ | refine Gr.drew ?_ | refine Gr.alloc ?_ _ | refine Gr.grow ?_ _ | (refine Gr.trans ?_ (by assumption))))⟩
theorem awake05_c (w : World) : Calls Try.prog 36 #[] w fun e w' => e = .returned (.bool true) ∧ Gr w w' := by
  have co : ∀ w, Calls Try.prog 34 #[.int .i64 5785] w fun e w' => e = .returned (.tuple #[.int .i64 739162, .int .i64 0]) ∧ Gr w w' := fun w => first_in 5785 w (by omega) (by omega)
  have CO := Lib.hid co
  clear co
  go_enter Try.func36, Try.ntmps36
  go_wp2_with (first | (go_at_call 34; (with_reducible refine (CO.out _).mono ?_); rintro e wA ⟨rfl, hgwA⟩) | (go_at_call 34; (with_reducible refine (first_out 10002 _ (by omega)).mono ?_); rintro e wB ⟨rfl, hgwB⟩))
  go_ret
  exact ⟨rfl, (by repeat (first | exact Gr.refl _ | refine Gr.setCell ?_ _ _ (by first | exact Nat.le_refl _ | (simp; omega) | (simp; done)) | refine Gr.grown ?_ _ _ | refine Gr.drewN ?_ _ | refine Gr.drew ?_ | refine Gr.alloc ?_ _ | refine Gr.grow ?_ _ | (refine Gr.trans ?_ (by assumption))))⟩

end Go.Proofs.Ytiadghpepnpbgaa.Walks
