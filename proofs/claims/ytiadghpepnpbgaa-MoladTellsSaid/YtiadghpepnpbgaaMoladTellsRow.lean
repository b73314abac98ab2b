/- The row of MoladTells: for every input the law's call returns true, and its arguments read afterwards as before. Conditions: none. -/
import Derived.Test.YtiadghpepnpbgaaRows
import Derived.Test.YtiadghpepnpbgaaChecked
import Derived.Test.YtiadghpepnpbgaaMoladTells
import Derived.WalkKit
import Derived.ProofKit
import Derived.OpenShut
import Derived.ChangeOld
import Derived.Below
import Derived.SizedLaws
import Derived.Lib.SmallJoins
namespace Go.Proofs.Ytiadghpepnpbgaa.moladTells
open Go.ChangeShapes Go.WideShapes Go.ChangeAt Go.RowKit Go.Joins
set_option linter.unusedVariables false
set_option linter.unusedSimpArgs false
theorem own : ownKnob Try.prog.godebug = none := by kernel_rfl
set_option maxRecDepth 100000 in
theorem lifted (os : Os) (started : os.Started) (H : Type) (enc : TypeId × Value → H) :
    ReturnsInHanded {} Try.checked os 6 .any (Rows.moladTellsSpec.pre6 enc Try.prog Try.f6 Rows.moladTellsRow.domain false) (Rows.moladTellsSpec.post enc Try.prog Try.f6 false true false false) := by
  refine returnsInHanded_of_change_sized (C := Try.checked) own started (by kernel_rfl) Try.func6
    (ChangeSpec.witness6 (enc := enc) (C := Try.checked) false ⟨#[], #[.agg #[.int .i64 0, .int .i64 0, .int .i64 0, .int .i64 0]], []⟩ 8 (by kernel_rfl) (by kernel_rfl) (by kernel_rfl) (by kernel_rfl)) ?_
  intro W base args ds gs before hval0 hW hcnd hsz0 _
  have hval : ∀ (j : Nat) t v, Try.f6.params[j]? = some t → args[j]? = some v → Value.okWide Try.prog W .any base t v := hval0
  have hW' := hW
  obtain ⟨p, q, hA0, hV, rfl, hfz, hnd⟩ := hW
  have hA : DataW.TrodAll enc Try.prog W 0 (fun _ => true) true Try.f6.params.toList args.toList ds p := hA0
  rw [Try.params6] at hA hval
  obtain ⟨v0, vs0, d0, ds0, p0, q0, hargs, rfl, rfl, h0, r0⟩ := trodAll_cons hA
  obtain ⟨rfl, rfl, rfl⟩ := trodAll_nil r0
  obtain rfl : args = #[v0] := by cases args; simp_all
  obtain ⟨rfl, rfl⟩ := trodVars_none hV
  obtain ⟨c0_0, c0_1, c0_2, c0_3, y0_0, y0_1, y0_2, y0_3, m0, rfl, rfl, rfl, h0_0, h0_1, h0_2, h0_3⟩ := open_agg4 Try.underlying37 (by kernel_rfl) (by kernel_rfl) (hval 0 37 v0 rfl rfl) h0
  obtain ⟨a0_0, e0_0, hy0_0, w0_0⟩ := DataW.trod_int Try.underlying3 h0_0
  simp at e0_0 hy0_0; subst e0_0 hy0_0
  obtain ⟨a0_1, e0_1, hy0_1, w0_1⟩ := DataW.trod_int Try.underlying3 h0_1
  simp at e0_1 hy0_1; subst e0_1 hy0_1
  obtain ⟨a0_2, e0_2, hy0_2, w0_2⟩ := DataW.trod_int Try.underlying3 h0_2
  simp at e0_2 hy0_2; subst e0_2 hy0_2
  obtain ⟨a0_3, e0_3, hy0_3, w0_3⟩ := DataW.trod_int Try.underlying3 h0_3
  simp at e0_3 hy0_3; subst e0_3 hy0_3
  clear hA0 hval0 hsz0
  refine (Walks.moladTells_w a0_0 a0_1 a0_2 a0_3 W w0_0 w0_1 w0_2 w0_3).mono fun e W' ⟨he, hg⟩ => ?_
  subst he
  exact ⟨_, rfl, _, _, _, [], _, [], hW', trodAll_mk1 (shut_bool Try.underlying4 _), (trodAll_cons_mk (shut_agg4 (y0 := (.lit (.int .i64 a0_0), [])) (y1 := (.lit (.int .i64 a0_1), [])) (y2 := (.lit (.int .i64 a0_2), [])) (y3 := (.lit (.int .i64 a0_3), [])) Try.underlying37 (by kernel_rfl) (by kernel_rfl) ⟨1, by simp [DataW.trod, show Try.checked.prog.underlying 3 = _ from Try.underlying3, w0_0]⟩ ⟨1, by simp [DataW.trod, show Try.checked.prog.underlying 3 = _ from Try.underlying3, w0_1]⟩ ⟨1, by simp [DataW.trod, show Try.checked.prog.underlying 3 = _ from Try.underlying3, w0_2]⟩ ⟨1, by simp [DataW.trod, show Try.checked.prog.underlying 3 = _ from Try.underlying3, w0_3]⟩) trodAll_mk0), rfl, hg.below.frame _, fun h => by cases h⟩
theorem over : Rows.moladTellsRow.holds Try.pinned (OpenSpec.ofChange Rows.moladTellsSpec) :=
  OpenClaim.holds_of_wide 6 Try.f6 rfl rfl rfl rfl rfl rfl rfl ⟨rfl, rfl, rfl, rfl, rfl⟩ rfl rfl rfl rfl rfl (by kernel_rfl) Try.func6 (by kernel_rfl)
    (of_decide_eq_true (by kernel_rfl)) (by unfold Func.isWrapper; first | (rw [if_pos (by decide +kernel)]; kernel_rfl) | (rw [if_neg (by decide +kernel)]; exact ⟨rfl, rfl⟩))
    (fun os started H enc _ => lifted os started H enc)
theorem proved : Rows.MoladTellsSaid := over
end Go.Proofs.Ytiadghpepnpbgaa.moladTells
namespace Go.Proofs.Ytiadghpepnpbgaa
/-- The row, under a short name, for the claim. -/
theorem moladTells_holds : Rows.MoladTellsSaid := moladTells.proved
end Go.Proofs.Ytiadghpepnpbgaa
