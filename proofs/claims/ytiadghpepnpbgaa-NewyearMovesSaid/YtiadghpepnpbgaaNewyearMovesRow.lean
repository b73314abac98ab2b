/- The row of NewyearMoves: for every input the law's call returns true, and its arguments read afterwards as before. Conditions: none. -/
import Derived.Test.YtiadghpepnpbgaaRows
import Derived.Test.YtiadghpepnpbgaaChecked
import Derived.Test.YtiadghpepnpbgaaNewyearMoves
import Derived.Test.YtiadghpepnpbgaaOpensB
import Derived.WalkKit
import Derived.ProofKit
import Derived.OpenShut
import Derived.ChangeOld
import Derived.Below
import Derived.SizedLaws
import Derived.Lib.SmallJoins
namespace Go.Proofs.Ytiadghpepnpbgaa.newyearMoves
open Go.ChangeShapes Go.WideShapes Go.ChangeAt Go.RowKit Go.Joins
set_option linter.unusedVariables false
set_option linter.unusedSimpArgs false
theorem own : ownKnob Try.prog.godebug = none := by kernel_rfl
set_option maxRecDepth 100000 in
theorem lifted (os : Os) (started : os.Started) (H : Type) (enc : TypeId × Value → H) :
    ReturnsInHanded {} Try.checked os 11 .any (Rows.newyearMovesSpec.pre6 enc Try.prog Try.f11 Rows.newyearMovesRow.domain false) (Rows.newyearMovesSpec.post enc Try.prog Try.f11 false true false false) := by
  refine returnsInHanded_of_change_sized (C := Try.checked) own started (by kernel_rfl) Try.func11
    (ChangeSpec.witness6 (enc := enc) (C := Try.checked) false ⟨#[], #[.agg #[.int .i32 0, .int .u16 0, .bool false, .bool false]], []⟩ 8 (by kernel_rfl) (by kernel_rfl) (by kernel_rfl) (by kernel_rfl)) ?_
  intro W base args ds gs before hval0 hW hcnd hsz0 _
  have hval : ∀ (j : Nat) t v, Try.f11.params[j]? = some t → args[j]? = some v → Value.okWide Try.prog W .any base t v := hval0
  have hW' := hW
  obtain ⟨p, q, hA0, hV, rfl, hfz, hnd⟩ := hW
  have hA : DataW.TrodAll enc Try.prog W 0 (fun _ => true) true Try.f11.params.toList args.toList ds p := hA0
  rw [Try.params11] at hA hval
  obtain ⟨v0, vs0, d0, ds0, p0, q0, hargs, rfl, rfl, h0, r0⟩ := trodAll_cons hA
  obtain ⟨rfl, rfl, rfl⟩ := trodAll_nil r0
  obtain rfl : args = #[v0] := by cases args; simp_all
  obtain ⟨rfl, rfl⟩ := trodVars_none hV
  have hlt0 : ∀ x ∈ p0, x.block < W.heap.size := fun x hx => by simpa using hW'.lt x (by simp [hx])
  obtain ⟨a0_0, a0_1, a0_2, a0_3, rfl, w0_0, w0_1⟩ := Opens.open_Move5 (hval 0 53 v0 rfl rfl) h0
  clear hA0 hval0 hsz0
  refine (Walks.newyearMoves_w a0_0 a0_1 a0_2 a0_3 W w0_0 w0_1).mono fun e W' ⟨he, hg⟩ => ?_
  subst he
  exact ⟨_, rfl, _, _, _, [], _, [], hW', trodAll_mk1 (shut_bool Try.underlying4 _), (trodAll_cons_mk (Below.trod Opens.laidOut (by kernel_rfl) (of_decide_eq_true (by kernel_rfl)) h0 hg.below hlt0) trodAll_mk0), rfl, hg.below.frame _, fun h => by cases h⟩
theorem over : Rows.newyearMovesRow.holds Try.pinned (OpenSpec.ofChange Rows.newyearMovesSpec) :=
  OpenClaim.holds_of_wide 11 Try.f11 rfl rfl rfl rfl rfl rfl rfl ⟨rfl, rfl, rfl, rfl, rfl⟩ rfl rfl rfl rfl rfl (by kernel_rfl) Try.func11 (by kernel_rfl)
    (of_decide_eq_true (by kernel_rfl)) (by unfold Func.isWrapper; first | (rw [if_pos (by decide +kernel)]; kernel_rfl) | (rw [if_neg (by decide +kernel)]; exact ⟨rfl, rfl⟩))
    (fun os started H enc _ => lifted os started H enc)
theorem proved : Rows.NewyearMovesSaid := over
end Go.Proofs.Ytiadghpepnpbgaa.newyearMoves
namespace Go.Proofs.Ytiadghpepnpbgaa
/-- The row, under a short name, for the claim. -/
theorem newyearMoves_holds : Rows.NewyearMovesSaid := newyearMoves.proved
end Go.Proofs.Ytiadghpepnpbgaa
