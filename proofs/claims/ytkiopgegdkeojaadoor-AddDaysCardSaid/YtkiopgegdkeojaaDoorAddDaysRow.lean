/- The row and the tied card of AddDays: for every input the law's call returns true. Conditions: none but the laid tables, tied. -/
import Derived.Test.YtkiopgegdkeojaaDoorRows
import Derived.Test.YtkiopgegdkeojaaDoorChecked
import Derived.Test.YtkiopgegdkeojaaDoorCards
import Derived.Test.YtkiopgegdkeojaaDoorTie
import Derived.Test.YtkiopgegdkeojaaDoorTypes2
import Derived.Test.YtkiopgegdkeojaaDoorAddDays
import Derived.Test.YtkiopgegdkeojaaDoorOpensH
import Derived.WalkKit
import Derived.ProofKit
import Derived.OpenShut
import Derived.ChangeOld
import Derived.Below
import Derived.SizedLaws
import Derived.LaidMore
import Derived.Lay
import Derived.SevenTiedAt
import Derived.Stop.Joined
import Derived.Lib.SmallJoins
namespace Go.Proofs.YtkiopgegdkeojaaDoor.addDays
open Go.ChangeShapes Go.WideShapes Go.ChangeAt Go.RowKit Go.Joins
set_option linter.unusedVariables false
set_option linter.unusedSimpArgs false
theorem own : ownKnob Tryd.prog.godebug = none := by kernel_rfl
set_option maxRecDepth 100000 in
theorem lifted (os : Os) (started : os.Started) (H : Type) (enc : TypeId × Value → H) :
    ReturnsInHanded {} Tryd.checked os 5 .any (fun w args => (Rows.addDaysSpec.pre enc Tryd.prog Tryd.f5 Rows.addDaysRow.domain false w args ∧ laidMetH Tryd.prog Rows.addDaysRow.laid w) ∧ sizedMet enc Tryd.prog Tryd.f5 (OpenSpec.ofChange Rows.addDaysSpec) false w args)
      (Rows.addDaysSpec.post enc Tryd.prog Tryd.f5 false true false false) := by
  refine returnsInHanded_of_change_and (C := Tryd.checked) (X := fun w _ => laidMetH Tryd.prog Rows.addDaysRow.laid w) (fun _ _ _ hh h => h.of_heap hh) own started (by kernel_rfl) Tryd.func5
    (ChangeSpec.witness_shaped (enc := enc) (C := Tryd.checked) (os := os) (X := fun w _ => laidMetH Tryd.prog Rows.addDaysRow.laid w) false (World.laidAll Tryd.prog os Rows.addDaysRow.laid) #[.agg #[.int .i64 0, .int .i64 0, .bool false, .int .i64 0, .int .i32 0, .int .i32 0, .int .u8 0]] 8 (World.laidAll_os _ _ _)
      (World.shaped_of_ZipB (by kernel_rfl) (by kernel_rfl)) (by kernel_rfl) (by kernel_rfl) (by kernel_rfl)
      (by rw [MakeChecks.laidMetH_plain _ _ _ (by kernel_rfl)]; exact laidMet_laidAll _ (by kernel_rfl) (by kernel_rfl))) ?_
  intro W base args ds gs before hval0 hW hc _ hL _
  have hval : ∀ (j : Nat) t v, Tryd.f5.params[j]? = some t → args[j]? = some v → Value.okWide Tryd.prog W .any base t v := hval0
  have hW' := hW
  obtain ⟨p, q, hA0, hV, rfl, hfz, hnd⟩ := hW
  have hA : DataW.TrodAll enc Tryd.prog W 0 (fun _ => true) true Tryd.f5.params.toList args.toList ds p := hA0
  rw [Tryd.params5] at hA hval
  obtain ⟨v0, vs0, d0, ds0, p0, q0, hargs, rfl, rfl, h0, r0⟩ := trodAll_cons hA
  obtain ⟨rfl, rfl, rfl⟩ := trodAll_nil r0
  obtain rfl : args = #[v0] := by cases args; simp_all
  obtain ⟨rfl, rfl⟩ := trodVars_none hV
  have hlt0 : ∀ x ∈ p0, x.block < W.heap.size := fun x hx => by simpa using hW'.lt x (by simp [hx])
  obtain ⟨a0_0, a0_1, a0_2, a0_3, a0_4, a0_5, a0_6, rfl, w0_0, w0_1, w0_3, w0_4, w0_5, w0_6⟩ := Opens.open_Move (hval 0 39 v0 rfl rfl) h0
  have T : Walks.GT W := by
    rw [MakeChecks.laidMetH_plain _ _ _ (by kernel_rfl)] at hL
    exact Laid.GT_of_laid hL
  clear hA0 hval0 hL
  refine (Walks.addDays_t a0_0 a0_1 a0_2 a0_3 a0_4 a0_5 a0_6 W T w0_0 w0_1 w0_3 w0_4 w0_5 w0_6).mono fun e W' ⟨he, hg⟩ => ?_
  subst he
  exact ⟨_, rfl, _, _, _, [], _, [], hW', trodAll_mk1 (shut_bool Tryd.underlying4 _), (trodAll_cons_mk (Below.trod Opens.laidOut (by kernel_rfl) (of_decide_eq_true (by kernel_rfl)) h0 hg.below hlt0) trodAll_mk0), rfl, hg.below.frame _, fun h => by cases h⟩
theorem over : Rows.addDaysRow.holds Tryd.pinned (OpenSpec.ofChange Rows.addDaysSpec) :=
  OpenClaim.holds_of_wide 5 Tryd.f5 rfl rfl rfl rfl rfl rfl rfl ⟨rfl, rfl, rfl, rfl, rfl⟩ rfl rfl rfl rfl rfl (by kernel_rfl) Tryd.func5 (by kernel_rfl)
    (of_decide_eq_true (by kernel_rfl)) (by unfold Func.isWrapper; first | (rw [if_pos (by decide +kernel)]; kernel_rfl) | (rw [if_neg (by decide +kernel)]; exact ⟨rfl, rfl⟩))
    (fun os started H enc _ => lifted os started H enc)
end Go.Proofs.YtkiopgegdkeojaaDoor.addDays
namespace Go.Proofs.YtkiopgegdkeojaaDoor
/-- The tied card, for the claim. -/
theorem addDays_holds : Rows.AddDaysCardSaid :=
  Claim7.holds_tied_plain_at .later [] [.widerDeep, .data] true (true, "cc13fb2574be0cd9b54694ba96b0f00d0a5585a55699bb1db6bbd030a0109f36") false addDays.over (fun _ h => by cases h) (by kernel_rfl) (fun _ h => by cases h) addDays_row_tie rfl ⟨rfl, rfl⟩ (by kernel_rfl) rfl
    (fun f fn hf hfn => by
      obtain rfl : f = 5 := Option.some.inj ((show Tryd.prog.funcNamed "almanacker/almanackerlaw16.AddDays" = some 5 by kernel_rfl).symm.trans hf) |>.symm
      obtain rfl : fn = Tryd.f5 := (Option.some.inj (Tryd.func5.symm.trans hfn)).symm
      exact ⟨by kernel_rfl, fun j t ht => by
        rw [Tryd.params5] at ht
        have hm : t ∈ [39] := by simpa using Array.mem_of_getElem? ht
        have hall : ([39].all fun u => !Tryd.prog.wantsStandIn u) = true := by kernel_rfl
        exact (show Tryd.prog.wantsStandIn t = false by simpa using List.all_eq_true.1 hall t hm)⟩)
    (by kernel_rfl)
end Go.Proofs.YtkiopgegdkeojaaDoor
