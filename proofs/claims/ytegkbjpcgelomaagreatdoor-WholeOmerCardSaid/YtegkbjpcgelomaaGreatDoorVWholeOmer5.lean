/- The row and the tied card of WholeOmer: for every input, on every schedule, the law's call returns true, without a data race; at the return every other goroutine has ended, or is only leaving. Conditions: none but the laid tables, tied. -/
import Derived.Test.YtegkbjpcgelomaaGreatDoorRows
import Derived.Test.YtegkbjpcgelomaaGreatDoorChecked
import Derived.Test.YtegkbjpcgelomaaGreatDoorCards
import Derived.Test.YtegkbjpcgelomaaGreatDoorTie
import Derived.Test.YtegkbjpcgelomaaGreatDoorZ22
import Derived.Test.YtegkbjpcgelomaaGreatDoorVWholeOmer4
import Derived.WalkKit
import Derived.ProofKit
import Derived.OpenShut
import Derived.ChangeOld
import Derived.Below
import Derived.SizedLaws
import Derived.LaidMore
import Derived.Lay
import Derived.SevenTiedAt
import Derived.Stop.Joined
import Derived.Lib.SmallJoins
set_option linter.unusedVariables false
set_option linter.unusedSimpArgs false
section
namespace Go.Proofs.YtegkbjpcgelomaaGreatDoor.wholeOmer
open Go.ChangeShapes Go.WideShapes Go.ChangeAt Go.RowKit Go.Joins Go.Conc
theorem own : ownKnob Tryz.prog.godebug = none := by kernel_rfl
theorem body : Tryz.f9.body.isSome = true := by kernel_rfl
set_option maxRecDepth 100000 in
theorem lifted (os : Os) (started : os.Started) (H : Type) (enc : TypeId × Value → H) :
    ReturnsInLeavingWide {} Tryz.checked os 9 .any (fun w args => (Rows.wholeOmerSpec.pre enc Tryz.prog Tryz.f9 Rows.wholeOmerRow.domain false w args ∧ laidMetH Tryz.prog Rows.wholeOmerRow.laid w) ∧ sizedMet enc Tryz.prog Tryz.f9 (OpenSpec.ofChange Rows.wholeOmerSpec) false w args)
      (Rows.wholeOmerSpec.post enc Tryz.prog Tryz.f9 false true false false) := by
  refine Laid.leaving_and (C := Tryz.checked) (X := fun w _ => laidMetH Tryz.prog Rows.wholeOmerRow.laid w) (fun _ _ _ hh h => h.of_heap hh) own started Tryz.func9
    (ChangeSpec.witness_shaped (enc := enc) (C := Tryz.checked) (os := os) (X := fun w _ => laidMetH Tryz.prog Rows.wholeOmerRow.laid w) false (World.laidAll Tryz.prog os Rows.wholeOmerRow.laid) #[.int .u16 0] 8 (World.laidAll_os _ _ _)
      (World.shaped_of_ZipB (by kernel_rfl) (by kernel_rfl)) (by kernel_rfl) (by kernel_rfl) (by kernel_rfl)
      (by rw [MakeChecks.laidMetH_plain _ _ _ (by kernel_rfl)]; exact laidMet_laidAll _ (by kernel_rfl) (by kernel_rfl))) ?_
  intro W base args ds gs before hval0 hW hL
  have hval : ∀ (j : Nat) t v, Tryz.f9.params[j]? = some t → args[j]? = some v → Value.okWide Tryz.prog W .any base t v := hval0
  have hW' := hW
  obtain ⟨p, q, hA0, hV, rfl, hfz, hnd⟩ := hW
  have hA : DataW.TrodAll enc Tryz.prog W 0 (fun _ => true) true Tryz.f9.params.toList args.toList ds p := hA0
  rw [Tryz.params9] at hA hval
  obtain ⟨v0, vs0, d0, ds0, p0, q0, hargs, rfl, rfl, h0, r0⟩ := trodAll_cons hA
  obtain ⟨rfl, rfl, rfl⟩ := trodAll_nil r0
  obtain rfl : args = #[v0] := by cases args; simp_all
  obtain ⟨rfl, rfl⟩ := trodVars_none hV
  obtain ⟨a0, rfl, rfl, rfl, w0⟩ := open_int Tryz.underlying22 (hval 0 22 v0 rfl rfl) h0
  have T := Laid.top_of_laid (show laidMet Tryz.prog Rows.wholeOmerRow.laid W by
    rw [MakeChecks.laidMetH_plain _ _ _ (by kernel_rfl)] at hL
    exact hL)
  clear hA0 hval0 hL
  obtain ⟨c, hc⟩ := Option.isSome_iff_exists.1 body
  obtain ⟨M, last, o, w', t', e1, e2, e3, e4⟩ := Lift.lift 9 Tryz.f9 _ c Tryq.func9 Tryz.func9 hc Tryz.results9 (by decide) #[.int .u16 a0] W T.1 T.2 (fun v G p => Walks.wholeOmer_t a0 v G p w0)
  refine ⟨M, last, o, w', t', e1, e2, e3, e4.mono fun v hv => ?_⟩
  obtain ⟨rfl, hk⟩ := hv
  exact ⟨_, _, _, [], _, [], hW', trodAll_mk1 (shut_bool Tryz.underlying4 _), (trodAll_cons_mk (shut_int Tryz.underlying22 w0) trodAll_mk0), rfl, ⟨hk.1, hk.2.1, fun i hi => by rw [hk.2.2.2 i hi]; split <;> simp_all⟩, fun h => by cases h⟩
theorem over : Rows.wholeOmerRow.holds Tryz.pinned (OpenSpec.ofChange Rows.wholeOmerSpec) :=
  OpenClaim.holds_of_wide_leaving 9 Tryz.f9 rfl rfl rfl rfl rfl rfl rfl ⟨rfl, rfl, rfl, rfl, rfl⟩ rfl rfl rfl rfl rfl (by kernel_rfl) Tryz.func9 (by kernel_rfl)
    (of_decide_eq_true (by kernel_rfl)) (by unfold Func.isWrapper; first | (rw [if_pos (by decide +kernel)]; kernel_rfl) | (rw [if_neg (by decide +kernel)]; exact ⟨rfl, rfl⟩))
    (fun os started H enc _ => lifted os started H enc)
end Go.Proofs.YtegkbjpcgelomaaGreatDoor.wholeOmer
namespace Go.Proofs.YtegkbjpcgelomaaGreatDoor
/-- The tied card, for the claim. -/
theorem wholeOmer_holds : Rows.WholeOmerCardSaid :=
  Laid.holds_tied_goes .later [.data, .data, .data, .widerDeep, .data] true (true, "2a7680b3d10759eedbaf50ac48ae1427ae1a1826847ff3ffdde8e1c0fed2c2bd") false wholeOmer.over (by kernel_rfl) wholeOmer_row_tie rfl ⟨rfl, rfl⟩ (by kernel_rfl) rfl
    (fun f fn hf hfn => by
      obtain rfl : f = 9 := Option.some.inj ((show Tryz.prog.funcNamed "almanacker/almanackertop.WholeOmer" = some 9 by kernel_rfl).symm.trans hf) |>.symm
      obtain rfl : fn = Tryz.f9 := (Option.some.inj (Tryz.func9.symm.trans hfn)).symm
      exact ⟨by kernel_rfl, fun j t ht => by
        rw [Tryz.params9] at ht
        have hm : t ∈ [22] := by simpa using Array.mem_of_getElem? ht
        have hall : ([22].all fun u => !Tryz.prog.wantsStandIn u) = true := by kernel_rfl
        exact (show Tryz.prog.wantsStandIn t = false by simpa using List.all_eq_true.1 hall t hm)⟩)
    (by kernel_rfl)
end Go.Proofs.YtegkbjpcgelomaaGreatDoor
end
