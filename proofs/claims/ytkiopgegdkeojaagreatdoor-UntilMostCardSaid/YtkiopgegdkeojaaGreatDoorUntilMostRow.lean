/- The row and the tied card of UntilMost: for every input the law's call returns true. Conditions: none but the laid tables, tied. -/
import Derived.Test.YtkiopgegdkeojaaGreatDoorRows
import Derived.Test.YtkiopgegdkeojaaGreatDoorChecked
import Derived.Test.YtkiopgegdkeojaaGreatDoorCards
import Derived.Test.YtkiopgegdkeojaaGreatDoorTie
import Derived.Test.YtkiopgegdkeojaaGreatDoorTypes2
import Derived.Test.YtkiopgegdkeojaaGreatDoorUntilMost
import Derived.Test.YtkiopgegdkeojaaGreatDoorOpensG
import Derived.WalkKit
import Derived.ProofKit
import Derived.OpenShut
import Derived.ChangeOld
import Derived.Below
import Derived.SizedLaws
import Derived.LaidMore
import Derived.Lay
import Derived.SevenTiedAt
import Derived.Stop.Joined
import Derived.Lib.SmallJoins
namespace Go.Proofs.YtkiopgegdkeojaaGreatDoor.untilMost
open Go.ChangeShapes Go.WideShapes Go.ChangeAt Go.RowKit Go.Joins
set_option linter.unusedVariables false
set_option linter.unusedSimpArgs false
theorem own : ownKnob Tryz.prog.godebug = none := by kernel_rfl
set_option maxRecDepth 100000 in
theorem lifted (os : Os) (started : os.Started) (H : Type) (enc : TypeId × Value → H) :
    ReturnsInHanded {} Tryz.checked os 6 .any (fun w args => (Rows.untilMostSpec.pre enc Tryz.prog Tryz.f6 Rows.untilMostRow.domain false w args ∧ laidMetH Tryz.prog Rows.untilMostRow.laid w) ∧ sizedMet enc Tryz.prog Tryz.f6 (OpenSpec.ofChange Rows.untilMostSpec) false w args)
      (Rows.untilMostSpec.post enc Tryz.prog Tryz.f6 false true false false) := by
  refine returnsInHanded_of_change_and (C := Tryz.checked) (X := fun w _ => laidMetH Tryz.prog Rows.untilMostRow.laid w) (fun _ _ _ hh h => h.of_heap hh) own started (by kernel_rfl) Tryz.func6
    (ChangeSpec.witness_shaped (enc := enc) (C := Tryz.checked) (os := os) (X := fun w _ => laidMetH Tryz.prog Rows.untilMostRow.laid w) false (World.laidAll Tryz.prog os Rows.untilMostRow.laid) #[.agg #[.int .i64 0, .int .i64 0, .bool false, .int .i64 0], .agg #[.int .i64 0, .int .i64 0, .bool false, .int .i64 0], .int .u8 0] 8 (World.laidAll_os _ _ _)
      (World.shaped_of_ZipB (by kernel_rfl) (by kernel_rfl)) (by kernel_rfl) (by kernel_rfl) (by kernel_rfl)
      (by rw [MakeChecks.laidMetH_plain _ _ _ (by kernel_rfl)]; exact laidMet_laidAll _ (by kernel_rfl) (by kernel_rfl))) ?_
  intro W base args ds gs before hval0 hW hc _ hL _
  have hval : ∀ (j : Nat) t v, Tryz.f6.params[j]? = some t → args[j]? = some v → Value.okWide Tryz.prog W .any base t v := hval0
  have hW' := hW
  obtain ⟨p, q, hA0, hV, rfl, hfz, hnd⟩ := hW
  have hA : DataW.TrodAll enc Tryz.prog W 0 (fun _ => true) true Tryz.f6.params.toList args.toList ds p := hA0
  rw [Tryz.params6] at hA hval
  obtain ⟨v0, vs0, d0, ds0, p0, q0, hargs, rfl, rfl, h0, r0⟩ := trodAll_cons hA
  obtain ⟨v1, vs1, d1, ds1, p1, q1, rfl, rfl, rfl, h1, r1⟩ := trodAll_cons r0
  obtain ⟨v2, vs2, d2, ds2, p2, q2, rfl, rfl, rfl, h2, r2⟩ := trodAll_cons r1
  obtain ⟨rfl, rfl, rfl⟩ := trodAll_nil r2
  obtain rfl : args = #[v0, v1, v2] := by cases args; simp_all
  obtain ⟨rfl, rfl⟩ := trodVars_none hV
  have hlt0 : ∀ x ∈ p0, x.block < W.heap.size := fun x hx => by simpa using hW'.lt x (by simp [hx])
  obtain ⟨a0_0, a0_1, a0_2, a0_3, rfl, w0_0, w0_1, w0_3⟩ := Opens.open_Date (hval 0 25 v0 rfl rfl) h0
  have hlt1 : ∀ x ∈ p1, x.block < W.heap.size := fun x hx => by simpa using hW'.lt x (by simp [hx])
  obtain ⟨a1_0, a1_1, a1_2, a1_3, rfl, w1_0, w1_1, w1_3⟩ := Opens.open_Date (hval 1 25 v1 rfl rfl) h1
  obtain ⟨a2, rfl, rfl, rfl, w2⟩ := open_int Tryz.underlying5 (hval 2 5 v2 rfl rfl) h2
  have T : Walks.GT W := by
    rw [MakeChecks.laidMetH_plain _ _ _ (by kernel_rfl)] at hL
    exact Laid.GT_of_laid hL
  clear hA0 hval0 hL
  refine (Walks.untilMost_t a0_0 a0_1 a0_2 a0_3 a1_0 a1_1 a1_2 a1_3 a2 W T w0_0 w0_1 w0_3 w1_0 w1_1 w1_3 w2).mono fun e W' ⟨he, hg⟩ => ?_
  subst he
  exact ⟨_, rfl, _, _, _, [], _, [], hW', trodAll_mk1 (shut_bool Tryz.underlying4 _), (trodAll_cons_mk (Below.trod Opens.laidOut (by kernel_rfl) (of_decide_eq_true (by kernel_rfl)) h0 hg.below hlt0) (trodAll_cons_mk (Below.trod Opens.laidOut (by kernel_rfl) (of_decide_eq_true (by kernel_rfl)) h1 hg.below hlt1) (trodAll_cons_mk (shut_int Tryz.underlying5 w2) trodAll_mk0))), rfl, hg.below.frame _, fun h => by cases h⟩
theorem over : Rows.untilMostRow.holds Tryz.pinned (OpenSpec.ofChange Rows.untilMostSpec) :=
  OpenClaim.holds_of_wide 6 Tryz.f6 rfl rfl rfl rfl rfl rfl rfl ⟨rfl, rfl, rfl, rfl, rfl⟩ rfl rfl rfl rfl rfl (by kernel_rfl) Tryz.func6 (by kernel_rfl)
    (of_decide_eq_true (by kernel_rfl)) (by unfold Func.isWrapper; first | (rw [if_pos (by decide +kernel)]; kernel_rfl) | (rw [if_neg (by decide +kernel)]; exact ⟨rfl, rfl⟩))
    (fun os started H enc _ => lifted os started H enc)
end Go.Proofs.YtkiopgegdkeojaaGreatDoor.untilMost
namespace Go.Proofs.YtkiopgegdkeojaaGreatDoor
/-- The tied card, for the claim. -/
theorem untilMost_holds : Rows.UntilMostCardSaid :=
  Claim7.holds_tied_plain_at .later [] [.widerDeep, .data] true (true, "50d0a8e881338e449854e1f9e687ffb06065694e89f80fd5725a1d128350ccf0") false untilMost.over (fun _ h => by cases h) (by kernel_rfl) (fun _ h => by cases h) untilMost_row_tie rfl ⟨rfl, rfl⟩ (by kernel_rfl) rfl
    (fun f fn hf hfn => by
      obtain rfl : f = 6 := Option.some.inj ((show Tryz.prog.funcNamed "almanacker/almanackerlaw17.UntilMost" = some 6 by kernel_rfl).symm.trans hf) |>.symm
      obtain rfl : fn = Tryz.f6 := (Option.some.inj (Tryz.func6.symm.trans hfn)).symm
      exact ⟨by kernel_rfl, fun j t ht => by
        rw [Tryz.params6] at ht
        have hm : t ∈ [25, 25, 5] := by simpa using Array.mem_of_getElem? ht
        have hall : ([25, 25, 5].all fun u => !Tryz.prog.wantsStandIn u) = true := by kernel_rfl
        exact (show Tryz.prog.wantsStandIn t = false by simpa using List.all_eq_true.1 hall t hm)⟩)
    (by kernel_rfl)
end Go.Proofs.YtkiopgegdkeojaaGreatDoor
