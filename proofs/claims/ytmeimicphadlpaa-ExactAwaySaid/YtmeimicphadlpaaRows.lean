/-
  No cell of these rows narrows 'for every input' (looked for: loops, veiled, ifaces, maps, wideKeys, modest, calm, conditions, laid).
  DERIVED. THE GIVEN ROWS OF THIS SEAT. 10 by the template 'for every input the law returns true; each argument reads behind the call as it read before'; 0 by the template 'total and deterministic' (their statements: YtmeimicphadlpaaTotals.lean).
  GIVEN WITH THE SEED: the statements are not yours to turn. If you find one false, say at which input.
  Laid BY PROGRAM, IN A SANDBOX (cutbox-rows.mjs): the forced cells as the released guide's own fill.sh prints them over the translation 63bd5244efa6c31c… (all of the seat's roots in one cut). By AI agents, Wed Nov 11 2026. No macro, syntax, notation, axiom, sorry.
-/
import Derived.Test.YtmeimicphadlpaaChecked
import GoSem.Claim
import GoSem.ClaimJoined
import GoSem.ClaimMapViews
import Derived.JoinedTies
import Derived.KernelRfl
namespace Go.Proofs.Ytmeimicphadlpaa
/- THE CELL 'sum', in the pinned program and in every row, IS THE sha256 OF THE DUMP (.gsa) THAT YtmeimicphadlpaaProg.lean LOADS. Nothing in Lean hashes anything: it is a label: what it is worth is what the hold of that sum in a sandbox is worth. -/
noncomputable def Try.pinned : Pinned := { name := "ytmeimicphadlpaa", sum := "63bd5244efa6c31c278e0e7c43f89f68edb4f7e1ad6e0e36c8b6b7769fb48476", checked := Try.checked }
namespace Rows
def none {H : Type} : Left H := { results := [], args := [] }

/-- 'almanackerlaw12.WeekTells': WHATEVER THE INPUT: true; the input reads as it did. -/
def weekTellsSpec : ChangeSpec := { name := "weekTells", fn := fun _ => fun
  | [d1, d2, d3] => { results := [.lit (.bool true)], args := [d1, d2, d3] }
  | _ => none }
def weekTellsRow : OpenClaim := { program := "ytmeimicphadlpaa", sum := "63bd5244efa6c31c278e0e7c43f89f68edb4f7e1ad6e0e36c8b6b7769fb48476", func := "almanacker/almanackerlaw12.WeekTells", spec := "weekTells", apart := false }
def WeekTellsSaid : Prop := weekTellsRow.holds Try.pinned (OpenSpec.ofChange weekTellsSpec)

/-- ITS FALSE NEIGHBOUR: 'it returns false'. Refute it at one input. -/
def weekTellsWrong : ChangeSpec := { name := "weekTells", fn := fun _ => fun
  | [d1, d2, d3] => { results := [.lit (.bool false)], args := [d1, d2, d3] }
  | _ => none }
def WeekTellsWrongFalsely : Prop := weekTellsRow.holds Try.pinned (OpenSpec.ofChange weekTellsWrong)

/-- 'almanackerlaw12.WeekNear': WHATEVER THE INPUT: true; the input reads as it did. -/
def weekNearSpec : ChangeSpec := { name := "weekNear", fn := fun _ => fun
  | [d1, d2, d3] => { results := [.lit (.bool true)], args := [d1, d2, d3] }
  | _ => none }
def weekNearRow : OpenClaim := { program := "ytmeimicphadlpaa", sum := "63bd5244efa6c31c278e0e7c43f89f68edb4f7e1ad6e0e36c8b6b7769fb48476", func := "almanacker/almanackerlaw12.WeekNear", spec := "weekNear", apart := false }
def WeekNearSaid : Prop := weekNearRow.holds Try.pinned (OpenSpec.ofChange weekNearSpec)

/-- ITS FALSE NEIGHBOUR: 'it returns false'. Refute it at one input. -/
def weekNearWrong : ChangeSpec := { name := "weekNear", fn := fun _ => fun
  | [d1, d2, d3] => { results := [.lit (.bool false)], args := [d1, d2, d3] }
  | _ => none }
def WeekNearWrongFalsely : Prop := weekNearRow.holds Try.pinned (OpenSpec.ofChange weekNearWrong)

/-- 'almanackerlaw12.WeekSteps': WHATEVER THE INPUT: true; the input reads as it did. -/
def weekStepsSpec : ChangeSpec := { name := "weekSteps", fn := fun _ => fun
  | [d1, d2] => { results := [.lit (.bool true)], args := [d1, d2] }
  | _ => none }
def weekStepsRow : OpenClaim := { program := "ytmeimicphadlpaa", sum := "63bd5244efa6c31c278e0e7c43f89f68edb4f7e1ad6e0e36c8b6b7769fb48476", func := "almanacker/almanackerlaw12.WeekSteps", spec := "weekSteps", apart := false }
def WeekStepsSaid : Prop := weekStepsRow.holds Try.pinned (OpenSpec.ofChange weekStepsSpec)

/-- ITS FALSE NEIGHBOUR: 'it returns false'. Refute it at one input. -/
def weekStepsWrong : ChangeSpec := { name := "weekSteps", fn := fun _ => fun
  | [d1, d2] => { results := [.lit (.bool false)], args := [d1, d2] }
  | _ => none }
def WeekStepsWrongFalsely : Prop := weekStepsRow.holds Try.pinned (OpenSpec.ofChange weekStepsWrong)

/-- 'almanackerlaw03.CycleTells': WHATEVER THE INPUT: true; the input reads as it did. -/
def cycleTellsSpec : ChangeSpec := { name := "cycleTells", fn := fun _ => fun
  | [d] => { results := [.lit (.bool true)], args := [d] }
  | _ => none }
def cycleTellsRow : OpenClaim := { program := "ytmeimicphadlpaa", sum := "63bd5244efa6c31c278e0e7c43f89f68edb4f7e1ad6e0e36c8b6b7769fb48476", func := "almanacker/almanackerlaw03.CycleTells", spec := "cycleTells", apart := false }
def CycleTellsSaid : Prop := cycleTellsRow.holds Try.pinned (OpenSpec.ofChange cycleTellsSpec)

/-- ITS FALSE NEIGHBOUR: 'it returns false'. Refute it at one input. -/
def cycleTellsWrong : ChangeSpec := { name := "cycleTells", fn := fun _ => fun
  | [d] => { results := [.lit (.bool false)], args := [d] }
  | _ => none }
def CycleTellsWrongFalsely : Prop := cycleTellsRow.holds Try.pinned (OpenSpec.ofChange cycleTellsWrong)

/-- 'almanackerlaw03.CycleNext': WHATEVER THE INPUT: true; the input reads as it did. -/
def cycleNextSpec : ChangeSpec := { name := "cycleNext", fn := fun _ => fun
  | [d] => { results := [.lit (.bool true)], args := [d] }
  | _ => none }
def cycleNextRow : OpenClaim := { program := "ytmeimicphadlpaa", sum := "63bd5244efa6c31c278e0e7c43f89f68edb4f7e1ad6e0e36c8b6b7769fb48476", func := "almanacker/almanackerlaw03.CycleNext", spec := "cycleNext", apart := false }
def CycleNextSaid : Prop := cycleNextRow.holds Try.pinned (OpenSpec.ofChange cycleNextSpec)

/-- ITS FALSE NEIGHBOUR: 'it returns false'. Refute it at one input. -/
def cycleNextWrong : ChangeSpec := { name := "cycleNext", fn := fun _ => fun
  | [d] => { results := [.lit (.bool false)], args := [d] }
  | _ => none }
def CycleNextWrongFalsely : Prop := cycleNextRow.holds Try.pinned (OpenSpec.ofChange cycleNextWrong)

/-- 'almanackerlaw03.CycleRound': WHATEVER THE INPUT: true; the input reads as it did. -/
def cycleRoundSpec : ChangeSpec := { name := "cycleRound", fn := fun _ => fun
  | [d] => { results := [.lit (.bool true)], args := [d] }
  | _ => none }
def cycleRoundRow : OpenClaim := { program := "ytmeimicphadlpaa", sum := "63bd5244efa6c31c278e0e7c43f89f68edb4f7e1ad6e0e36c8b6b7769fb48476", func := "almanacker/almanackerlaw03.CycleRound", spec := "cycleRound", apart := false }
def CycleRoundSaid : Prop := cycleRoundRow.holds Try.pinned (OpenSpec.ofChange cycleRoundSpec)

/-- ITS FALSE NEIGHBOUR: 'it returns false'. Refute it at one input. -/
def cycleRoundWrong : ChangeSpec := { name := "cycleRound", fn := fun _ => fun
  | [d] => { results := [.lit (.bool false)], args := [d] }
  | _ => none }
def CycleRoundWrongFalsely : Prop := cycleRoundRow.holds Try.pinned (OpenSpec.ofChange cycleRoundWrong)

/-- 'almanackerlaw01.ExactTells': WHATEVER THE INPUT: true; the input reads as it did. -/
def exactTellsSpec : ChangeSpec := { name := "exactTells", fn := fun _ => fun
  | [d1, d2] => { results := [.lit (.bool true)], args := [d1, d2] }
  | _ => none }
def exactTellsRow : OpenClaim := { program := "ytmeimicphadlpaa", sum := "63bd5244efa6c31c278e0e7c43f89f68edb4f7e1ad6e0e36c8b6b7769fb48476", func := "almanacker/almanackerlaw01.ExactTells", spec := "exactTells", apart := false }
def ExactTellsSaid : Prop := exactTellsRow.holds Try.pinned (OpenSpec.ofChange exactTellsSpec)

/-- ITS FALSE NEIGHBOUR: 'it returns false'. Refute it at one input. -/
def exactTellsWrong : ChangeSpec := { name := "exactTells", fn := fun _ => fun
  | [d1, d2] => { results := [.lit (.bool false)], args := [d1, d2] }
  | _ => none }
def ExactTellsWrongFalsely : Prop := exactTellsRow.holds Try.pinned (OpenSpec.ofChange exactTellsWrong)

/-- 'almanackerlaw01.ExactLeft': WHATEVER THE INPUT: true; the input reads as it did. -/
def exactLeftSpec : ChangeSpec := { name := "exactLeft", fn := fun _ => fun
  | [d1, d2] => { results := [.lit (.bool true)], args := [d1, d2] }
  | _ => none }
def exactLeftRow : OpenClaim := { program := "ytmeimicphadlpaa", sum := "63bd5244efa6c31c278e0e7c43f89f68edb4f7e1ad6e0e36c8b6b7769fb48476", func := "almanacker/almanackerlaw01.ExactLeft", spec := "exactLeft", apart := false }
def ExactLeftSaid : Prop := exactLeftRow.holds Try.pinned (OpenSpec.ofChange exactLeftSpec)

/-- ITS FALSE NEIGHBOUR: 'it returns false'. Refute it at one input. -/
def exactLeftWrong : ChangeSpec := { name := "exactLeft", fn := fun _ => fun
  | [d1, d2] => { results := [.lit (.bool false)], args := [d1, d2] }
  | _ => none }
def ExactLeftWrongFalsely : Prop := exactLeftRow.holds Try.pinned (OpenSpec.ofChange exactLeftWrong)

/-- 'almanackerlaw01.ExactTurned': WHATEVER THE INPUT: true; the input reads as it did. -/
def exactTurnedSpec : ChangeSpec := { name := "exactTurned", fn := fun _ => fun
  | [d1, d2] => { results := [.lit (.bool true)], args := [d1, d2] }
  | _ => none }
def exactTurnedRow : OpenClaim := { program := "ytmeimicphadlpaa", sum := "63bd5244efa6c31c278e0e7c43f89f68edb4f7e1ad6e0e36c8b6b7769fb48476", func := "almanacker/almanackerlaw01.ExactTurned", spec := "exactTurned", apart := false }
def ExactTurnedSaid : Prop := exactTurnedRow.holds Try.pinned (OpenSpec.ofChange exactTurnedSpec)

/-- ITS FALSE NEIGHBOUR: 'it returns false'. Refute it at one input. -/
def exactTurnedWrong : ChangeSpec := { name := "exactTurned", fn := fun _ => fun
  | [d1, d2] => { results := [.lit (.bool false)], args := [d1, d2] }
  | _ => none }
def ExactTurnedWrongFalsely : Prop := exactTurnedRow.holds Try.pinned (OpenSpec.ofChange exactTurnedWrong)

/-- 'almanackerlaw01.ExactAway': WHATEVER THE INPUT: true; the input reads as it did. -/
def exactAwaySpec : ChangeSpec := { name := "exactAway", fn := fun _ => fun
  | [d1, d2] => { results := [.lit (.bool true)], args := [d1, d2] }
  | _ => none }
def exactAwayRow : OpenClaim := { program := "ytmeimicphadlpaa", sum := "63bd5244efa6c31c278e0e7c43f89f68edb4f7e1ad6e0e36c8b6b7769fb48476", func := "almanacker/almanackerlaw01.ExactAway", spec := "exactAway", apart := false }
def ExactAwaySaid : Prop := exactAwayRow.holds Try.pinned (OpenSpec.ofChange exactAwaySpec)

/-- ITS FALSE NEIGHBOUR: 'it returns false'. Refute it at one input. -/
def exactAwayWrong : ChangeSpec := { name := "exactAway", fn := fun _ => fun
  | [d1, d2] => { results := [.lit (.bool false)], args := [d1, d2] }
  | _ => none }
def ExactAwayWrongFalsely : Prop := exactAwayRow.holds Try.pinned (OpenSpec.ofChange exactAwayWrong)

/- THE SECOND FORM. 'bulk': how many values and letters a reading holds, each counted each time it is reached (what is shared counts as often as it is met; a slice's spare places count too). A statement '..UptoSaid' is the law's where the arguments, and the package variables that the reading takes, are together of bulk at most 1048576: NARROWER than '..Said'. Prove '..Said' where nothing that the law and all that it calls make is longer than what came in: it says more and counts as full. Else prove '..UptoSaid'. A law counts once. -/
mutual
def uptoBulk {H : Type} : DataW H → Nat
  | .lit (.string bytes) => bytes.length + 1
  | .lit _ => 1
  | .nil => 1
  | .ptr d => uptoBulk d + 1
  | .slice elems spare => uptoBulkAll elems + uptoBulkAll spare + 1
  | .agg parts => uptoBulkAll parts + 1
  | .iface _ d => uptoBulk d + 1
  | .map entries => uptoBulkEntries entries + 1
  | .held _ => 1
def uptoBulkAll {H : Type} : List (DataW H) → Nat
  | [] => 0
  | d :: r => uptoBulk d + uptoBulkAll r
def uptoBulkEntries {H : Type} : List (Lit × DataW H) → Nat
  | [] => 0
  | x :: r => uptoBulkEntry x + uptoBulkEntries r
def uptoBulkEntry {H : Type} : Lit × DataW H → Nat
  | (.string bytes, d) => bytes.length + uptoBulk d + 1
  | (_, d) => uptoBulk d + 1
 end
def uptoSmall : (H : Type) → List (DataW H) → Bool := fun _ ds => decide (uptoBulkAll ds ≤ 1048576)
def OpenSpec.upto (s : _root_.Go.ChangeSpec) : _root_.Go.OpenSpec := { _root_.Go.OpenSpec.ofChange s with cond := some uptoSmall }

/-- 'almanackerlaw12.WeekTells', WHERE WHAT IT READS IS OF BULK AT MOST 1048576: true; the input reads as it did. -/
def weekTellsUptoRow : OpenClaim := { program := "ytmeimicphadlpaa", sum := "63bd5244efa6c31c278e0e7c43f89f68edb4f7e1ad6e0e36c8b6b7769fb48476", func := "almanacker/almanackerlaw12.WeekTells", spec := "weekTells", apart := false, narrowed := true }
def WeekTellsUptoSaid : Prop := weekTellsUptoRow.holds Try.pinned (OpenSpec.upto weekTellsSpec)

/-- 'almanackerlaw12.WeekNear', WHERE WHAT IT READS IS OF BULK AT MOST 1048576: true; the input reads as it did. -/
def weekNearUptoRow : OpenClaim := { program := "ytmeimicphadlpaa", sum := "63bd5244efa6c31c278e0e7c43f89f68edb4f7e1ad6e0e36c8b6b7769fb48476", func := "almanacker/almanackerlaw12.WeekNear", spec := "weekNear", apart := false, narrowed := true }
def WeekNearUptoSaid : Prop := weekNearUptoRow.holds Try.pinned (OpenSpec.upto weekNearSpec)

/-- 'almanackerlaw12.WeekSteps', WHERE WHAT IT READS IS OF BULK AT MOST 1048576: true; the input reads as it did. -/
def weekStepsUptoRow : OpenClaim := { program := "ytmeimicphadlpaa", sum := "63bd5244efa6c31c278e0e7c43f89f68edb4f7e1ad6e0e36c8b6b7769fb48476", func := "almanacker/almanackerlaw12.WeekSteps", spec := "weekSteps", apart := false, narrowed := true }
def WeekStepsUptoSaid : Prop := weekStepsUptoRow.holds Try.pinned (OpenSpec.upto weekStepsSpec)

/-- 'almanackerlaw03.CycleTells', WHERE WHAT IT READS IS OF BULK AT MOST 1048576: true; the input reads as it did. -/
def cycleTellsUptoRow : OpenClaim := { program := "ytmeimicphadlpaa", sum := "63bd5244efa6c31c278e0e7c43f89f68edb4f7e1ad6e0e36c8b6b7769fb48476", func := "almanacker/almanackerlaw03.CycleTells", spec := "cycleTells", apart := false, narrowed := true }
def CycleTellsUptoSaid : Prop := cycleTellsUptoRow.holds Try.pinned (OpenSpec.upto cycleTellsSpec)

/-- 'almanackerlaw03.CycleNext', WHERE WHAT IT READS IS OF BULK AT MOST 1048576: true; the input reads as it did. -/
def cycleNextUptoRow : OpenClaim := { program := "ytmeimicphadlpaa", sum := "63bd5244efa6c31c278e0e7c43f89f68edb4f7e1ad6e0e36c8b6b7769fb48476", func := "almanacker/almanackerlaw03.CycleNext", spec := "cycleNext", apart := false, narrowed := true }
def CycleNextUptoSaid : Prop := cycleNextUptoRow.holds Try.pinned (OpenSpec.upto cycleNextSpec)

/-- 'almanackerlaw03.CycleRound', WHERE WHAT IT READS IS OF BULK AT MOST 1048576: true; the input reads as it did. -/
def cycleRoundUptoRow : OpenClaim := { program := "ytmeimicphadlpaa", sum := "63bd5244efa6c31c278e0e7c43f89f68edb4f7e1ad6e0e36c8b6b7769fb48476", func := "almanacker/almanackerlaw03.CycleRound", spec := "cycleRound", apart := false, narrowed := true }
def CycleRoundUptoSaid : Prop := cycleRoundUptoRow.holds Try.pinned (OpenSpec.upto cycleRoundSpec)

/-- 'almanackerlaw01.ExactTells', WHERE WHAT IT READS IS OF BULK AT MOST 1048576: true; the input reads as it did. -/
def exactTellsUptoRow : OpenClaim := { program := "ytmeimicphadlpaa", sum := "63bd5244efa6c31c278e0e7c43f89f68edb4f7e1ad6e0e36c8b6b7769fb48476", func := "almanacker/almanackerlaw01.ExactTells", spec := "exactTells", apart := false, narrowed := true }
def ExactTellsUptoSaid : Prop := exactTellsUptoRow.holds Try.pinned (OpenSpec.upto exactTellsSpec)

/-- 'almanackerlaw01.ExactLeft', WHERE WHAT IT READS IS OF BULK AT MOST 1048576: true; the input reads as it did. -/
def exactLeftUptoRow : OpenClaim := { program := "ytmeimicphadlpaa", sum := "63bd5244efa6c31c278e0e7c43f89f68edb4f7e1ad6e0e36c8b6b7769fb48476", func := "almanacker/almanackerlaw01.ExactLeft", spec := "exactLeft", apart := false, narrowed := true }
def ExactLeftUptoSaid : Prop := exactLeftUptoRow.holds Try.pinned (OpenSpec.upto exactLeftSpec)

/-- 'almanackerlaw01.ExactTurned', WHERE WHAT IT READS IS OF BULK AT MOST 1048576: true; the input reads as it did. -/
def exactTurnedUptoRow : OpenClaim := { program := "ytmeimicphadlpaa", sum := "63bd5244efa6c31c278e0e7c43f89f68edb4f7e1ad6e0e36c8b6b7769fb48476", func := "almanacker/almanackerlaw01.ExactTurned", spec := "exactTurned", apart := false, narrowed := true }
def ExactTurnedUptoSaid : Prop := exactTurnedUptoRow.holds Try.pinned (OpenSpec.upto exactTurnedSpec)

/-- 'almanackerlaw01.ExactAway', WHERE WHAT IT READS IS OF BULK AT MOST 1048576: true; the input reads as it did. -/
def exactAwayUptoRow : OpenClaim := { program := "ytmeimicphadlpaa", sum := "63bd5244efa6c31c278e0e7c43f89f68edb4f7e1ad6e0e36c8b6b7769fb48476", func := "almanacker/almanackerlaw01.ExactAway", spec := "exactAway", apart := false, narrowed := true }
def ExactAwayUptoSaid : Prop := exactAwayUptoRow.holds Try.pinned (OpenSpec.upto exactAwaySpec)

end Rows
end Go.Proofs.Ytmeimicphadlpaa
