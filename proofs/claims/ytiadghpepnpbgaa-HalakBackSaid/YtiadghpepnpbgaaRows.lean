/-
  No cell of these rows narrows 'for every input' (looked for: loops, veiled, ifaces, maps, wideKeys, modest, calm, conditions, laid).
  DERIVED. THE GIVEN ROWS OF THIS SEAT. 12 by the template 'for every input the law returns true; each argument reads behind the call as it read before'; 0 by the template 'total and deterministic' (their statements: YtiadghpepnpbgaaTotals.lean).
  GIVEN WITH THE SEED: the statements are not yours to turn. If you find one false, say at which input.
  Laid BY PROGRAM, IN A SANDBOX (cutbox-rows.mjs): the forced cells as the released guide's own fill.sh prints them over the translation a1b2507cacb46969… (all of the seat's roots in one cut). By AI agents, Wed Nov 11 2026. No macro, syntax, notation, axiom, sorry.
-/
import Derived.Test.YtiadghpepnpbgaaChecked
import GoSem.Claim
import GoSem.ClaimJoined
import GoSem.ClaimMapViews
import Derived.JoinedTies
import Derived.KernelRfl
namespace Go.Proofs.Ytiadghpepnpbgaa
/- THE CELL 'sum', in the pinned program and in every row, IS THE sha256 OF THE DUMP (.gsa) THAT YtiadghpepnpbgaaProg.lean LOADS. Nothing in Lean hashes anything: it is a label: what it is worth is what the hold of that sum in a sandbox is worth. -/
noncomputable def Try.pinned : Pinned := { name := "ytiadghpepnpbgaa", sum := "a1b2507cacb4696993754c822e28d116ddea7ac182eeb8fa8f0ece7629160536", checked := Try.checked }
namespace Rows
def none {H : Type} : Left H := { results := [], args := [] }

/-- 'almanackerlaw02.HalakSums': WHATEVER THE INPUT: true; the input reads as it did. -/
def halakSumsSpec : ChangeSpec := { name := "halakSums", fn := fun _ => fun
  | [d1, d2, d3] => { results := [.lit (.bool true)], args := [d1, d2, d3] }
  | _ => none }
def halakSumsRow : OpenClaim := { program := "ytiadghpepnpbgaa", sum := "a1b2507cacb4696993754c822e28d116ddea7ac182eeb8fa8f0ece7629160536", func := "almanacker/almanackerlaw02.HalakSums", spec := "halakSums", apart := false }
def HalakSumsSaid : Prop := halakSumsRow.holds Try.pinned (OpenSpec.ofChange halakSumsSpec)

/-- ITS FALSE NEIGHBOUR: 'it returns false'. Refute it at one input. -/
def halakSumsWrong : ChangeSpec := { name := "halakSums", fn := fun _ => fun
  | [d1, d2, d3] => { results := [.lit (.bool false)], args := [d1, d2, d3] }
  | _ => none }
def HalakSumsWrongFalsely : Prop := halakSumsRow.holds Try.pinned (OpenSpec.ofChange halakSumsWrong)

/-- 'almanackerlaw02.HalakTells': WHATEVER THE INPUT: true; the input reads as it did. -/
def halakTellsSpec : ChangeSpec := { name := "halakTells", fn := fun _ => fun
  | [d1, d2, d3] => { results := [.lit (.bool true)], args := [d1, d2, d3] }
  | _ => none }
def halakTellsRow : OpenClaim := { program := "ytiadghpepnpbgaa", sum := "a1b2507cacb4696993754c822e28d116ddea7ac182eeb8fa8f0ece7629160536", func := "almanacker/almanackerlaw02.HalakTells", spec := "halakTells", apart := false }
def HalakTellsSaid : Prop := halakTellsRow.holds Try.pinned (OpenSpec.ofChange halakTellsSpec)

/-- ITS FALSE NEIGHBOUR: 'it returns false'. Refute it at one input. -/
def halakTellsWrong : ChangeSpec := { name := "halakTells", fn := fun _ => fun
  | [d1, d2, d3] => { results := [.lit (.bool false)], args := [d1, d2, d3] }
  | _ => none }
def HalakTellsWrongFalsely : Prop := halakTellsRow.holds Try.pinned (OpenSpec.ofChange halakTellsWrong)

/-- 'almanackerlaw02.HalakBack': WHATEVER THE INPUT: true; the input reads as it did. -/
def halakBackSpec : ChangeSpec := { name := "halakBack", fn := fun _ => fun
  | [d1, d2] => { results := [.lit (.bool true)], args := [d1, d2] }
  | _ => none }
def halakBackRow : OpenClaim := { program := "ytiadghpepnpbgaa", sum := "a1b2507cacb4696993754c822e28d116ddea7ac182eeb8fa8f0ece7629160536", func := "almanacker/almanackerlaw02.HalakBack", spec := "halakBack", apart := false }
def HalakBackSaid : Prop := halakBackRow.holds Try.pinned (OpenSpec.ofChange halakBackSpec)

/-- ITS FALSE NEIGHBOUR: 'it returns false'. Refute it at one input. -/
def halakBackWrong : ChangeSpec := { name := "halakBack", fn := fun _ => fun
  | [d1, d2] => { results := [.lit (.bool false)], args := [d1, d2] }
  | _ => none }
def HalakBackWrongFalsely : Prop := halakBackRow.holds Try.pinned (OpenSpec.ofChange halakBackWrong)

/-- 'almanackerlaw04.MoladTells': WHATEVER THE INPUT: true; the input reads as it did. -/
def moladTellsSpec : ChangeSpec := { name := "moladTells", fn := fun _ => fun
  | [d] => { results := [.lit (.bool true)], args := [d] }
  | _ => none }
def moladTellsRow : OpenClaim := { program := "ytiadghpepnpbgaa", sum := "a1b2507cacb4696993754c822e28d116ddea7ac182eeb8fa8f0ece7629160536", func := "almanacker/almanackerlaw04.MoladTells", spec := "moladTells", apart := false }
def MoladTellsSaid : Prop := moladTellsRow.holds Try.pinned (OpenSpec.ofChange moladTellsSpec)

/-- ITS FALSE NEIGHBOUR: 'it returns false'. Refute it at one input. -/
def moladTellsWrong : ChangeSpec := { name := "moladTells", fn := fun _ => fun
  | [d] => { results := [.lit (.bool false)], args := [d] }
  | _ => none }
def MoladTellsWrongFalsely : Prop := moladTellsRow.holds Try.pinned (OpenSpec.ofChange moladTellsWrong)

/-- 'almanackerlaw04.MoladNext': WHATEVER THE INPUT: true; the input reads as it did. -/
def moladNextSpec : ChangeSpec := { name := "moladNext", fn := fun _ => fun
  | [d1, d2] => { results := [.lit (.bool true)], args := [d1, d2] }
  | _ => none }
def moladNextRow : OpenClaim := { program := "ytiadghpepnpbgaa", sum := "a1b2507cacb4696993754c822e28d116ddea7ac182eeb8fa8f0ece7629160536", func := "almanacker/almanackerlaw04.MoladNext", spec := "moladNext", apart := false }
def MoladNextSaid : Prop := moladNextRow.holds Try.pinned (OpenSpec.ofChange moladNextSpec)

/-- ITS FALSE NEIGHBOUR: 'it returns false'. Refute it at one input. -/
def moladNextWrong : ChangeSpec := { name := "moladNext", fn := fun _ => fun
  | [d1, d2] => { results := [.lit (.bool false)], args := [d1, d2] }
  | _ => none }
def MoladNextWrongFalsely : Prop := moladNextRow.holds Try.pinned (OpenSpec.ofChange moladNextWrong)

/-- 'almanackerlaw04.MoladWeek': WHATEVER THE INPUT: true; the input reads as it did. -/
def moladWeekSpec : ChangeSpec := { name := "moladWeek", fn := fun _ => fun
  | [d] => { results := [.lit (.bool true)], args := [d] }
  | _ => none }
def moladWeekRow : OpenClaim := { program := "ytiadghpepnpbgaa", sum := "a1b2507cacb4696993754c822e28d116ddea7ac182eeb8fa8f0ece7629160536", func := "almanacker/almanackerlaw04.MoladWeek", spec := "moladWeek", apart := false }
def MoladWeekSaid : Prop := moladWeekRow.holds Try.pinned (OpenSpec.ofChange moladWeekSpec)

/-- ITS FALSE NEIGHBOUR: 'it returns false'. Refute it at one input. -/
def moladWeekWrong : ChangeSpec := { name := "moladWeek", fn := fun _ => fun
  | [d] => { results := [.lit (.bool false)], args := [d] }
  | _ => none }
def MoladWeekWrongFalsely : Prop := moladWeekRow.holds Try.pinned (OpenSpec.ofChange moladWeekWrong)

/-- 'almanackerlaw05.NewyearTells': WHATEVER THE INPUT: true; the input reads as it did. -/
def newyearTellsSpec : ChangeSpec := { name := "newyearTells", fn := fun _ => fun
  | [d] => { results := [.lit (.bool true)], args := [d] }
  | _ => none }
def newyearTellsRow : OpenClaim := { program := "ytiadghpepnpbgaa", sum := "a1b2507cacb4696993754c822e28d116ddea7ac182eeb8fa8f0ece7629160536", func := "almanacker/almanackerlaw05.NewyearTells", spec := "newyearTells", apart := false }
def NewyearTellsSaid : Prop := newyearTellsRow.holds Try.pinned (OpenSpec.ofChange newyearTellsSpec)

/-- ITS FALSE NEIGHBOUR: 'it returns false'. Refute it at one input. -/
def newyearTellsWrong : ChangeSpec := { name := "newyearTells", fn := fun _ => fun
  | [d] => { results := [.lit (.bool false)], args := [d] }
  | _ => none }
def NewyearTellsWrongFalsely : Prop := newyearTellsRow.holds Try.pinned (OpenSpec.ofChange newyearTellsWrong)

/-- 'almanackerlaw05.NewyearDays': WHATEVER THE INPUT: true; the input reads as it did. -/
def newyearDaysSpec : ChangeSpec := { name := "newyearDays", fn := fun _ => fun
  | [d] => { results := [.lit (.bool true)], args := [d] }
  | _ => none }
def newyearDaysRow : OpenClaim := { program := "ytiadghpepnpbgaa", sum := "a1b2507cacb4696993754c822e28d116ddea7ac182eeb8fa8f0ece7629160536", func := "almanacker/almanackerlaw05.NewyearDays", spec := "newyearDays", apart := false }
def NewyearDaysSaid : Prop := newyearDaysRow.holds Try.pinned (OpenSpec.ofChange newyearDaysSpec)

/-- ITS FALSE NEIGHBOUR: 'it returns false'. Refute it at one input. -/
def newyearDaysWrong : ChangeSpec := { name := "newyearDays", fn := fun _ => fun
  | [d] => { results := [.lit (.bool false)], args := [d] }
  | _ => none }
def NewyearDaysWrongFalsely : Prop := newyearDaysRow.holds Try.pinned (OpenSpec.ofChange newyearDaysWrong)

/-- 'almanackerlaw05.NewyearMoves': WHATEVER THE INPUT: true; the input reads as it did. -/
def newyearMovesSpec : ChangeSpec := { name := "newyearMoves", fn := fun _ => fun
  | [d] => { results := [.lit (.bool true)], args := [d] }
  | _ => none }
def newyearMovesRow : OpenClaim := { program := "ytiadghpepnpbgaa", sum := "a1b2507cacb4696993754c822e28d116ddea7ac182eeb8fa8f0ece7629160536", func := "almanacker/almanackerlaw05.NewyearMoves", spec := "newyearMoves", apart := false }
def NewyearMovesSaid : Prop := newyearMovesRow.holds Try.pinned (OpenSpec.ofChange newyearMovesSpec)

/-- ITS FALSE NEIGHBOUR: 'it returns false'. Refute it at one input. -/
def newyearMovesWrong : ChangeSpec := { name := "newyearMoves", fn := fun _ => fun
  | [d] => { results := [.lit (.bool false)], args := [d] }
  | _ => none }
def NewyearMovesWrongFalsely : Prop := newyearMovesRow.holds Try.pinned (OpenSpec.ofChange newyearMovesWrong)

/-- 'almanackerlaw06.ClosedSame': WHATEVER THE INPUT: true; the input reads as it did. -/
def closedSameSpec : ChangeSpec := { name := "closedSame", fn := fun _ => fun
  | [d] => { results := [.lit (.bool true)], args := [d] }
  | _ => none }
def closedSameRow : OpenClaim := { program := "ytiadghpepnpbgaa", sum := "a1b2507cacb4696993754c822e28d116ddea7ac182eeb8fa8f0ece7629160536", func := "almanacker/almanackerlaw06.ClosedSame", spec := "closedSame", unfollowed := true, recurses := true, apart := false }
def ClosedSameSaid : Prop := closedSameRow.holds Try.pinned (OpenSpec.ofChange closedSameSpec)

/-- ITS FALSE NEIGHBOUR: 'it returns false'. Refute it at one input. -/
def closedSameWrong : ChangeSpec := { name := "closedSame", fn := fun _ => fun
  | [d] => { results := [.lit (.bool false)], args := [d] }
  | _ => none }
def ClosedSameWrongFalsely : Prop := closedSameRow.holds Try.pinned (OpenSpec.ofChange closedSameWrong)

/-- 'almanackerlaw06.ClosedYears': WHATEVER THE INPUT: true; the input reads as it did. -/
def closedYearsSpec : ChangeSpec := { name := "closedYears", fn := fun _ => fun
  | [d] => { results := [.lit (.bool true)], args := [d] }
  | _ => none }
def closedYearsRow : OpenClaim := { program := "ytiadghpepnpbgaa", sum := "a1b2507cacb4696993754c822e28d116ddea7ac182eeb8fa8f0ece7629160536", func := "almanacker/almanackerlaw06.ClosedYears", spec := "closedYears", unfollowed := true, recurses := true, apart := false }
def ClosedYearsSaid : Prop := closedYearsRow.holds Try.pinned (OpenSpec.ofChange closedYearsSpec)

/-- ITS FALSE NEIGHBOUR: 'it returns false'. Refute it at one input. -/
def closedYearsWrong : ChangeSpec := { name := "closedYears", fn := fun _ => fun
  | [d] => { results := [.lit (.bool false)], args := [d] }
  | _ => none }
def ClosedYearsWrongFalsely : Prop := closedYearsRow.holds Try.pinned (OpenSpec.ofChange closedYearsWrong)

/-- 'almanackerlaw06.ClosedTells': WHATEVER THE INPUT: true; the input reads as it did. -/
def closedTellsSpec : ChangeSpec := { name := "closedTells", fn := fun _ => fun
  | [d1, d2] => { results := [.lit (.bool true)], args := [d1, d2] }
  | _ => none }
def closedTellsRow : OpenClaim := { program := "ytiadghpepnpbgaa", sum := "a1b2507cacb4696993754c822e28d116ddea7ac182eeb8fa8f0ece7629160536", func := "almanacker/almanackerlaw06.ClosedTells", spec := "closedTells", unfollowed := true, recurses := true, apart := false }
def ClosedTellsSaid : Prop := closedTellsRow.holds Try.pinned (OpenSpec.ofChange closedTellsSpec)

/-- ITS FALSE NEIGHBOUR: 'it returns false'. Refute it at one input. -/
def closedTellsWrong : ChangeSpec := { name := "closedTells", fn := fun _ => fun
  | [d1, d2] => { results := [.lit (.bool false)], args := [d1, d2] }
  | _ => none }
def ClosedTellsWrongFalsely : Prop := closedTellsRow.holds Try.pinned (OpenSpec.ofChange closedTellsWrong)

/- THE SECOND FORM. 'bulk': how many values and letters a reading holds, each counted each time it is reached (what is shared counts as often as it is met; a slice's spare places count too). A statement '..UptoSaid' is the law's where the arguments, and the package variables that the reading takes, are together of bulk at most 1048576: NARROWER than '..Said'. Prove '..Said' where nothing that the law and all that it calls make is longer than what came in: it says more and counts as full. Else prove '..UptoSaid'. A law counts once. -/
mutual
def uptoBulk {H : Type} : DataW H → Nat
  | .lit (.string bytes) => bytes.length + 1
  | .lit _ => 1
  | .nil => 1
  | .ptr d => uptoBulk d + 1
  | .slice elems spare => uptoBulkAll elems + uptoBulkAll spare + 1
  | .agg parts => uptoBulkAll parts + 1
  | .iface _ d => uptoBulk d + 1
  | .map entries => uptoBulkEntries entries + 1
  | .held _ => 1
def uptoBulkAll {H : Type} : List (DataW H) → Nat
  | [] => 0
  | d :: r => uptoBulk d + uptoBulkAll r
def uptoBulkEntries {H : Type} : List (Lit × DataW H) → Nat
  | [] => 0
  | x :: r => uptoBulkEntry x + uptoBulkEntries r
def uptoBulkEntry {H : Type} : Lit × DataW H → Nat
  | (.string bytes, d) => bytes.length + uptoBulk d + 1
  | (_, d) => uptoBulk d + 1
 end
def uptoSmall : (H : Type) → List (DataW H) → Bool := fun _ ds => decide (uptoBulkAll ds ≤ 1048576)
def OpenSpec.upto (s : _root_.Go.ChangeSpec) : _root_.Go.OpenSpec := { _root_.Go.OpenSpec.ofChange s with cond := some uptoSmall }

/-- 'almanackerlaw02.HalakSums', WHERE WHAT IT READS IS OF BULK AT MOST 1048576: true; the input reads as it did. -/
def halakSumsUptoRow : OpenClaim := { program := "ytiadghpepnpbgaa", sum := "a1b2507cacb4696993754c822e28d116ddea7ac182eeb8fa8f0ece7629160536", func := "almanacker/almanackerlaw02.HalakSums", spec := "halakSums", apart := false, narrowed := true }
def HalakSumsUptoSaid : Prop := halakSumsUptoRow.holds Try.pinned (OpenSpec.upto halakSumsSpec)

/-- 'almanackerlaw02.HalakTells', WHERE WHAT IT READS IS OF BULK AT MOST 1048576: true; the input reads as it did. -/
def halakTellsUptoRow : OpenClaim := { program := "ytiadghpepnpbgaa", sum := "a1b2507cacb4696993754c822e28d116ddea7ac182eeb8fa8f0ece7629160536", func := "almanacker/almanackerlaw02.HalakTells", spec := "halakTells", apart := false, narrowed := true }
def HalakTellsUptoSaid : Prop := halakTellsUptoRow.holds Try.pinned (OpenSpec.upto halakTellsSpec)

/-- 'almanackerlaw02.HalakBack', WHERE WHAT IT READS IS OF BULK AT MOST 1048576: true; the input reads as it did. -/
def halakBackUptoRow : OpenClaim := { program := "ytiadghpepnpbgaa", sum := "a1b2507cacb4696993754c822e28d116ddea7ac182eeb8fa8f0ece7629160536", func := "almanacker/almanackerlaw02.HalakBack", spec := "halakBack", apart := false, narrowed := true }
def HalakBackUptoSaid : Prop := halakBackUptoRow.holds Try.pinned (OpenSpec.upto halakBackSpec)

/-- 'almanackerlaw04.MoladTells', WHERE WHAT IT READS IS OF BULK AT MOST 1048576: true; the input reads as it did. -/
def moladTellsUptoRow : OpenClaim := { program := "ytiadghpepnpbgaa", sum := "a1b2507cacb4696993754c822e28d116ddea7ac182eeb8fa8f0ece7629160536", func := "almanacker/almanackerlaw04.MoladTells", spec := "moladTells", apart := false, narrowed := true }
def MoladTellsUptoSaid : Prop := moladTellsUptoRow.holds Try.pinned (OpenSpec.upto moladTellsSpec)

/-- 'almanackerlaw04.MoladNext', WHERE WHAT IT READS IS OF BULK AT MOST 1048576: true; the input reads as it did. -/
def moladNextUptoRow : OpenClaim := { program := "ytiadghpepnpbgaa", sum := "a1b2507cacb4696993754c822e28d116ddea7ac182eeb8fa8f0ece7629160536", func := "almanacker/almanackerlaw04.MoladNext", spec := "moladNext", apart := false, narrowed := true }
def MoladNextUptoSaid : Prop := moladNextUptoRow.holds Try.pinned (OpenSpec.upto moladNextSpec)

/-- 'almanackerlaw04.MoladWeek', WHERE WHAT IT READS IS OF BULK AT MOST 1048576: true; the input reads as it did. -/
def moladWeekUptoRow : OpenClaim := { program := "ytiadghpepnpbgaa", sum := "a1b2507cacb4696993754c822e28d116ddea7ac182eeb8fa8f0ece7629160536", func := "almanacker/almanackerlaw04.MoladWeek", spec := "moladWeek", apart := false, narrowed := true }
def MoladWeekUptoSaid : Prop := moladWeekUptoRow.holds Try.pinned (OpenSpec.upto moladWeekSpec)

/-- 'almanackerlaw05.NewyearTells', WHERE WHAT IT READS IS OF BULK AT MOST 1048576: true; the input reads as it did. -/
def newyearTellsUptoRow : OpenClaim := { program := "ytiadghpepnpbgaa", sum := "a1b2507cacb4696993754c822e28d116ddea7ac182eeb8fa8f0ece7629160536", func := "almanacker/almanackerlaw05.NewyearTells", spec := "newyearTells", apart := false, narrowed := true }
def NewyearTellsUptoSaid : Prop := newyearTellsUptoRow.holds Try.pinned (OpenSpec.upto newyearTellsSpec)

/-- 'almanackerlaw05.NewyearDays', WHERE WHAT IT READS IS OF BULK AT MOST 1048576: true; the input reads as it did. -/
def newyearDaysUptoRow : OpenClaim := { program := "ytiadghpepnpbgaa", sum := "a1b2507cacb4696993754c822e28d116ddea7ac182eeb8fa8f0ece7629160536", func := "almanacker/almanackerlaw05.NewyearDays", spec := "newyearDays", apart := false, narrowed := true }
def NewyearDaysUptoSaid : Prop := newyearDaysUptoRow.holds Try.pinned (OpenSpec.upto newyearDaysSpec)

/-- 'almanackerlaw05.NewyearMoves', WHERE WHAT IT READS IS OF BULK AT MOST 1048576: true; the input reads as it did. -/
def newyearMovesUptoRow : OpenClaim := { program := "ytiadghpepnpbgaa", sum := "a1b2507cacb4696993754c822e28d116ddea7ac182eeb8fa8f0ece7629160536", func := "almanacker/almanackerlaw05.NewyearMoves", spec := "newyearMoves", apart := false, narrowed := true }
def NewyearMovesUptoSaid : Prop := newyearMovesUptoRow.holds Try.pinned (OpenSpec.upto newyearMovesSpec)

/-- 'almanackerlaw06.ClosedSame', WHERE WHAT IT READS IS OF BULK AT MOST 1048576: true; the input reads as it did. -/
def closedSameUptoRow : OpenClaim := { program := "ytiadghpepnpbgaa", sum := "a1b2507cacb4696993754c822e28d116ddea7ac182eeb8fa8f0ece7629160536", func := "almanacker/almanackerlaw06.ClosedSame", spec := "closedSame", unfollowed := true, recurses := true, apart := false, narrowed := true }
def ClosedSameUptoSaid : Prop := closedSameUptoRow.holds Try.pinned (OpenSpec.upto closedSameSpec)

/-- 'almanackerlaw06.ClosedYears', WHERE WHAT IT READS IS OF BULK AT MOST 1048576: true; the input reads as it did. -/
def closedYearsUptoRow : OpenClaim := { program := "ytiadghpepnpbgaa", sum := "a1b2507cacb4696993754c822e28d116ddea7ac182eeb8fa8f0ece7629160536", func := "almanacker/almanackerlaw06.ClosedYears", spec := "closedYears", unfollowed := true, recurses := true, apart := false, narrowed := true }
def ClosedYearsUptoSaid : Prop := closedYearsUptoRow.holds Try.pinned (OpenSpec.upto closedYearsSpec)

/-- 'almanackerlaw06.ClosedTells', WHERE WHAT IT READS IS OF BULK AT MOST 1048576: true; the input reads as it did. -/
def closedTellsUptoRow : OpenClaim := { program := "ytiadghpepnpbgaa", sum := "a1b2507cacb4696993754c822e28d116ddea7ac182eeb8fa8f0ece7629160536", func := "almanacker/almanackerlaw06.ClosedTells", spec := "closedTells", unfollowed := true, recurses := true, apart := false, narrowed := true }
def ClosedTellsUptoSaid : Prop := closedTellsUptoRow.holds Try.pinned (OpenSpec.upto closedTellsSpec)

end Rows
end Go.Proofs.Ytiadghpepnpbgaa
