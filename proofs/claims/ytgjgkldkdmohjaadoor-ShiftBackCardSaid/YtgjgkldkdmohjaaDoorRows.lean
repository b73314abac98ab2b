/-
  NARROWER THAN 'FOR EVERY INPUT', by the rows' own cells (each row's printed sentence says how): MonthTells: laid · MonthSums: laid · KeviahTells: laid · KeviahYears: laid · KeviahNumbers: laid · ShiftBack: laid · ShiftOne: laid · ShiftTells: laid · HebBack: laid · HebMonths: laid · HebNext: laid · HebTells: laid.
  DERIVED. THE GIVEN ROWS OF THIS SEAT. 12 by the template 'for every input the law returns true; each argument reads behind the call as it read before'; 0 by the template 'total and deterministic' (their statements: YtgjgkldkdmohjaaDoorTotals.lean).
  GIVEN WITH THE SEED: the statements are not yours to turn. If you find one false, say at which input.
  Laid BY PROGRAM, IN A SANDBOX (cutbox-rows.mjs): the forced cells as the released guide's own fill.sh prints them over the translation cf6de9d1f6bdb05b… (all of the seat's roots in one cut). By AI agents, Wed Nov 11 2026. No macro, syntax, notation, axiom, sorry.
-/
import Derived.Test.YtgjgkldkdmohjaaDoorChecked
import GoSem.Claim
import GoSem.ClaimJoined
import GoSem.ClaimMapViews
import Derived.JoinedTies
import Derived.KernelRfl
namespace Go.Proofs.YtgjgkldkdmohjaaDoor
/- THE CELL 'sum', in the pinned program and in every row, IS THE sha256 OF THE DUMP (.gsa) THAT YtgjgkldkdmohjaaDoorProg.lean LOADS. Nothing in Lean hashes anything: it is a label: what it is worth is what the hold of that sum in a sandbox is worth. -/
noncomputable def Tryd.pinned : Pinned := { name := "ytgjgkldkdmohjaadoor", sum := "cf6de9d1f6bdb05bb72d2205fef0de02923a4dece925e61fc4057bbc2a9239ae", checked := Tryd.checked }
namespace Rows
def none {H : Type} : Left H := { results := [], args := [] }

/- WHAT THE LISTED PACKAGE-LEVEL VARIABLES READ AS WHEN THE CALL BEGINS. Each datum BY PROGRAM (the guide's laid-datum.mjs) off the statement by which the dump's own 'gosem.cut.vars' lays the variable. In a bare row this is a premise. The card (YtgjgkldkdmohjaaDoorCards.lean) ties it to the program's text. -/
def laid_almanacker_keviah_types {H : Type} : DataW H := .agg [.agg [.lit (.int .i64 1), .lit (.int .i64 0), .lit (.bool false)], .agg [.lit (.int .i64 1), .lit (.int .i64 2), .lit (.bool false)], .agg [.lit (.int .i64 2), .lit (.int .i64 1), .lit (.bool false)], .agg [.lit (.int .i64 4), .lit (.int .i64 1), .lit (.bool false)], .agg [.lit (.int .i64 4), .lit (.int .i64 2), .lit (.bool false)], .agg [.lit (.int .i64 6), .lit (.int .i64 0), .lit (.bool false)], .agg [.lit (.int .i64 6), .lit (.int .i64 2), .lit (.bool false)], .agg [.lit (.int .i64 1), .lit (.int .i64 0), .lit (.bool true)], .agg [.lit (.int .i64 1), .lit (.int .i64 2), .lit (.bool true)], .agg [.lit (.int .i64 2), .lit (.int .i64 1), .lit (.bool true)], .agg [.lit (.int .i64 4), .lit (.int .i64 0), .lit (.bool true)], .agg [.lit (.int .i64 4), .lit (.int .i64 2), .lit (.bool true)], .agg [.lit (.int .i64 6), .lit (.int .i64 0), .lit (.bool true)], .agg [.lit (.int .i64 6), .lit (.int .i64 2), .lit (.bool true)]]
def laid_almanacker_month_plain {H : Type} : DataW H := .agg [.lit (.int .i64 30), .lit (.int .i64 29), .lit (.int .i64 30), .lit (.int .i64 29), .lit (.int .i64 30), .lit (.int .i64 29), .lit (.int .i64 30), .lit (.int .i64 29), .lit (.int .i64 30), .lit (.int .i64 29), .lit (.int .i64 30), .lit (.int .i64 29)]

/-- 'almanackerlaw08.MonthTells': WHATEVER THE INPUT: true; the input reads as it did. -/
def monthTellsSpec : ChangeSpec := { name := "monthTells", fn := fun _ => fun
  | [d1, d2, d3] => { results := [.lit (.bool true)], args := [d1, d2, d3] }
  | _ => none }
def monthTellsRow : OpenClaim := { program := "ytgjgkldkdmohjaadoor", sum := "cf6de9d1f6bdb05bb72d2205fef0de02923a4dece925e61fc4057bbc2a9239ae", func := "almanacker/almanackerlaw08.MonthTells", spec := "monthTells", named := ["almanacker/month.plain", "almanacker/keviah.types"], apart := false, laid := [("almanacker/keviah.types", laid_almanacker_keviah_types), ("almanacker/month.plain", laid_almanacker_month_plain)] }
def MonthTellsSaid : Prop := monthTellsRow.holds Tryd.pinned (OpenSpec.ofChange monthTellsSpec)

/-- ITS FALSE NEIGHBOUR: 'it returns false'. Refute it at one input. -/
def monthTellsWrong : ChangeSpec := { name := "monthTells", fn := fun _ => fun
  | [d1, d2, d3] => { results := [.lit (.bool false)], args := [d1, d2, d3] }
  | _ => none }
def MonthTellsWrongFalsely : Prop := monthTellsRow.holds Tryd.pinned (OpenSpec.ofChange monthTellsWrong)

/-- 'almanackerlaw08.MonthSums': WHATEVER THE INPUT: true; the input reads as it did. -/
def monthSumsSpec : ChangeSpec := { name := "monthSums", fn := fun _ => fun
  | [d] => { results := [.lit (.bool true)], args := [d] }
  | _ => none }
def monthSumsRow : OpenClaim := { program := "ytgjgkldkdmohjaadoor", sum := "cf6de9d1f6bdb05bb72d2205fef0de02923a4dece925e61fc4057bbc2a9239ae", func := "almanacker/almanackerlaw08.MonthSums", spec := "monthSums", named := ["almanacker/month.plain", "almanacker/keviah.types"], apart := false, laid := [("almanacker/keviah.types", laid_almanacker_keviah_types), ("almanacker/month.plain", laid_almanacker_month_plain)] }
def MonthSumsSaid : Prop := monthSumsRow.holds Tryd.pinned (OpenSpec.ofChange monthSumsSpec)

/-- ITS FALSE NEIGHBOUR: 'it returns false'. Refute it at one input. -/
def monthSumsWrong : ChangeSpec := { name := "monthSums", fn := fun _ => fun
  | [d] => { results := [.lit (.bool false)], args := [d] }
  | _ => none }
def MonthSumsWrongFalsely : Prop := monthSumsRow.holds Tryd.pinned (OpenSpec.ofChange monthSumsWrong)

/-- 'almanackerlaw07.KeviahTells': WHATEVER THE INPUT: true; the input reads as it did. -/
def keviahTellsSpec : ChangeSpec := { name := "keviahTells", fn := fun _ => fun
  | [d1, d2, d3] => { results := [.lit (.bool true)], args := [d1, d2, d3] }
  | _ => none }
def keviahTellsRow : OpenClaim := { program := "ytgjgkldkdmohjaadoor", sum := "cf6de9d1f6bdb05bb72d2205fef0de02923a4dece925e61fc4057bbc2a9239ae", func := "almanacker/almanackerlaw07.KeviahTells", spec := "keviahTells", named := ["almanacker/keviah.types"], apart := false, laid := [("almanacker/keviah.types", laid_almanacker_keviah_types)] }
def KeviahTellsSaid : Prop := keviahTellsRow.holds Tryd.pinned (OpenSpec.ofChange keviahTellsSpec)

/-- ITS FALSE NEIGHBOUR: 'it returns false'. Refute it at one input. -/
def keviahTellsWrong : ChangeSpec := { name := "keviahTells", fn := fun _ => fun
  | [d1, d2, d3] => { results := [.lit (.bool false)], args := [d1, d2, d3] }
  | _ => none }
def KeviahTellsWrongFalsely : Prop := keviahTellsRow.holds Tryd.pinned (OpenSpec.ofChange keviahTellsWrong)

/-- 'almanackerlaw07.KeviahYears': WHATEVER THE INPUT: true; the input reads as it did. -/
def keviahYearsSpec : ChangeSpec := { name := "keviahYears", fn := fun _ => fun
  | [d] => { results := [.lit (.bool true)], args := [d] }
  | _ => none }
def keviahYearsRow : OpenClaim := { program := "ytgjgkldkdmohjaadoor", sum := "cf6de9d1f6bdb05bb72d2205fef0de02923a4dece925e61fc4057bbc2a9239ae", func := "almanacker/almanackerlaw07.KeviahYears", spec := "keviahYears", named := ["almanacker/keviah.types"], apart := false, laid := [("almanacker/keviah.types", laid_almanacker_keviah_types)] }
def KeviahYearsSaid : Prop := keviahYearsRow.holds Tryd.pinned (OpenSpec.ofChange keviahYearsSpec)

/-- ITS FALSE NEIGHBOUR: 'it returns false'. Refute it at one input. -/
def keviahYearsWrong : ChangeSpec := { name := "keviahYears", fn := fun _ => fun
  | [d] => { results := [.lit (.bool false)], args := [d] }
  | _ => none }
def KeviahYearsWrongFalsely : Prop := keviahYearsRow.holds Tryd.pinned (OpenSpec.ofChange keviahYearsWrong)

/-- 'almanackerlaw07.KeviahNumbers': WHATEVER THE INPUT: true; the input reads as it did. -/
def keviahNumbersSpec : ChangeSpec := { name := "keviahNumbers", fn := fun _ => fun
  | [d1, d2] => { results := [.lit (.bool true)], args := [d1, d2] }
  | _ => none }
def keviahNumbersRow : OpenClaim := { program := "ytgjgkldkdmohjaadoor", sum := "cf6de9d1f6bdb05bb72d2205fef0de02923a4dece925e61fc4057bbc2a9239ae", func := "almanacker/almanackerlaw07.KeviahNumbers", spec := "keviahNumbers", named := ["almanacker/keviah.types"], apart := false, laid := [("almanacker/keviah.types", laid_almanacker_keviah_types)] }
def KeviahNumbersSaid : Prop := keviahNumbersRow.holds Tryd.pinned (OpenSpec.ofChange keviahNumbersSpec)

/-- ITS FALSE NEIGHBOUR: 'it returns false'. Refute it at one input. -/
def keviahNumbersWrong : ChangeSpec := { name := "keviahNumbers", fn := fun _ => fun
  | [d1, d2] => { results := [.lit (.bool false)], args := [d1, d2] }
  | _ => none }
def KeviahNumbersWrongFalsely : Prop := keviahNumbersRow.holds Tryd.pinned (OpenSpec.ofChange keviahNumbersWrong)

/-- 'almanackerlaw15.ShiftBack': WHATEVER THE INPUT: true; the input reads as it did. -/
def shiftBackSpec : ChangeSpec := { name := "shiftBack", fn := fun _ => fun
  | [d] => { results := [.lit (.bool true)], args := [d] }
  | _ => none }
def shiftBackRow : OpenClaim := { program := "ytgjgkldkdmohjaadoor", sum := "cf6de9d1f6bdb05bb72d2205fef0de02923a4dece925e61fc4057bbc2a9239ae", func := "almanacker/almanackerlaw15.ShiftBack", spec := "shiftBack", unfollowed := true, recurses := true, named := ["almanacker/month.plain", "almanacker/keviah.types"], apart := false, laid := [("almanacker/keviah.types", laid_almanacker_keviah_types), ("almanacker/month.plain", laid_almanacker_month_plain)] }
def ShiftBackSaid : Prop := shiftBackRow.holds Tryd.pinned (OpenSpec.ofChange shiftBackSpec)

/-- ITS FALSE NEIGHBOUR: 'it returns false'. Refute it at one input. -/
def shiftBackWrong : ChangeSpec := { name := "shiftBack", fn := fun _ => fun
  | [d] => { results := [.lit (.bool false)], args := [d] }
  | _ => none }
def ShiftBackWrongFalsely : Prop := shiftBackRow.holds Tryd.pinned (OpenSpec.ofChange shiftBackWrong)

/-- 'almanackerlaw15.ShiftOne': WHATEVER THE INPUT: true; the input reads as it did. -/
def shiftOneSpec : ChangeSpec := { name := "shiftOne", fn := fun _ => fun
  | [d1, d2] => { results := [.lit (.bool true)], args := [d1, d2] }
  | _ => none }
def shiftOneRow : OpenClaim := { program := "ytgjgkldkdmohjaadoor", sum := "cf6de9d1f6bdb05bb72d2205fef0de02923a4dece925e61fc4057bbc2a9239ae", func := "almanacker/almanackerlaw15.ShiftOne", spec := "shiftOne", unfollowed := true, recurses := true, named := ["almanacker/month.plain", "almanacker/keviah.types"], apart := false, laid := [("almanacker/keviah.types", laid_almanacker_keviah_types), ("almanacker/month.plain", laid_almanacker_month_plain)] }
def ShiftOneSaid : Prop := shiftOneRow.holds Tryd.pinned (OpenSpec.ofChange shiftOneSpec)

/-- ITS FALSE NEIGHBOUR: 'it returns false'. Refute it at one input. -/
def shiftOneWrong : ChangeSpec := { name := "shiftOne", fn := fun _ => fun
  | [d1, d2] => { results := [.lit (.bool false)], args := [d1, d2] }
  | _ => none }
def ShiftOneWrongFalsely : Prop := shiftOneRow.holds Tryd.pinned (OpenSpec.ofChange shiftOneWrong)

/-- 'almanackerlaw15.ShiftTells': WHATEVER THE INPUT: true; the input reads as it did. -/
def shiftTellsSpec : ChangeSpec := { name := "shiftTells", fn := fun _ => fun
  | [d] => { results := [.lit (.bool true)], args := [d] }
  | _ => none }
def shiftTellsRow : OpenClaim := { program := "ytgjgkldkdmohjaadoor", sum := "cf6de9d1f6bdb05bb72d2205fef0de02923a4dece925e61fc4057bbc2a9239ae", func := "almanacker/almanackerlaw15.ShiftTells", spec := "shiftTells", unfollowed := true, recurses := true, named := ["almanacker/month.plain", "almanacker/keviah.types"], apart := false, laid := [("almanacker/keviah.types", laid_almanacker_keviah_types), ("almanacker/month.plain", laid_almanacker_month_plain)] }
def ShiftTellsSaid : Prop := shiftTellsRow.holds Tryd.pinned (OpenSpec.ofChange shiftTellsSpec)

/-- ITS FALSE NEIGHBOUR: 'it returns false'. Refute it at one input. -/
def shiftTellsWrong : ChangeSpec := { name := "shiftTells", fn := fun _ => fun
  | [d] => { results := [.lit (.bool false)], args := [d] }
  | _ => none }
def ShiftTellsWrongFalsely : Prop := shiftTellsRow.holds Tryd.pinned (OpenSpec.ofChange shiftTellsWrong)

/-- 'almanackerlaw10.HebBack': WHATEVER THE INPUT: true; the input reads as it did. -/
def hebBackSpec : ChangeSpec := { name := "hebBack", fn := fun _ => fun
  | [d1, d2] => { results := [.lit (.bool true)], args := [d1, d2] }
  | _ => none }
def hebBackRow : OpenClaim := { program := "ytgjgkldkdmohjaadoor", sum := "cf6de9d1f6bdb05bb72d2205fef0de02923a4dece925e61fc4057bbc2a9239ae", func := "almanacker/almanackerlaw10.HebBack", spec := "hebBack", unfollowed := true, recurses := true, named := ["almanacker/month.plain", "almanacker/keviah.types"], apart := false, laid := [("almanacker/keviah.types", laid_almanacker_keviah_types), ("almanacker/month.plain", laid_almanacker_month_plain)] }
def HebBackSaid : Prop := hebBackRow.holds Tryd.pinned (OpenSpec.ofChange hebBackSpec)

/-- ITS FALSE NEIGHBOUR: 'it returns false'. Refute it at one input. -/
def hebBackWrong : ChangeSpec := { name := "hebBack", fn := fun _ => fun
  | [d1, d2] => { results := [.lit (.bool false)], args := [d1, d2] }
  | _ => none }
def HebBackWrongFalsely : Prop := hebBackRow.holds Tryd.pinned (OpenSpec.ofChange hebBackWrong)

/-- 'almanackerlaw10.HebMonths': WHATEVER THE INPUT: true; the input reads as it did. -/
def hebMonthsSpec : ChangeSpec := { name := "hebMonths", fn := fun _ => fun
  | [d1, d2] => { results := [.lit (.bool true)], args := [d1, d2] }
  | _ => none }
def hebMonthsRow : OpenClaim := { program := "ytgjgkldkdmohjaadoor", sum := "cf6de9d1f6bdb05bb72d2205fef0de02923a4dece925e61fc4057bbc2a9239ae", func := "almanacker/almanackerlaw10.HebMonths", spec := "hebMonths", unfollowed := true, recurses := true, named := ["almanacker/month.plain", "almanacker/keviah.types"], apart := false, laid := [("almanacker/keviah.types", laid_almanacker_keviah_types), ("almanacker/month.plain", laid_almanacker_month_plain)] }
def HebMonthsSaid : Prop := hebMonthsRow.holds Tryd.pinned (OpenSpec.ofChange hebMonthsSpec)

/-- ITS FALSE NEIGHBOUR: 'it returns false'. Refute it at one input. -/
def hebMonthsWrong : ChangeSpec := { name := "hebMonths", fn := fun _ => fun
  | [d1, d2] => { results := [.lit (.bool false)], args := [d1, d2] }
  | _ => none }
def HebMonthsWrongFalsely : Prop := hebMonthsRow.holds Tryd.pinned (OpenSpec.ofChange hebMonthsWrong)

/-- 'almanackerlaw10.HebNext': WHATEVER THE INPUT: true; the input reads as it did. -/
def hebNextSpec : ChangeSpec := { name := "hebNext", fn := fun _ => fun
  | [d1, d2] => { results := [.lit (.bool true)], args := [d1, d2] }
  | _ => none }
def hebNextRow : OpenClaim := { program := "ytgjgkldkdmohjaadoor", sum := "cf6de9d1f6bdb05bb72d2205fef0de02923a4dece925e61fc4057bbc2a9239ae", func := "almanacker/almanackerlaw10.HebNext", spec := "hebNext", unfollowed := true, recurses := true, named := ["almanacker/month.plain", "almanacker/keviah.types"], apart := false, laid := [("almanacker/keviah.types", laid_almanacker_keviah_types), ("almanacker/month.plain", laid_almanacker_month_plain)] }
def HebNextSaid : Prop := hebNextRow.holds Tryd.pinned (OpenSpec.ofChange hebNextSpec)

/-- ITS FALSE NEIGHBOUR: 'it returns false'. Refute it at one input. -/
def hebNextWrong : ChangeSpec := { name := "hebNext", fn := fun _ => fun
  | [d1, d2] => { results := [.lit (.bool false)], args := [d1, d2] }
  | _ => none }
def HebNextWrongFalsely : Prop := hebNextRow.holds Tryd.pinned (OpenSpec.ofChange hebNextWrong)

/-- 'almanackerlaw10.HebTells': WHATEVER THE INPUT: true; the input reads as it did. -/
def hebTellsSpec : ChangeSpec := { name := "hebTells", fn := fun _ => fun
  | [d1, d2, d3] => { results := [.lit (.bool true)], args := [d1, d2, d3] }
  | _ => none }
def hebTellsRow : OpenClaim := { program := "ytgjgkldkdmohjaadoor", sum := "cf6de9d1f6bdb05bb72d2205fef0de02923a4dece925e61fc4057bbc2a9239ae", func := "almanacker/almanackerlaw10.HebTells", spec := "hebTells", unfollowed := true, recurses := true, named := ["almanacker/month.plain", "almanacker/keviah.types"], apart := false, laid := [("almanacker/keviah.types", laid_almanacker_keviah_types), ("almanacker/month.plain", laid_almanacker_month_plain)] }
def HebTellsSaid : Prop := hebTellsRow.holds Tryd.pinned (OpenSpec.ofChange hebTellsSpec)

/-- ITS FALSE NEIGHBOUR: 'it returns false'. Refute it at one input. -/
def hebTellsWrong : ChangeSpec := { name := "hebTells", fn := fun _ => fun
  | [d1, d2, d3] => { results := [.lit (.bool false)], args := [d1, d2, d3] }
  | _ => none }
def HebTellsWrongFalsely : Prop := hebTellsRow.holds Tryd.pinned (OpenSpec.ofChange hebTellsWrong)

/- THE SECOND FORM. 'bulk': how many values and letters a reading holds, each counted each time it is reached (what is shared counts as often as it is met; a slice's spare places count too). A statement '..UptoSaid' is the law's where the arguments, and the package variables that the reading takes, are together of bulk at most 1048576: NARROWER than '..Said'. Prove '..Said' where nothing that the law and all that it calls make is longer than what came in: it says more and counts as full. Else prove '..UptoSaid'. A law counts once. -/
mutual
def uptoBulk {H : Type} : DataW H → Nat
  | .lit (.string bytes) => bytes.length + 1
  | .lit _ => 1
  | .nil => 1
  | .ptr d => uptoBulk d + 1
  | .slice elems spare => uptoBulkAll elems + uptoBulkAll spare + 1
  | .agg parts => uptoBulkAll parts + 1
  | .iface _ d => uptoBulk d + 1
  | .map entries => uptoBulkEntries entries + 1
  | .held _ => 1
def uptoBulkAll {H : Type} : List (DataW H) → Nat
  | [] => 0
  | d :: r => uptoBulk d + uptoBulkAll r
def uptoBulkEntries {H : Type} : List (Lit × DataW H) → Nat
  | [] => 0
  | x :: r => uptoBulkEntry x + uptoBulkEntries r
def uptoBulkEntry {H : Type} : Lit × DataW H → Nat
  | (.string bytes, d) => bytes.length + uptoBulk d + 1
  | (_, d) => uptoBulk d + 1
 end
def uptoSmall : (H : Type) → List (DataW H) → Bool := fun _ ds => decide (uptoBulkAll ds ≤ 1048576)
def OpenSpec.upto (s : _root_.Go.ChangeSpec) : _root_.Go.OpenSpec := { _root_.Go.OpenSpec.ofChange s with cond := some uptoSmall }

/-- 'almanackerlaw08.MonthTells', WHERE WHAT IT READS IS OF BULK AT MOST 1048576: true; the input reads as it did. -/
def monthTellsUptoRow : OpenClaim := { program := "ytgjgkldkdmohjaadoor", sum := "cf6de9d1f6bdb05bb72d2205fef0de02923a4dece925e61fc4057bbc2a9239ae", func := "almanacker/almanackerlaw08.MonthTells", spec := "monthTells", named := ["almanacker/month.plain", "almanacker/keviah.types"], apart := false, laid := [("almanacker/keviah.types", laid_almanacker_keviah_types), ("almanacker/month.plain", laid_almanacker_month_plain)], narrowed := true }
def MonthTellsUptoSaid : Prop := monthTellsUptoRow.holds Tryd.pinned (OpenSpec.upto monthTellsSpec)

/-- 'almanackerlaw08.MonthSums', WHERE WHAT IT READS IS OF BULK AT MOST 1048576: true; the input reads as it did. -/
def monthSumsUptoRow : OpenClaim := { program := "ytgjgkldkdmohjaadoor", sum := "cf6de9d1f6bdb05bb72d2205fef0de02923a4dece925e61fc4057bbc2a9239ae", func := "almanacker/almanackerlaw08.MonthSums", spec := "monthSums", named := ["almanacker/month.plain", "almanacker/keviah.types"], apart := false, laid := [("almanacker/keviah.types", laid_almanacker_keviah_types), ("almanacker/month.plain", laid_almanacker_month_plain)], narrowed := true }
def MonthSumsUptoSaid : Prop := monthSumsUptoRow.holds Tryd.pinned (OpenSpec.upto monthSumsSpec)

/-- 'almanackerlaw07.KeviahTells', WHERE WHAT IT READS IS OF BULK AT MOST 1048576: true; the input reads as it did. -/
def keviahTellsUptoRow : OpenClaim := { program := "ytgjgkldkdmohjaadoor", sum := "cf6de9d1f6bdb05bb72d2205fef0de02923a4dece925e61fc4057bbc2a9239ae", func := "almanacker/almanackerlaw07.KeviahTells", spec := "keviahTells", named := ["almanacker/keviah.types"], apart := false, laid := [("almanacker/keviah.types", laid_almanacker_keviah_types)], narrowed := true }
def KeviahTellsUptoSaid : Prop := keviahTellsUptoRow.holds Tryd.pinned (OpenSpec.upto keviahTellsSpec)

/-- 'almanackerlaw07.KeviahYears', WHERE WHAT IT READS IS OF BULK AT MOST 1048576: true; the input reads as it did. -/
def keviahYearsUptoRow : OpenClaim := { program := "ytgjgkldkdmohjaadoor", sum := "cf6de9d1f6bdb05bb72d2205fef0de02923a4dece925e61fc4057bbc2a9239ae", func := "almanacker/almanackerlaw07.KeviahYears", spec := "keviahYears", named := ["almanacker/keviah.types"], apart := false, laid := [("almanacker/keviah.types", laid_almanacker_keviah_types)], narrowed := true }
def KeviahYearsUptoSaid : Prop := keviahYearsUptoRow.holds Tryd.pinned (OpenSpec.upto keviahYearsSpec)

/-- 'almanackerlaw07.KeviahNumbers', WHERE WHAT IT READS IS OF BULK AT MOST 1048576: true; the input reads as it did. -/
def keviahNumbersUptoRow : OpenClaim := { program := "ytgjgkldkdmohjaadoor", sum := "cf6de9d1f6bdb05bb72d2205fef0de02923a4dece925e61fc4057bbc2a9239ae", func := "almanacker/almanackerlaw07.KeviahNumbers", spec := "keviahNumbers", named := ["almanacker/keviah.types"], apart := false, laid := [("almanacker/keviah.types", laid_almanacker_keviah_types)], narrowed := true }
def KeviahNumbersUptoSaid : Prop := keviahNumbersUptoRow.holds Tryd.pinned (OpenSpec.upto keviahNumbersSpec)

/-- 'almanackerlaw15.ShiftBack', WHERE WHAT IT READS IS OF BULK AT MOST 1048576: true; the input reads as it did. -/
def shiftBackUptoRow : OpenClaim := { program := "ytgjgkldkdmohjaadoor", sum := "cf6de9d1f6bdb05bb72d2205fef0de02923a4dece925e61fc4057bbc2a9239ae", func := "almanacker/almanackerlaw15.ShiftBack", spec := "shiftBack", unfollowed := true, recurses := true, named := ["almanacker/month.plain", "almanacker/keviah.types"], apart := false, laid := [("almanacker/keviah.types", laid_almanacker_keviah_types), ("almanacker/month.plain", laid_almanacker_month_plain)], narrowed := true }
def ShiftBackUptoSaid : Prop := shiftBackUptoRow.holds Tryd.pinned (OpenSpec.upto shiftBackSpec)

/-- 'almanackerlaw15.ShiftOne', WHERE WHAT IT READS IS OF BULK AT MOST 1048576: true; the input reads as it did. -/
def shiftOneUptoRow : OpenClaim := { program := "ytgjgkldkdmohjaadoor", sum := "cf6de9d1f6bdb05bb72d2205fef0de02923a4dece925e61fc4057bbc2a9239ae", func := "almanacker/almanackerlaw15.ShiftOne", spec := "shiftOne", unfollowed := true, recurses := true, named := ["almanacker/month.plain", "almanacker/keviah.types"], apart := false, laid := [("almanacker/keviah.types", laid_almanacker_keviah_types), ("almanacker/month.plain", laid_almanacker_month_plain)], narrowed := true }
def ShiftOneUptoSaid : Prop := shiftOneUptoRow.holds Tryd.pinned (OpenSpec.upto shiftOneSpec)

/-- 'almanackerlaw15.ShiftTells', WHERE WHAT IT READS IS OF BULK AT MOST 1048576: true; the input reads as it did. -/
def shiftTellsUptoRow : OpenClaim := { program := "ytgjgkldkdmohjaadoor", sum := "cf6de9d1f6bdb05bb72d2205fef0de02923a4dece925e61fc4057bbc2a9239ae", func := "almanacker/almanackerlaw15.ShiftTells", spec := "shiftTells", unfollowed := true, recurses := true, named := ["almanacker/month.plain", "almanacker/keviah.types"], apart := false, laid := [("almanacker/keviah.types", laid_almanacker_keviah_types), ("almanacker/month.plain", laid_almanacker_month_plain)], narrowed := true }
def ShiftTellsUptoSaid : Prop := shiftTellsUptoRow.holds Tryd.pinned (OpenSpec.upto shiftTellsSpec)

/-- 'almanackerlaw10.HebBack', WHERE WHAT IT READS IS OF BULK AT MOST 1048576: true; the input reads as it did. -/
def hebBackUptoRow : OpenClaim := { program := "ytgjgkldkdmohjaadoor", sum := "cf6de9d1f6bdb05bb72d2205fef0de02923a4dece925e61fc4057bbc2a9239ae", func := "almanacker/almanackerlaw10.HebBack", spec := "hebBack", unfollowed := true, recurses := true, named := ["almanacker/month.plain", "almanacker/keviah.types"], apart := false, laid := [("almanacker/keviah.types", laid_almanacker_keviah_types), ("almanacker/month.plain", laid_almanacker_month_plain)], narrowed := true }
def HebBackUptoSaid : Prop := hebBackUptoRow.holds Tryd.pinned (OpenSpec.upto hebBackSpec)

/-- 'almanackerlaw10.HebMonths', WHERE WHAT IT READS IS OF BULK AT MOST 1048576: true; the input reads as it did. -/
def hebMonthsUptoRow : OpenClaim := { program := "ytgjgkldkdmohjaadoor", sum := "cf6de9d1f6bdb05bb72d2205fef0de02923a4dece925e61fc4057bbc2a9239ae", func := "almanacker/almanackerlaw10.HebMonths", spec := "hebMonths", unfollowed := true, recurses := true, named := ["almanacker/month.plain", "almanacker/keviah.types"], apart := false, laid := [("almanacker/keviah.types", laid_almanacker_keviah_types), ("almanacker/month.plain", laid_almanacker_month_plain)], narrowed := true }
def HebMonthsUptoSaid : Prop := hebMonthsUptoRow.holds Tryd.pinned (OpenSpec.upto hebMonthsSpec)

/-- 'almanackerlaw10.HebNext', WHERE WHAT IT READS IS OF BULK AT MOST 1048576: true; the input reads as it did. -/
def hebNextUptoRow : OpenClaim := { program := "ytgjgkldkdmohjaadoor", sum := "cf6de9d1f6bdb05bb72d2205fef0de02923a4dece925e61fc4057bbc2a9239ae", func := "almanacker/almanackerlaw10.HebNext", spec := "hebNext", unfollowed := true, recurses := true, named := ["almanacker/month.plain", "almanacker/keviah.types"], apart := false, laid := [("almanacker/keviah.types", laid_almanacker_keviah_types), ("almanacker/month.plain", laid_almanacker_month_plain)], narrowed := true }
def HebNextUptoSaid : Prop := hebNextUptoRow.holds Tryd.pinned (OpenSpec.upto hebNextSpec)

/-- 'almanackerlaw10.HebTells', WHERE WHAT IT READS IS OF BULK AT MOST 1048576: true; the input reads as it did. -/
def hebTellsUptoRow : OpenClaim := { program := "ytgjgkldkdmohjaadoor", sum := "cf6de9d1f6bdb05bb72d2205fef0de02923a4dece925e61fc4057bbc2a9239ae", func := "almanacker/almanackerlaw10.HebTells", spec := "hebTells", unfollowed := true, recurses := true, named := ["almanacker/month.plain", "almanacker/keviah.types"], apart := false, laid := [("almanacker/keviah.types", laid_almanacker_keviah_types), ("almanacker/month.plain", laid_almanacker_month_plain)], narrowed := true }
def HebTellsUptoSaid : Prop := hebTellsUptoRow.holds Tryd.pinned (OpenSpec.upto hebTellsSpec)

end Rows
end Go.Proofs.YtgjgkldkdmohjaaDoor
