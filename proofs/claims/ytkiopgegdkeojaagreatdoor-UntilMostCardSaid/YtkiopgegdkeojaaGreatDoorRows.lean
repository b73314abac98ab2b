/-
  NARROWER THAN 'FOR EVERY INPUT', by the rows' own cells (each row's printed sentence says how): AddTells: laid · UntilTells: laid · UntilBack: laid · UntilMost: laid.
  DERIVED. THE GIVEN ROWS OF THIS SEAT. 4 by the template 'for every input the law returns true; each argument reads behind the call as it read before'; 0 by the template 'total and deterministic' (their statements: YtkiopgegdkeojaaGreatDoorTotals.lean).
  GIVEN WITH THE SEED: the statements are not yours to turn. If you find one false, say at which input.
  Laid BY PROGRAM, IN A SANDBOX (cutbox-rows.mjs): the forced cells as the released guide's own fill.sh prints them over the translation cbdb544b3f061a5b… (all of the seat's roots in one cut). By AI agents, Wed Nov 11 2026. No macro, syntax, notation, axiom, sorry.
-/
import Derived.Test.YtkiopgegdkeojaaGreatDoorChecked
import GoSem.Claim
import GoSem.ClaimJoined
import GoSem.ClaimMapViews
import Derived.JoinedTies
import Derived.KernelRfl
namespace Go.Proofs.YtkiopgegdkeojaaGreatDoor
/- THE CELL 'sum', in the pinned program and in every row, IS THE sha256 OF THE DUMP (.gsa) THAT YtkiopgegdkeojaaGreatDoorProg.lean LOADS. Nothing in Lean hashes anything: it is a label: what it is worth is what the hold of that sum in a sandbox is worth. -/
noncomputable def Tryz.pinned : Pinned := { name := "ytkiopgegdkeojaagreatdoor", sum := "cbdb544b3f061a5b4d61d55c6d54032b2127df32ee568638ae93c3dee5036e4f", checked := Tryz.checked }
namespace Rows
def none {H : Type} : Left H := { results := [], args := [] }

/- WHAT THE LISTED PACKAGE-LEVEL VARIABLES READ AS WHEN THE CALL BEGINS. Each datum BY PROGRAM (the guide's laid-datum.mjs) off the statement by which the dump's own 'gosem.cut.vars' lays the variable. In a bare row this is a premise. The card (YtkiopgegdkeojaaGreatDoorCards.lean) ties it to the program's text. -/
def laid_almanacker_keviah_types {H : Type} : DataW H := .agg [.agg [.lit (.int .i64 1), .lit (.int .i64 0), .lit (.bool false)], .agg [.lit (.int .i64 1), .lit (.int .i64 2), .lit (.bool false)], .agg [.lit (.int .i64 2), .lit (.int .i64 1), .lit (.bool false)], .agg [.lit (.int .i64 4), .lit (.int .i64 1), .lit (.bool false)], .agg [.lit (.int .i64 4), .lit (.int .i64 2), .lit (.bool false)], .agg [.lit (.int .i64 6), .lit (.int .i64 0), .lit (.bool false)], .agg [.lit (.int .i64 6), .lit (.int .i64 2), .lit (.bool false)], .agg [.lit (.int .i64 1), .lit (.int .i64 0), .lit (.bool true)], .agg [.lit (.int .i64 1), .lit (.int .i64 2), .lit (.bool true)], .agg [.lit (.int .i64 2), .lit (.int .i64 1), .lit (.bool true)], .agg [.lit (.int .i64 4), .lit (.int .i64 0), .lit (.bool true)], .agg [.lit (.int .i64 4), .lit (.int .i64 2), .lit (.bool true)], .agg [.lit (.int .i64 6), .lit (.int .i64 0), .lit (.bool true)], .agg [.lit (.int .i64 6), .lit (.int .i64 2), .lit (.bool true)]]
def laid_almanacker_month_plain {H : Type} : DataW H := .agg [.lit (.int .i64 30), .lit (.int .i64 29), .lit (.int .i64 30), .lit (.int .i64 29), .lit (.int .i64 30), .lit (.int .i64 29), .lit (.int .i64 30), .lit (.int .i64 29), .lit (.int .i64 30), .lit (.int .i64 29), .lit (.int .i64 30), .lit (.int .i64 29)]

/-- 'almanackerlaw16.AddTells': WHATEVER THE INPUT: true; the input reads as it did. -/
def addTellsSpec : ChangeSpec := { name := "addTells", fn := fun _ => fun
  | [d1, d2, d3] => { results := [.lit (.bool true)], args := [d1, d2, d3] }
  | _ => none }
def addTellsRow : OpenClaim := { program := "ytkiopgegdkeojaagreatdoor", sum := "cbdb544b3f061a5b4d61d55c6d54032b2127df32ee568638ae93c3dee5036e4f", func := "almanacker/almanackerlaw16.AddTells", spec := "addTells", unfollowed := true, recurses := true, named := ["almanacker/month.plain", "almanacker/keviah.types"], apart := false, laid := [("almanacker/keviah.types", laid_almanacker_keviah_types), ("almanacker/month.plain", laid_almanacker_month_plain)] }
def AddTellsSaid : Prop := addTellsRow.holds Tryz.pinned (OpenSpec.ofChange addTellsSpec)

/-- ITS FALSE NEIGHBOUR: 'it returns false'. Refute it at one input. -/
def addTellsWrong : ChangeSpec := { name := "addTells", fn := fun _ => fun
  | [d1, d2, d3] => { results := [.lit (.bool false)], args := [d1, d2, d3] }
  | _ => none }
def AddTellsWrongFalsely : Prop := addTellsRow.holds Tryz.pinned (OpenSpec.ofChange addTellsWrong)

/-- 'almanackerlaw17.UntilTells': WHATEVER THE INPUT: true; the input reads as it did. -/
def untilTellsSpec : ChangeSpec := { name := "untilTells", fn := fun _ => fun
  | [d1, d2, d3] => { results := [.lit (.bool true)], args := [d1, d2, d3] }
  | _ => none }
def untilTellsRow : OpenClaim := { program := "ytkiopgegdkeojaagreatdoor", sum := "cbdb544b3f061a5b4d61d55c6d54032b2127df32ee568638ae93c3dee5036e4f", func := "almanacker/almanackerlaw17.UntilTells", spec := "untilTells", unfollowed := true, recurses := true, named := ["almanacker/month.plain", "almanacker/keviah.types"], apart := false, laid := [("almanacker/keviah.types", laid_almanacker_keviah_types), ("almanacker/month.plain", laid_almanacker_month_plain)] }
def UntilTellsSaid : Prop := untilTellsRow.holds Tryz.pinned (OpenSpec.ofChange untilTellsSpec)

/-- ITS FALSE NEIGHBOUR: 'it returns false'. Refute it at one input. -/
def untilTellsWrong : ChangeSpec := { name := "untilTells", fn := fun _ => fun
  | [d1, d2, d3] => { results := [.lit (.bool false)], args := [d1, d2, d3] }
  | _ => none }
def UntilTellsWrongFalsely : Prop := untilTellsRow.holds Tryz.pinned (OpenSpec.ofChange untilTellsWrong)

/-- 'almanackerlaw17.UntilBack': WHATEVER THE INPUT: true; the input reads as it did. -/
def untilBackSpec : ChangeSpec := { name := "untilBack", fn := fun _ => fun
  | [d1, d2, d3] => { results := [.lit (.bool true)], args := [d1, d2, d3] }
  | _ => none }
def untilBackRow : OpenClaim := { program := "ytkiopgegdkeojaagreatdoor", sum := "cbdb544b3f061a5b4d61d55c6d54032b2127df32ee568638ae93c3dee5036e4f", func := "almanacker/almanackerlaw17.UntilBack", spec := "untilBack", unfollowed := true, recurses := true, named := ["almanacker/month.plain", "almanacker/keviah.types"], apart := false, laid := [("almanacker/keviah.types", laid_almanacker_keviah_types), ("almanacker/month.plain", laid_almanacker_month_plain)] }
def UntilBackSaid : Prop := untilBackRow.holds Tryz.pinned (OpenSpec.ofChange untilBackSpec)

/-- ITS FALSE NEIGHBOUR: 'it returns false'. Refute it at one input. -/
def untilBackWrong : ChangeSpec := { name := "untilBack", fn := fun _ => fun
  | [d1, d2, d3] => { results := [.lit (.bool false)], args := [d1, d2, d3] }
  | _ => none }
def UntilBackWrongFalsely : Prop := untilBackRow.holds Tryz.pinned (OpenSpec.ofChange untilBackWrong)

/-- 'almanackerlaw17.UntilMost': WHATEVER THE INPUT: true; the input reads as it did. -/
def untilMostSpec : ChangeSpec := { name := "untilMost", fn := fun _ => fun
  | [d1, d2, d3] => { results := [.lit (.bool true)], args := [d1, d2, d3] }
  | _ => none }
def untilMostRow : OpenClaim := { program := "ytkiopgegdkeojaagreatdoor", sum := "cbdb544b3f061a5b4d61d55c6d54032b2127df32ee568638ae93c3dee5036e4f", func := "almanacker/almanackerlaw17.UntilMost", spec := "untilMost", unfollowed := true, recurses := true, named := ["almanacker/month.plain", "almanacker/keviah.types"], apart := false, laid := [("almanacker/keviah.types", laid_almanacker_keviah_types), ("almanacker/month.plain", laid_almanacker_month_plain)] }
def UntilMostSaid : Prop := untilMostRow.holds Tryz.pinned (OpenSpec.ofChange untilMostSpec)

/-- ITS FALSE NEIGHBOUR: 'it returns false'. Refute it at one input. -/
def untilMostWrong : ChangeSpec := { name := "untilMost", fn := fun _ => fun
  | [d1, d2, d3] => { results := [.lit (.bool false)], args := [d1, d2, d3] }
  | _ => none }
def UntilMostWrongFalsely : Prop := untilMostRow.holds Tryz.pinned (OpenSpec.ofChange untilMostWrong)

/- THE SECOND FORM. 'bulk': how many values and letters a reading holds, each counted each time it is reached (what is shared counts as often as it is met; a slice's spare places count too). A statement '..UptoSaid' is the law's where the arguments, and the package variables that the reading takes, are together of bulk at most 1048576: NARROWER than '..Said'. Prove '..Said' where nothing that the law and all that it calls make is longer than what came in: it says more and counts as full. Else prove '..UptoSaid'. A law counts once. -/
mutual
def uptoBulk {H : Type} : DataW H → Nat
  | .lit (.string bytes) => bytes.length + 1
  | .lit _ => 1
  | .nil => 1
  | .ptr d => uptoBulk d + 1
  | .slice elems spare => uptoBulkAll elems + uptoBulkAll spare + 1
  | .agg parts => uptoBulkAll parts + 1
  | .iface _ d => uptoBulk d + 1
  | .map entries => uptoBulkEntries entries + 1
  | .held _ => 1
def uptoBulkAll {H : Type} : List (DataW H) → Nat
  | [] => 0
  | d :: r => uptoBulk d + uptoBulkAll r
def uptoBulkEntries {H : Type} : List (Lit × DataW H) → Nat
  | [] => 0
  | x :: r => uptoBulkEntry x + uptoBulkEntries r
def uptoBulkEntry {H : Type} : Lit × DataW H → Nat
  | (.string bytes, d) => bytes.length + uptoBulk d + 1
  | (_, d) => uptoBulk d + 1
 end
def uptoSmall : (H : Type) → List (DataW H) → Bool := fun _ ds => decide (uptoBulkAll ds ≤ 1048576)
def OpenSpec.upto (s : _root_.Go.ChangeSpec) : _root_.Go.OpenSpec := { _root_.Go.OpenSpec.ofChange s with cond := some uptoSmall }

/-- 'almanackerlaw16.AddTells', WHERE WHAT IT READS IS OF BULK AT MOST 1048576: true; the input reads as it did. -/
def addTellsUptoRow : OpenClaim := { program := "ytkiopgegdkeojaagreatdoor", sum := "cbdb544b3f061a5b4d61d55c6d54032b2127df32ee568638ae93c3dee5036e4f", func := "almanacker/almanackerlaw16.AddTells", spec := "addTells", unfollowed := true, recurses := true, named := ["almanacker/month.plain", "almanacker/keviah.types"], apart := false, laid := [("almanacker/keviah.types", laid_almanacker_keviah_types), ("almanacker/month.plain", laid_almanacker_month_plain)], narrowed := true }
def AddTellsUptoSaid : Prop := addTellsUptoRow.holds Tryz.pinned (OpenSpec.upto addTellsSpec)

/-- 'almanackerlaw17.UntilTells', WHERE WHAT IT READS IS OF BULK AT MOST 1048576: true; the input reads as it did. -/
def untilTellsUptoRow : OpenClaim := { program := "ytkiopgegdkeojaagreatdoor", sum := "cbdb544b3f061a5b4d61d55c6d54032b2127df32ee568638ae93c3dee5036e4f", func := "almanacker/almanackerlaw17.UntilTells", spec := "untilTells", unfollowed := true, recurses := true, named := ["almanacker/month.plain", "almanacker/keviah.types"], apart := false, laid := [("almanacker/keviah.types", laid_almanacker_keviah_types), ("almanacker/month.plain", laid_almanacker_month_plain)], narrowed := true }
def UntilTellsUptoSaid : Prop := untilTellsUptoRow.holds Tryz.pinned (OpenSpec.upto untilTellsSpec)

/-- 'almanackerlaw17.UntilBack', WHERE WHAT IT READS IS OF BULK AT MOST 1048576: true; the input reads as it did. -/
def untilBackUptoRow : OpenClaim := { program := "ytkiopgegdkeojaagreatdoor", sum := "cbdb544b3f061a5b4d61d55c6d54032b2127df32ee568638ae93c3dee5036e4f", func := "almanacker/almanackerlaw17.UntilBack", spec := "untilBack", unfollowed := true, recurses := true, named := ["almanacker/month.plain", "almanacker/keviah.types"], apart := false, laid := [("almanacker/keviah.types", laid_almanacker_keviah_types), ("almanacker/month.plain", laid_almanacker_month_plain)], narrowed := true }
def UntilBackUptoSaid : Prop := untilBackUptoRow.holds Tryz.pinned (OpenSpec.upto untilBackSpec)

/-- 'almanackerlaw17.UntilMost', WHERE WHAT IT READS IS OF BULK AT MOST 1048576: true; the input reads as it did. -/
def untilMostUptoRow : OpenClaim := { program := "ytkiopgegdkeojaagreatdoor", sum := "cbdb544b3f061a5b4d61d55c6d54032b2127df32ee568638ae93c3dee5036e4f", func := "almanacker/almanackerlaw17.UntilMost", spec := "untilMost", unfollowed := true, recurses := true, named := ["almanacker/month.plain", "almanacker/keviah.types"], apart := false, laid := [("almanacker/keviah.types", laid_almanacker_keviah_types), ("almanacker/month.plain", laid_almanacker_month_plain)], narrowed := true }
def UntilMostUptoSaid : Prop := untilMostUptoRow.holds Tryz.pinned (OpenSpec.upto untilMostSpec)

end Rows
end Go.Proofs.YtkiopgegdkeojaaGreatDoor
