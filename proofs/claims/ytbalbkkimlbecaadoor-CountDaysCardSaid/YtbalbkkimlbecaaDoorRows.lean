/-
  NARROWER THAN 'FOR EVERY INPUT', by the rows' own cells (each row's printed sentence says how): CountBack: laid · CountTells: laid · CountDays: laid · ChodeshTells: laid · ChodeshDays: laid · ChodeshOmer: laid · AnnivTells: laid · AnnivSame: laid · AnnivLater: laid.
  DERIVED. THE GIVEN ROWS OF THIS SEAT. 9 by the template 'for every input the law returns true; each argument reads behind the call as it read before'; 0 by the template 'total and deterministic' (their statements: YtbalbkkimlbecaaDoorTotals.lean).
  GIVEN WITH THE SEED: the statements are not yours to turn. If you find one false, say at which input.
  Laid BY PROGRAM, IN A SANDBOX (cutbox-rows.mjs): the forced cells as the released guide's own fill.sh prints them over the translation 5bce7e519f8553ec… (all of the seat's roots in one cut). By AI agents, Wed Nov 11 2026. No macro, syntax, notation, axiom, sorry.
-/
import Derived.Test.YtbalbkkimlbecaaDoorChecked
import GoSem.Claim
import GoSem.ClaimJoined
import GoSem.ClaimMapViews
import Derived.JoinedTies
import Derived.KernelRfl
namespace Go.Proofs.YtbalbkkimlbecaaDoor
/- THE CELL 'sum', in the pinned program and in every row, IS THE sha256 OF THE DUMP (.gsa) THAT YtbalbkkimlbecaaDoorProg.lean LOADS. Nothing in Lean hashes anything: it is a label: what it is worth is what the hold of that sum in a sandbox is worth. -/
noncomputable def Tryd.pinned : Pinned := { name := "ytbalbkkimlbecaadoor", sum := "5bce7e519f8553ec897c2411f0b27fc57b11061d7121b478ad60e35c4f4fb4c7", checked := Tryd.checked }
namespace Rows
def none {H : Type} : Left H := { results := [], args := [] }

/- WHAT THE LISTED PACKAGE-LEVEL VARIABLES READ AS WHEN THE CALL BEGINS. Each datum BY PROGRAM (the guide's laid-datum.mjs) off the statement by which the dump's own 'gosem.cut.vars' lays the variable. In a bare row this is a premise. The card (YtbalbkkimlbecaaDoorCards.lean) ties it to the program's text. -/
def laid_almanacker_keviah_types {H : Type} : DataW H := .agg [.agg [.lit (.int .i64 1), .lit (.int .i64 0), .lit (.bool false)], .agg [.lit (.int .i64 1), .lit (.int .i64 2), .lit (.bool false)], .agg [.lit (.int .i64 2), .lit (.int .i64 1), .lit (.bool false)], .agg [.lit (.int .i64 4), .lit (.int .i64 1), .lit (.bool false)], .agg [.lit (.int .i64 4), .lit (.int .i64 2), .lit (.bool false)], .agg [.lit (.int .i64 6), .lit (.int .i64 0), .lit (.bool false)], .agg [.lit (.int .i64 6), .lit (.int .i64 2), .lit (.bool false)], .agg [.lit (.int .i64 1), .lit (.int .i64 0), .lit (.bool true)], .agg [.lit (.int .i64 1), .lit (.int .i64 2), .lit (.bool true)], .agg [.lit (.int .i64 2), .lit (.int .i64 1), .lit (.bool true)], .agg [.lit (.int .i64 4), .lit (.int .i64 0), .lit (.bool true)], .agg [.lit (.int .i64 4), .lit (.int .i64 2), .lit (.bool true)], .agg [.lit (.int .i64 6), .lit (.int .i64 0), .lit (.bool true)], .agg [.lit (.int .i64 6), .lit (.int .i64 2), .lit (.bool true)]]
def laid_almanacker_month_plain {H : Type} : DataW H := .agg [.lit (.int .i64 30), .lit (.int .i64 29), .lit (.int .i64 30), .lit (.int .i64 29), .lit (.int .i64 30), .lit (.int .i64 29), .lit (.int .i64 30), .lit (.int .i64 29), .lit (.int .i64 30), .lit (.int .i64 29), .lit (.int .i64 30), .lit (.int .i64 29)]

/-- 'almanackerlaw27.CountBack': WHATEVER THE INPUT: true; the input reads as it did. -/
def countBackSpec : ChangeSpec := { name := "countBack", fn := fun _ => fun
  | [d] => { results := [.lit (.bool true)], args := [d] }
  | _ => none }
def countBackRow : OpenClaim := { program := "ytbalbkkimlbecaadoor", sum := "5bce7e519f8553ec897c2411f0b27fc57b11061d7121b478ad60e35c4f4fb4c7", func := "almanacker/almanackerlaw27.CountBack", spec := "countBack", named := ["almanacker/month.plain", "almanacker/keviah.types"], apart := false, laid := [("almanacker/keviah.types", laid_almanacker_keviah_types), ("almanacker/month.plain", laid_almanacker_month_plain)] }
def CountBackSaid : Prop := countBackRow.holds Tryd.pinned (OpenSpec.ofChange countBackSpec)

/-- ITS FALSE NEIGHBOUR: 'it returns false'. Refute it at one input. -/
def countBackWrong : ChangeSpec := { name := "countBack", fn := fun _ => fun
  | [d] => { results := [.lit (.bool false)], args := [d] }
  | _ => none }
def CountBackWrongFalsely : Prop := countBackRow.holds Tryd.pinned (OpenSpec.ofChange countBackWrong)

/-- 'almanackerlaw27.CountTells': WHATEVER THE INPUT: true; the input reads as it did. -/
def countTellsSpec : ChangeSpec := { name := "countTells", fn := fun _ => fun
  | [d1, d2, d3] => { results := [.lit (.bool true)], args := [d1, d2, d3] }
  | _ => none }
def countTellsRow : OpenClaim := { program := "ytbalbkkimlbecaadoor", sum := "5bce7e519f8553ec897c2411f0b27fc57b11061d7121b478ad60e35c4f4fb4c7", func := "almanacker/almanackerlaw27.CountTells", spec := "countTells", unfollowed := true, recurses := true, named := ["almanacker/month.plain", "almanacker/keviah.types"], apart := false, laid := [("almanacker/keviah.types", laid_almanacker_keviah_types), ("almanacker/month.plain", laid_almanacker_month_plain)] }
def CountTellsSaid : Prop := countTellsRow.holds Tryd.pinned (OpenSpec.ofChange countTellsSpec)

/-- ITS FALSE NEIGHBOUR: 'it returns false'. Refute it at one input. -/
def countTellsWrong : ChangeSpec := { name := "countTells", fn := fun _ => fun
  | [d1, d2, d3] => { results := [.lit (.bool false)], args := [d1, d2, d3] }
  | _ => none }
def CountTellsWrongFalsely : Prop := countTellsRow.holds Tryd.pinned (OpenSpec.ofChange countTellsWrong)

/-- 'almanackerlaw27.CountDays': WHATEVER THE INPUT: true; the input reads as it did. -/
def countDaysSpec : ChangeSpec := { name := "countDays", fn := fun _ => fun
  | [d1, d2] => { results := [.lit (.bool true)], args := [d1, d2] }
  | _ => none }
def countDaysRow : OpenClaim := { program := "ytbalbkkimlbecaadoor", sum := "5bce7e519f8553ec897c2411f0b27fc57b11061d7121b478ad60e35c4f4fb4c7", func := "almanacker/almanackerlaw27.CountDays", spec := "countDays", unfollowed := true, recurses := true, named := ["almanacker/month.plain", "almanacker/keviah.types"], apart := false, laid := [("almanacker/keviah.types", laid_almanacker_keviah_types), ("almanacker/month.plain", laid_almanacker_month_plain)] }
def CountDaysSaid : Prop := countDaysRow.holds Tryd.pinned (OpenSpec.ofChange countDaysSpec)

/-- ITS FALSE NEIGHBOUR: 'it returns false'. Refute it at one input. -/
def countDaysWrong : ChangeSpec := { name := "countDays", fn := fun _ => fun
  | [d1, d2] => { results := [.lit (.bool false)], args := [d1, d2] }
  | _ => none }
def CountDaysWrongFalsely : Prop := countDaysRow.holds Tryd.pinned (OpenSpec.ofChange countDaysWrong)

/-- 'almanackerlaw21.ChodeshTells': WHATEVER THE INPUT: true; the input reads as it did. -/
def chodeshTellsSpec : ChangeSpec := { name := "chodeshTells", fn := fun _ => fun
  | [d1, d2, d3] => { results := [.lit (.bool true)], args := [d1, d2, d3] }
  | _ => none }
def chodeshTellsRow : OpenClaim := { program := "ytbalbkkimlbecaadoor", sum := "5bce7e519f8553ec897c2411f0b27fc57b11061d7121b478ad60e35c4f4fb4c7", func := "almanacker/almanackerlaw21.ChodeshTells", spec := "chodeshTells", unfollowed := true, recurses := true, named := ["almanacker/month.plain", "almanacker/keviah.types"], apart := false, laid := [("almanacker/keviah.types", laid_almanacker_keviah_types), ("almanacker/month.plain", laid_almanacker_month_plain)] }
def ChodeshTellsSaid : Prop := chodeshTellsRow.holds Tryd.pinned (OpenSpec.ofChange chodeshTellsSpec)

/-- ITS FALSE NEIGHBOUR: 'it returns false'. Refute it at one input. -/
def chodeshTellsWrong : ChangeSpec := { name := "chodeshTells", fn := fun _ => fun
  | [d1, d2, d3] => { results := [.lit (.bool false)], args := [d1, d2, d3] }
  | _ => none }
def ChodeshTellsWrongFalsely : Prop := chodeshTellsRow.holds Tryd.pinned (OpenSpec.ofChange chodeshTellsWrong)

/-- 'almanackerlaw21.ChodeshDays': WHATEVER THE INPUT: true; the input reads as it did. -/
def chodeshDaysSpec : ChangeSpec := { name := "chodeshDays", fn := fun _ => fun
  | [d] => { results := [.lit (.bool true)], args := [d] }
  | _ => none }
def chodeshDaysRow : OpenClaim := { program := "ytbalbkkimlbecaadoor", sum := "5bce7e519f8553ec897c2411f0b27fc57b11061d7121b478ad60e35c4f4fb4c7", func := "almanacker/almanackerlaw21.ChodeshDays", spec := "chodeshDays", unfollowed := true, recurses := true, named := ["almanacker/month.plain", "almanacker/keviah.types"], apart := false, laid := [("almanacker/keviah.types", laid_almanacker_keviah_types), ("almanacker/month.plain", laid_almanacker_month_plain)] }
def ChodeshDaysSaid : Prop := chodeshDaysRow.holds Tryd.pinned (OpenSpec.ofChange chodeshDaysSpec)

/-- ITS FALSE NEIGHBOUR: 'it returns false'. Refute it at one input. -/
def chodeshDaysWrong : ChangeSpec := { name := "chodeshDays", fn := fun _ => fun
  | [d] => { results := [.lit (.bool false)], args := [d] }
  | _ => none }
def ChodeshDaysWrongFalsely : Prop := chodeshDaysRow.holds Tryd.pinned (OpenSpec.ofChange chodeshDaysWrong)

/-- 'almanackerlaw21.ChodeshOmer': WHATEVER THE INPUT: true; the input reads as it did. -/
def chodeshOmerSpec : ChangeSpec := { name := "chodeshOmer", fn := fun _ => fun
  | [d1, d2] => { results := [.lit (.bool true)], args := [d1, d2] }
  | _ => none }
def chodeshOmerRow : OpenClaim := { program := "ytbalbkkimlbecaadoor", sum := "5bce7e519f8553ec897c2411f0b27fc57b11061d7121b478ad60e35c4f4fb4c7", func := "almanacker/almanackerlaw21.ChodeshOmer", spec := "chodeshOmer", unfollowed := true, recurses := true, named := ["almanacker/month.plain", "almanacker/keviah.types"], apart := false, laid := [("almanacker/keviah.types", laid_almanacker_keviah_types), ("almanacker/month.plain", laid_almanacker_month_plain)] }
def ChodeshOmerSaid : Prop := chodeshOmerRow.holds Tryd.pinned (OpenSpec.ofChange chodeshOmerSpec)

/-- ITS FALSE NEIGHBOUR: 'it returns false'. Refute it at one input. -/
def chodeshOmerWrong : ChangeSpec := { name := "chodeshOmer", fn := fun _ => fun
  | [d1, d2] => { results := [.lit (.bool false)], args := [d1, d2] }
  | _ => none }
def ChodeshOmerWrongFalsely : Prop := chodeshOmerRow.holds Tryd.pinned (OpenSpec.ofChange chodeshOmerWrong)

/-- 'almanackerlaw18.AnnivTells': WHATEVER THE INPUT: true; the input reads as it did. -/
def annivTellsSpec : ChangeSpec := { name := "annivTells", fn := fun _ => fun
  | [d1, d2] => { results := [.lit (.bool true)], args := [d1, d2] }
  | _ => none }
def annivTellsRow : OpenClaim := { program := "ytbalbkkimlbecaadoor", sum := "5bce7e519f8553ec897c2411f0b27fc57b11061d7121b478ad60e35c4f4fb4c7", func := "almanacker/almanackerlaw18.AnnivTells", spec := "annivTells", unfollowed := true, recurses := true, named := ["almanacker/month.plain", "almanacker/keviah.types"], apart := false, laid := [("almanacker/keviah.types", laid_almanacker_keviah_types), ("almanacker/month.plain", laid_almanacker_month_plain)] }
def AnnivTellsSaid : Prop := annivTellsRow.holds Tryd.pinned (OpenSpec.ofChange annivTellsSpec)

/-- ITS FALSE NEIGHBOUR: 'it returns false'. Refute it at one input. -/
def annivTellsWrong : ChangeSpec := { name := "annivTells", fn := fun _ => fun
  | [d1, d2] => { results := [.lit (.bool false)], args := [d1, d2] }
  | _ => none }
def AnnivTellsWrongFalsely : Prop := annivTellsRow.holds Tryd.pinned (OpenSpec.ofChange annivTellsWrong)

/-- 'almanackerlaw18.AnnivSame': WHATEVER THE INPUT: true; the input reads as it did. -/
def annivSameSpec : ChangeSpec := { name := "annivSame", fn := fun _ => fun
  | [d1, d2] => { results := [.lit (.bool true)], args := [d1, d2] }
  | _ => none }
def annivSameRow : OpenClaim := { program := "ytbalbkkimlbecaadoor", sum := "5bce7e519f8553ec897c2411f0b27fc57b11061d7121b478ad60e35c4f4fb4c7", func := "almanacker/almanackerlaw18.AnnivSame", spec := "annivSame", unfollowed := true, recurses := true, named := ["almanacker/month.plain", "almanacker/keviah.types"], apart := false, laid := [("almanacker/keviah.types", laid_almanacker_keviah_types), ("almanacker/month.plain", laid_almanacker_month_plain)] }
def AnnivSameSaid : Prop := annivSameRow.holds Tryd.pinned (OpenSpec.ofChange annivSameSpec)

/-- ITS FALSE NEIGHBOUR: 'it returns false'. Refute it at one input. -/
def annivSameWrong : ChangeSpec := { name := "annivSame", fn := fun _ => fun
  | [d1, d2] => { results := [.lit (.bool false)], args := [d1, d2] }
  | _ => none }
def AnnivSameWrongFalsely : Prop := annivSameRow.holds Tryd.pinned (OpenSpec.ofChange annivSameWrong)

/-- 'almanackerlaw18.AnnivLater': WHATEVER THE INPUT: true; the input reads as it did. -/
def annivLaterSpec : ChangeSpec := { name := "annivLater", fn := fun _ => fun
  | [d1, d2, d3] => { results := [.lit (.bool true)], args := [d1, d2, d3] }
  | _ => none }
def annivLaterRow : OpenClaim := { program := "ytbalbkkimlbecaadoor", sum := "5bce7e519f8553ec897c2411f0b27fc57b11061d7121b478ad60e35c4f4fb4c7", func := "almanacker/almanackerlaw18.AnnivLater", spec := "annivLater", unfollowed := true, recurses := true, named := ["almanacker/month.plain", "almanacker/keviah.types"], apart := false, laid := [("almanacker/keviah.types", laid_almanacker_keviah_types), ("almanacker/month.plain", laid_almanacker_month_plain)] }
def AnnivLaterSaid : Prop := annivLaterRow.holds Tryd.pinned (OpenSpec.ofChange annivLaterSpec)

/-- ITS FALSE NEIGHBOUR: 'it returns false'. Refute it at one input. -/
def annivLaterWrong : ChangeSpec := { name := "annivLater", fn := fun _ => fun
  | [d1, d2, d3] => { results := [.lit (.bool false)], args := [d1, d2, d3] }
  | _ => none }
def AnnivLaterWrongFalsely : Prop := annivLaterRow.holds Tryd.pinned (OpenSpec.ofChange annivLaterWrong)

/- THE SECOND FORM. 'bulk': how many values and letters a reading holds, each counted each time it is reached (what is shared counts as often as it is met; a slice's spare places count too). A statement '..UptoSaid' is the law's where the arguments, and the package variables that the reading takes, are together of bulk at most 1048576: NARROWER than '..Said'. Prove '..Said' where nothing that the law and all that it calls make is longer than what came in: it says more and counts as full. Else prove '..UptoSaid'. A law counts once. -/
mutual
def uptoBulk {H : Type} : DataW H → Nat
  | .lit (.string bytes) => bytes.length + 1
  | .lit _ => 1
  | .nil => 1
  | .ptr d => uptoBulk d + 1
  | .slice elems spare => uptoBulkAll elems + uptoBulkAll spare + 1
  | .agg parts => uptoBulkAll parts + 1
  | .iface _ d => uptoBulk d + 1
  | .map entries => uptoBulkEntries entries + 1
  | .held _ => 1
def uptoBulkAll {H : Type} : List (DataW H) → Nat
  | [] => 0
  | d :: r => uptoBulk d + uptoBulkAll r
def uptoBulkEntries {H : Type} : List (Lit × DataW H) → Nat
  | [] => 0
  | x :: r => uptoBulkEntry x + uptoBulkEntries r
def uptoBulkEntry {H : Type} : Lit × DataW H → Nat
  | (.string bytes, d) => bytes.length + uptoBulk d + 1
  | (_, d) => uptoBulk d + 1
 end
def uptoSmall : (H : Type) → List (DataW H) → Bool := fun _ ds => decide (uptoBulkAll ds ≤ 1048576)
def OpenSpec.upto (s : _root_.Go.ChangeSpec) : _root_.Go.OpenSpec := { _root_.Go.OpenSpec.ofChange s with cond := some uptoSmall }

/-- 'almanackerlaw27.CountBack', WHERE WHAT IT READS IS OF BULK AT MOST 1048576: true; the input reads as it did. -/
def countBackUptoRow : OpenClaim := { program := "ytbalbkkimlbecaadoor", sum := "5bce7e519f8553ec897c2411f0b27fc57b11061d7121b478ad60e35c4f4fb4c7", func := "almanacker/almanackerlaw27.CountBack", spec := "countBack", named := ["almanacker/month.plain", "almanacker/keviah.types"], apart := false, laid := [("almanacker/keviah.types", laid_almanacker_keviah_types), ("almanacker/month.plain", laid_almanacker_month_plain)], narrowed := true }
def CountBackUptoSaid : Prop := countBackUptoRow.holds Tryd.pinned (OpenSpec.upto countBackSpec)

/-- 'almanackerlaw27.CountTells', WHERE WHAT IT READS IS OF BULK AT MOST 1048576: true; the input reads as it did. -/
def countTellsUptoRow : OpenClaim := { program := "ytbalbkkimlbecaadoor", sum := "5bce7e519f8553ec897c2411f0b27fc57b11061d7121b478ad60e35c4f4fb4c7", func := "almanacker/almanackerlaw27.CountTells", spec := "countTells", unfollowed := true, recurses := true, named := ["almanacker/month.plain", "almanacker/keviah.types"], apart := false, laid := [("almanacker/keviah.types", laid_almanacker_keviah_types), ("almanacker/month.plain", laid_almanacker_month_plain)], narrowed := true }
def CountTellsUptoSaid : Prop := countTellsUptoRow.holds Tryd.pinned (OpenSpec.upto countTellsSpec)

/-- 'almanackerlaw27.CountDays', WHERE WHAT IT READS IS OF BULK AT MOST 1048576: true; the input reads as it did. -/
def countDaysUptoRow : OpenClaim := { program := "ytbalbkkimlbecaadoor", sum := "5bce7e519f8553ec897c2411f0b27fc57b11061d7121b478ad60e35c4f4fb4c7", func := "almanacker/almanackerlaw27.CountDays", spec := "countDays", unfollowed := true, recurses := true, named := ["almanacker/month.plain", "almanacker/keviah.types"], apart := false, laid := [("almanacker/keviah.types", laid_almanacker_keviah_types), ("almanacker/month.plain", laid_almanacker_month_plain)], narrowed := true }
def CountDaysUptoSaid : Prop := countDaysUptoRow.holds Tryd.pinned (OpenSpec.upto countDaysSpec)

/-- 'almanackerlaw21.ChodeshTells', WHERE WHAT IT READS IS OF BULK AT MOST 1048576: true; the input reads as it did. -/
def chodeshTellsUptoRow : OpenClaim := { program := "ytbalbkkimlbecaadoor", sum := "5bce7e519f8553ec897c2411f0b27fc57b11061d7121b478ad60e35c4f4fb4c7", func := "almanacker/almanackerlaw21.ChodeshTells", spec := "chodeshTells", unfollowed := true, recurses := true, named := ["almanacker/month.plain", "almanacker/keviah.types"], apart := false, laid := [("almanacker/keviah.types", laid_almanacker_keviah_types), ("almanacker/month.plain", laid_almanacker_month_plain)], narrowed := true }
def ChodeshTellsUptoSaid : Prop := chodeshTellsUptoRow.holds Tryd.pinned (OpenSpec.upto chodeshTellsSpec)

/-- 'almanackerlaw21.ChodeshDays', WHERE WHAT IT READS IS OF BULK AT MOST 1048576: true; the input reads as it did. -/
def chodeshDaysUptoRow : OpenClaim := { program := "ytbalbkkimlbecaadoor", sum := "5bce7e519f8553ec897c2411f0b27fc57b11061d7121b478ad60e35c4f4fb4c7", func := "almanacker/almanackerlaw21.ChodeshDays", spec := "chodeshDays", unfollowed := true, recurses := true, named := ["almanacker/month.plain", "almanacker/keviah.types"], apart := false, laid := [("almanacker/keviah.types", laid_almanacker_keviah_types), ("almanacker/month.plain", laid_almanacker_month_plain)], narrowed := true }
def ChodeshDaysUptoSaid : Prop := chodeshDaysUptoRow.holds Tryd.pinned (OpenSpec.upto chodeshDaysSpec)

/-- 'almanackerlaw21.ChodeshOmer', WHERE WHAT IT READS IS OF BULK AT MOST 1048576: true; the input reads as it did. -/
def chodeshOmerUptoRow : OpenClaim := { program := "ytbalbkkimlbecaadoor", sum := "5bce7e519f8553ec897c2411f0b27fc57b11061d7121b478ad60e35c4f4fb4c7", func := "almanacker/almanackerlaw21.ChodeshOmer", spec := "chodeshOmer", unfollowed := true, recurses := true, named := ["almanacker/month.plain", "almanacker/keviah.types"], apart := false, laid := [("almanacker/keviah.types", laid_almanacker_keviah_types), ("almanacker/month.plain", laid_almanacker_month_plain)], narrowed := true }
def ChodeshOmerUptoSaid : Prop := chodeshOmerUptoRow.holds Tryd.pinned (OpenSpec.upto chodeshOmerSpec)

/-- 'almanackerlaw18.AnnivTells', WHERE WHAT IT READS IS OF BULK AT MOST 1048576: true; the input reads as it did. -/
def annivTellsUptoRow : OpenClaim := { program := "ytbalbkkimlbecaadoor", sum := "5bce7e519f8553ec897c2411f0b27fc57b11061d7121b478ad60e35c4f4fb4c7", func := "almanacker/almanackerlaw18.AnnivTells", spec := "annivTells", unfollowed := true, recurses := true, named := ["almanacker/month.plain", "almanacker/keviah.types"], apart := false, laid := [("almanacker/keviah.types", laid_almanacker_keviah_types), ("almanacker/month.plain", laid_almanacker_month_plain)], narrowed := true }
def AnnivTellsUptoSaid : Prop := annivTellsUptoRow.holds Tryd.pinned (OpenSpec.upto annivTellsSpec)

/-- 'almanackerlaw18.AnnivSame', WHERE WHAT IT READS IS OF BULK AT MOST 1048576: true; the input reads as it did. -/
def annivSameUptoRow : OpenClaim := { program := "ytbalbkkimlbecaadoor", sum := "5bce7e519f8553ec897c2411f0b27fc57b11061d7121b478ad60e35c4f4fb4c7", func := "almanacker/almanackerlaw18.AnnivSame", spec := "annivSame", unfollowed := true, recurses := true, named := ["almanacker/month.plain", "almanacker/keviah.types"], apart := false, laid := [("almanacker/keviah.types", laid_almanacker_keviah_types), ("almanacker/month.plain", laid_almanacker_month_plain)], narrowed := true }
def AnnivSameUptoSaid : Prop := annivSameUptoRow.holds Tryd.pinned (OpenSpec.upto annivSameSpec)

/-- 'almanackerlaw18.AnnivLater', WHERE WHAT IT READS IS OF BULK AT MOST 1048576: true; the input reads as it did. -/
def annivLaterUptoRow : OpenClaim := { program := "ytbalbkkimlbecaadoor", sum := "5bce7e519f8553ec897c2411f0b27fc57b11061d7121b478ad60e35c4f4fb4c7", func := "almanacker/almanackerlaw18.AnnivLater", spec := "annivLater", unfollowed := true, recurses := true, named := ["almanacker/month.plain", "almanacker/keviah.types"], apart := false, laid := [("almanacker/keviah.types", laid_almanacker_keviah_types), ("almanacker/month.plain", laid_almanacker_month_plain)], narrowed := true }
def AnnivLaterUptoSaid : Prop := annivLaterUptoRow.holds Tryd.pinned (OpenSpec.upto annivLaterSpec)

end Rows
end Go.Proofs.YtbalbkkimlbecaaDoor
