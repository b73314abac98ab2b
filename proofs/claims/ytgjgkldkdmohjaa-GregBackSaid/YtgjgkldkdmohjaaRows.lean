/-
  No cell of these rows narrows 'for every input' (looked for: loops, veiled, ifaces, maps, wideKeys, modest, calm, conditions, laid).
  DERIVED. THE GIVEN ROWS OF THIS SEAT. 4 by the template 'for every input the law returns true; each argument reads behind the call as it read before'; 0 by the template 'total and deterministic' (their statements: YtgjgkldkdmohjaaTotals.lean).
  GIVEN WITH THE SEED: the statements are not yours to turn. If you find one false, say at which input.
  Laid BY PROGRAM, IN A SANDBOX (cutbox-rows.mjs): the forced cells as the released guide's own fill.sh prints them over the translation a479f7715755e732… (all of the seat's roots in one cut). By AI agents, Wed Nov 11 2026. No macro, syntax, notation, axiom, sorry.
-/
import Derived.Test.YtgjgkldkdmohjaaChecked
import GoSem.Claim
import GoSem.ClaimJoined
import GoSem.ClaimMapViews
import Derived.JoinedTies
import Derived.KernelRfl
namespace Go.Proofs.Ytgjgkldkdmohjaa
/- THE CELL 'sum', in the pinned program and in every row, IS THE sha256 OF THE DUMP (.gsa) THAT YtgjgkldkdmohjaaProg.lean LOADS. Nothing in Lean hashes anything: it is a label: what it is worth is what the hold of that sum in a sandbox is worth. -/
noncomputable def Try.pinned : Pinned := { name := "ytgjgkldkdmohjaa", sum := "a479f7715755e732f99961b5dc1d15e31e9fb78b511e24451e488cf0b1a5f073", checked := Try.checked }
namespace Rows
def none {H : Type} : Left H := { results := [], args := [] }

/-- 'almanackerlaw11.GregNext': WHATEVER THE INPUT: true; the input reads as it did. -/
def gregNextSpec : ChangeSpec := { name := "gregNext", fn := fun _ => fun
  | [d] => { results := [.lit (.bool true)], args := [d] }
  | _ => none }
def gregNextRow : OpenClaim := { program := "ytgjgkldkdmohjaa", sum := "a479f7715755e732f99961b5dc1d15e31e9fb78b511e24451e488cf0b1a5f073", func := "almanacker/almanackerlaw11.GregNext", spec := "gregNext", unfollowed := true, recurses := true, apart := false }
def GregNextSaid : Prop := gregNextRow.holds Try.pinned (OpenSpec.ofChange gregNextSpec)

/-- ITS FALSE NEIGHBOUR: 'it returns false'. Refute it at one input. -/
def gregNextWrong : ChangeSpec := { name := "gregNext", fn := fun _ => fun
  | [d] => { results := [.lit (.bool false)], args := [d] }
  | _ => none }
def GregNextWrongFalsely : Prop := gregNextRow.holds Try.pinned (OpenSpec.ofChange gregNextWrong)

/-- 'almanackerlaw11.GregRound': WHATEVER THE INPUT: true; the input reads as it did. -/
def gregRoundSpec : ChangeSpec := { name := "gregRound", fn := fun _ => fun
  | [d] => { results := [.lit (.bool true)], args := [d] }
  | _ => none }
def gregRoundRow : OpenClaim := { program := "ytgjgkldkdmohjaa", sum := "a479f7715755e732f99961b5dc1d15e31e9fb78b511e24451e488cf0b1a5f073", func := "almanacker/almanackerlaw11.GregRound", spec := "gregRound", unfollowed := true, recurses := true, apart := false }
def GregRoundSaid : Prop := gregRoundRow.holds Try.pinned (OpenSpec.ofChange gregRoundSpec)

/-- ITS FALSE NEIGHBOUR: 'it returns false'. Refute it at one input. -/
def gregRoundWrong : ChangeSpec := { name := "gregRound", fn := fun _ => fun
  | [d] => { results := [.lit (.bool false)], args := [d] }
  | _ => none }
def GregRoundWrongFalsely : Prop := gregRoundRow.holds Try.pinned (OpenSpec.ofChange gregRoundWrong)

/-- 'almanackerlaw11.GregTells': WHATEVER THE INPUT: true; the input reads as it did. -/
def gregTellsSpec : ChangeSpec := { name := "gregTells", fn := fun _ => fun
  | [d1, d2, d3] => { results := [.lit (.bool true)], args := [d1, d2, d3] }
  | _ => none }
def gregTellsRow : OpenClaim := { program := "ytgjgkldkdmohjaa", sum := "a479f7715755e732f99961b5dc1d15e31e9fb78b511e24451e488cf0b1a5f073", func := "almanacker/almanackerlaw11.GregTells", spec := "gregTells", unfollowed := true, recurses := true, apart := false }
def GregTellsSaid : Prop := gregTellsRow.holds Try.pinned (OpenSpec.ofChange gregTellsSpec)

/-- ITS FALSE NEIGHBOUR: 'it returns false'. Refute it at one input. -/
def gregTellsWrong : ChangeSpec := { name := "gregTells", fn := fun _ => fun
  | [d1, d2, d3] => { results := [.lit (.bool false)], args := [d1, d2, d3] }
  | _ => none }
def GregTellsWrongFalsely : Prop := gregTellsRow.holds Try.pinned (OpenSpec.ofChange gregTellsWrong)

/-- 'almanackerlaw11.GregBack': WHATEVER THE INPUT: true; the input reads as it did. -/
def gregBackSpec : ChangeSpec := { name := "gregBack", fn := fun _ => fun
  | [d1, d2] => { results := [.lit (.bool true)], args := [d1, d2] }
  | _ => none }
def gregBackRow : OpenClaim := { program := "ytgjgkldkdmohjaa", sum := "a479f7715755e732f99961b5dc1d15e31e9fb78b511e24451e488cf0b1a5f073", func := "almanacker/almanackerlaw11.GregBack", spec := "gregBack", unfollowed := true, recurses := true, apart := false }
def GregBackSaid : Prop := gregBackRow.holds Try.pinned (OpenSpec.ofChange gregBackSpec)

/-- ITS FALSE NEIGHBOUR: 'it returns false'. Refute it at one input. -/
def gregBackWrong : ChangeSpec := { name := "gregBack", fn := fun _ => fun
  | [d1, d2] => { results := [.lit (.bool false)], args := [d1, d2] }
  | _ => none }
def GregBackWrongFalsely : Prop := gregBackRow.holds Try.pinned (OpenSpec.ofChange gregBackWrong)

/- THE SECOND FORM. 'bulk': how many values and letters a reading holds, each counted each time it is reached (what is shared counts as often as it is met; a slice's spare places count too). A statement '..UptoSaid' is the law's where the arguments, and the package variables that the reading takes, are together of bulk at most 1048576: NARROWER than '..Said'. Prove '..Said' where nothing that the law and all that it calls make is longer than what came in: it says more and counts as full. Else prove '..UptoSaid'. A law counts once. -/
mutual
def uptoBulk {H : Type} : DataW H → Nat
  | .lit (.string bytes) => bytes.length + 1
  | .lit _ => 1
  | .nil => 1
  | .ptr d => uptoBulk d + 1
  | .slice elems spare => uptoBulkAll elems + uptoBulkAll spare + 1
  | .agg parts => uptoBulkAll parts + 1
  | .iface _ d => uptoBulk d + 1
  | .map entries => uptoBulkEntries entries + 1
  | .held _ => 1
def uptoBulkAll {H : Type} : List (DataW H) → Nat
  | [] => 0
  | d :: r => uptoBulk d + uptoBulkAll r
def uptoBulkEntries {H : Type} : List (Lit × DataW H) → Nat
  | [] => 0
  | x :: r => uptoBulkEntry x + uptoBulkEntries r
def uptoBulkEntry {H : Type} : Lit × DataW H → Nat
  | (.string bytes, d) => bytes.length + uptoBulk d + 1
  | (_, d) => uptoBulk d + 1
 end
def uptoSmall : (H : Type) → List (DataW H) → Bool := fun _ ds => decide (uptoBulkAll ds ≤ 1048576)
def OpenSpec.upto (s : _root_.Go.ChangeSpec) : _root_.Go.OpenSpec := { _root_.Go.OpenSpec.ofChange s with cond := some uptoSmall }

/-- 'almanackerlaw11.GregNext', WHERE WHAT IT READS IS OF BULK AT MOST 1048576: true; the input reads as it did. -/
def gregNextUptoRow : OpenClaim := { program := "ytgjgkldkdmohjaa", sum := "a479f7715755e732f99961b5dc1d15e31e9fb78b511e24451e488cf0b1a5f073", func := "almanacker/almanackerlaw11.GregNext", spec := "gregNext", unfollowed := true, recurses := true, apart := false, narrowed := true }
def GregNextUptoSaid : Prop := gregNextUptoRow.holds Try.pinned (OpenSpec.upto gregNextSpec)

/-- 'almanackerlaw11.GregRound', WHERE WHAT IT READS IS OF BULK AT MOST 1048576: true; the input reads as it did. -/
def gregRoundUptoRow : OpenClaim := { program := "ytgjgkldkdmohjaa", sum := "a479f7715755e732f99961b5dc1d15e31e9fb78b511e24451e488cf0b1a5f073", func := "almanacker/almanackerlaw11.GregRound", spec := "gregRound", unfollowed := true, recurses := true, apart := false, narrowed := true }
def GregRoundUptoSaid : Prop := gregRoundUptoRow.holds Try.pinned (OpenSpec.upto gregRoundSpec)

/-- 'almanackerlaw11.GregTells', WHERE WHAT IT READS IS OF BULK AT MOST 1048576: true; the input reads as it did. -/
def gregTellsUptoRow : OpenClaim := { program := "ytgjgkldkdmohjaa", sum := "a479f7715755e732f99961b5dc1d15e31e9fb78b511e24451e488cf0b1a5f073", func := "almanacker/almanackerlaw11.GregTells", spec := "gregTells", unfollowed := true, recurses := true, apart := false, narrowed := true }
def GregTellsUptoSaid : Prop := gregTellsUptoRow.holds Try.pinned (OpenSpec.upto gregTellsSpec)

/-- 'almanackerlaw11.GregBack', WHERE WHAT IT READS IS OF BULK AT MOST 1048576: true; the input reads as it did. -/
def gregBackUptoRow : OpenClaim := { program := "ytgjgkldkdmohjaa", sum := "a479f7715755e732f99961b5dc1d15e31e9fb78b511e24451e488cf0b1a5f073", func := "almanacker/almanackerlaw11.GregBack", spec := "gregBack", unfollowed := true, recurses := true, apart := false, narrowed := true }
def GregBackUptoSaid : Prop := gregBackUptoRow.holds Try.pinned (OpenSpec.upto gregBackSpec)

end Rows
end Go.Proofs.Ytgjgkldkdmohjaa
