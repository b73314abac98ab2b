/-
  DERIVED. GIVEN WITH THE SEED: THE CARDS: each row of YtkiopgegdkeojaaGreatDoorRows.lean that lists a variable, with what it lists TIED to the program's text (the seventh form; the later family's looks); each row that meets fmt, with fmt's text TOLD by the authors' own Lean function (tested against real Go, not proved from fmt's source: count such statements apart). THE CARD IS WHAT COUNTS. Prove the row's statement (the work); the ties are given (YtkiopgegdkeojaaGreatDoorTie.lean); close each card by the builder's one call (the guide's Derived/Test/ToyasCard.lean, 'card_holds'). Laid BY PROGRAM, IN A SANDBOX (cutbox-door.mjs). By AI agents, Wed Nov 11 2026. No macro, syntax, notation, axiom, sorry.
-/
import Derived.Test.YtkiopgegdkeojaaGreatDoorRows
import GoSem.ClaimSeven
namespace Go.Proofs.YtkiopgegdkeojaaGreatDoor
namespace Rows

/-- THE TIED CARD OF 'almanackerlaw16.AddTells'. -/
def addTellsCard : Claim7 := { stood := { row := addTellsRow, standIns := [], harness := (true, "50d0a8e881338e449854e1f9e687ffb06065694e89f80fd5725a1d128350ccf0"), looks := false }, kinds := [], alts := [], laidByText := true, laidKinds := [.widerDeep, .data], laidTests := true, laidLooks := .later }
def AddTellsCardSaid : Prop := Claim7.holds Tryz.pinned (.plain (OpenSpec.ofChange addTellsSpec)) addTellsCard

/-- THE TIED CARD OF 'almanackerlaw17.UntilTells'. -/
def untilTellsCard : Claim7 := { stood := { row := untilTellsRow, standIns := [], harness := (true, "50d0a8e881338e449854e1f9e687ffb06065694e89f80fd5725a1d128350ccf0"), looks := false }, kinds := [], alts := [], laidByText := true, laidKinds := [.widerDeep, .data], laidTests := true, laidLooks := .later }
def UntilTellsCardSaid : Prop := Claim7.holds Tryz.pinned (.plain (OpenSpec.ofChange untilTellsSpec)) untilTellsCard

/-- THE TIED CARD OF 'almanackerlaw17.UntilBack'. -/
def untilBackCard : Claim7 := { stood := { row := untilBackRow, standIns := [], harness := (true, "50d0a8e881338e449854e1f9e687ffb06065694e89f80fd5725a1d128350ccf0"), looks := false }, kinds := [], alts := [], laidByText := true, laidKinds := [.widerDeep, .data], laidTests := true, laidLooks := .later }
def UntilBackCardSaid : Prop := Claim7.holds Tryz.pinned (.plain (OpenSpec.ofChange untilBackSpec)) untilBackCard

/-- THE TIED CARD OF 'almanackerlaw17.UntilMost'. -/
def untilMostCard : Claim7 := { stood := { row := untilMostRow, standIns := [], harness := (true, "50d0a8e881338e449854e1f9e687ffb06065694e89f80fd5725a1d128350ccf0"), looks := false }, kinds := [], alts := [], laidByText := true, laidKinds := [.widerDeep, .data], laidTests := true, laidLooks := .later }
def UntilMostCardSaid : Prop := Claim7.holds Tryz.pinned (.plain (OpenSpec.ofChange untilMostSpec)) untilMostCard

/-- THE SECOND FORM's CARD OF 'almanackerlaw16.AddTells'. -/
def addTellsUptoCard : Claim7 := { stood := { row := addTellsUptoRow, standIns := [], harness := (true, "50d0a8e881338e449854e1f9e687ffb06065694e89f80fd5725a1d128350ccf0"), looks := false }, kinds := [], alts := [], laidByText := true, laidKinds := [.widerDeep, .data], laidTests := true, laidLooks := .later }
def AddTellsUptoCardSaid : Prop := Claim7.holds Tryz.pinned (.plain (OpenSpec.upto addTellsSpec)) addTellsUptoCard

/-- THE SECOND FORM's CARD OF 'almanackerlaw17.UntilTells'. -/
def untilTellsUptoCard : Claim7 := { stood := { row := untilTellsUptoRow, standIns := [], harness := (true, "50d0a8e881338e449854e1f9e687ffb06065694e89f80fd5725a1d128350ccf0"), looks := false }, kinds := [], alts := [], laidByText := true, laidKinds := [.widerDeep, .data], laidTests := true, laidLooks := .later }
def UntilTellsUptoCardSaid : Prop := Claim7.holds Tryz.pinned (.plain (OpenSpec.upto untilTellsSpec)) untilTellsUptoCard

/-- THE SECOND FORM's CARD OF 'almanackerlaw17.UntilBack'. -/
def untilBackUptoCard : Claim7 := { stood := { row := untilBackUptoRow, standIns := [], harness := (true, "50d0a8e881338e449854e1f9e687ffb06065694e89f80fd5725a1d128350ccf0"), looks := false }, kinds := [], alts := [], laidByText := true, laidKinds := [.widerDeep, .data], laidTests := true, laidLooks := .later }
def UntilBackUptoCardSaid : Prop := Claim7.holds Tryz.pinned (.plain (OpenSpec.upto untilBackSpec)) untilBackUptoCard

/-- THE SECOND FORM's CARD OF 'almanackerlaw17.UntilMost'. -/
def untilMostUptoCard : Claim7 := { stood := { row := untilMostUptoRow, standIns := [], harness := (true, "50d0a8e881338e449854e1f9e687ffb06065694e89f80fd5725a1d128350ccf0"), looks := false }, kinds := [], alts := [], laidByText := true, laidKinds := [.widerDeep, .data], laidTests := true, laidLooks := .later }
def UntilMostUptoCardSaid : Prop := Claim7.holds Tryz.pinned (.plain (OpenSpec.upto untilMostSpec)) untilMostUptoCard
end Rows
end Go.Proofs.YtkiopgegdkeojaaGreatDoor
