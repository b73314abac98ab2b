/-
  DERIVED. GIVEN WITH THE SEED: THE CARDS: each row of YtkiopgegdkeojaaDoorRows.lean that lists a variable, with what it lists TIED to the program's text (the seventh form; the later family's looks); each row that meets fmt, with fmt's text TOLD by the authors' own Lean function (tested against real Go, not proved from fmt's source: count such statements apart). THE CARD IS WHAT COUNTS. Prove the row's statement (the work); the ties are given (YtkiopgegdkeojaaDoorTie.lean); close each card by the builder's one call (the guide's Derived/Test/ToyasCard.lean, 'card_holds'). Laid BY PROGRAM, IN A SANDBOX (cutbox-door.mjs). By AI agents, Wed Nov 11 2026. No macro, syntax, notation, axiom, sorry.
-/
import Derived.Test.YtkiopgegdkeojaaDoorRows
import GoSem.ClaimSeven
namespace Go.Proofs.YtkiopgegdkeojaaDoor
namespace Rows

/-- THE TIED CARD OF 'almanackerlaw16.AddModes'. -/
def addModesCard : Claim7 := { stood := { row := addModesRow, standIns := [], harness := (true, "cc13fb2574be0cd9b54694ba96b0f00d0a5585a55699bb1db6bbd030a0109f36"), looks := false }, kinds := [], alts := [], laidByText := true, laidKinds := [.widerDeep, .data], laidTests := true, laidLooks := .later }
def AddModesCardSaid : Prop := Claim7.holds Tryd.pinned (.plain (OpenSpec.ofChange addModesSpec)) addModesCard

/-- THE TIED CARD OF 'almanackerlaw16.AddRises'. -/
def addRisesCard : Claim7 := { stood := { row := addRisesRow, standIns := [], harness := (true, "cc13fb2574be0cd9b54694ba96b0f00d0a5585a55699bb1db6bbd030a0109f36"), looks := false }, kinds := [], alts := [], laidByText := true, laidKinds := [.widerDeep, .data], laidTests := true, laidLooks := .later }
def AddRisesCardSaid : Prop := Claim7.holds Tryd.pinned (.plain (OpenSpec.ofChange addRisesSpec)) addRisesCard

/-- THE TIED CARD OF 'almanackerlaw16.AddDays'. -/
def addDaysCard : Claim7 := { stood := { row := addDaysRow, standIns := [], harness := (true, "cc13fb2574be0cd9b54694ba96b0f00d0a5585a55699bb1db6bbd030a0109f36"), looks := false }, kinds := [], alts := [], laidByText := true, laidKinds := [.widerDeep, .data], laidTests := true, laidLooks := .later }
def AddDaysCardSaid : Prop := Claim7.holds Tryd.pinned (.plain (OpenSpec.ofChange addDaysSpec)) addDaysCard

/-- THE SECOND FORM's CARD OF 'almanackerlaw16.AddModes'. -/
def addModesUptoCard : Claim7 := { stood := { row := addModesUptoRow, standIns := [], harness := (true, "cc13fb2574be0cd9b54694ba96b0f00d0a5585a55699bb1db6bbd030a0109f36"), looks := false }, kinds := [], alts := [], laidByText := true, laidKinds := [.widerDeep, .data], laidTests := true, laidLooks := .later }
def AddModesUptoCardSaid : Prop := Claim7.holds Tryd.pinned (.plain (OpenSpec.upto addModesSpec)) addModesUptoCard

/-- THE SECOND FORM's CARD OF 'almanackerlaw16.AddRises'. -/
def addRisesUptoCard : Claim7 := { stood := { row := addRisesUptoRow, standIns := [], harness := (true, "cc13fb2574be0cd9b54694ba96b0f00d0a5585a55699bb1db6bbd030a0109f36"), looks := false }, kinds := [], alts := [], laidByText := true, laidKinds := [.widerDeep, .data], laidTests := true, laidLooks := .later }
def AddRisesUptoCardSaid : Prop := Claim7.holds Tryd.pinned (.plain (OpenSpec.upto addRisesSpec)) addRisesUptoCard

/-- THE SECOND FORM's CARD OF 'almanackerlaw16.AddDays'. -/
def addDaysUptoCard : Claim7 := { stood := { row := addDaysUptoRow, standIns := [], harness := (true, "cc13fb2574be0cd9b54694ba96b0f00d0a5585a55699bb1db6bbd030a0109f36"), looks := false }, kinds := [], alts := [], laidByText := true, laidKinds := [.widerDeep, .data], laidTests := true, laidLooks := .later }
def AddDaysUptoCardSaid : Prop := Claim7.holds Tryd.pinned (.plain (OpenSpec.upto addDaysSpec)) addDaysUptoCard
end Rows
end Go.Proofs.YtkiopgegdkeojaaDoor
