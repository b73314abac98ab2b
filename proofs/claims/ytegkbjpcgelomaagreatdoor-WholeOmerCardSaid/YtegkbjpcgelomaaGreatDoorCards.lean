/-
  DERIVED. GIVEN WITH THE SEED: THE CARDS: each row of YtegkbjpcgelomaaGreatDoorRows.lean that lists a variable, with what it lists TIED to the program's text (the seventh form; the later family's looks); each row that meets fmt, with fmt's text TOLD by the authors' own Lean function (tested against real Go, not proved from fmt's source: count such statements apart). THE CARD IS WHAT COUNTS. Prove the row's statement (the work); the ties are given (YtegkbjpcgelomaaGreatDoorTie.lean); close each card by the builder's one call (the guide's Derived/Test/ToyasCard.lean, 'card_holds'). Laid BY PROGRAM, IN A SANDBOX (cutbox-door.mjs). By AI agents, Wed Nov 11 2026. No macro, syntax, notation, axiom, sorry.
-/
import Derived.Test.YtegkbjpcgelomaaGreatDoorRows
import GoSem.ClaimSeven
namespace Go.Proofs.YtegkbjpcgelomaaGreatDoor
namespace Rows

/-- THE TIED CARD OF 'almanackertop.WholeNineteen'. -/
def wholeNineteenCard : Claim7 := { stood := { row := wholeNineteenRow, standIns := [], harness := (true, "2a7680b3d10759eedbaf50ac48ae1427ae1a1826847ff3ffdde8e1c0fed2c2bd"), looks := false }, kinds := [], alts := [], goes := true, laidByText := true, laidKinds := [.data, .data, .data, .widerDeep, .data], laidTests := true, laidLooks := .later }
def WholeNineteenCardSaid : Prop := Claim7.holds Tryz.pinned (.plain (OpenSpec.ofChange wholeNineteenSpec)) wholeNineteenCard

/-- THE TIED CARD OF 'almanackertop.WholeTypes'. -/
def wholeTypesCard : Claim7 := { stood := { row := wholeTypesRow, standIns := [], harness := (true, "2a7680b3d10759eedbaf50ac48ae1427ae1a1826847ff3ffdde8e1c0fed2c2bd"), looks := false }, kinds := [], alts := [], goes := true, laidByText := true, laidKinds := [.data, .data, .data, .widerDeep, .data], laidTests := true, laidLooks := .later }
def WholeTypesCardSaid : Prop := Claim7.holds Tryz.pinned (.plain (OpenSpec.ofChange wholeTypesSpec)) wholeTypesCard

/-- THE TIED CARD OF 'almanackertop.WholeYears'. -/
def wholeYearsCard : Claim7 := { stood := { row := wholeYearsRow, standIns := [], harness := (true, "2a7680b3d10759eedbaf50ac48ae1427ae1a1826847ff3ffdde8e1c0fed2c2bd"), looks := false }, kinds := [], alts := [], goes := true, laidByText := true, laidKinds := [.data, .data, .data, .widerDeep, .data], laidTests := true, laidLooks := .later }
def WholeYearsCardSaid : Prop := Claim7.holds Tryz.pinned (.plain (OpenSpec.ofChange wholeYearsSpec)) wholeYearsCard

/-- THE TIED CARD OF 'almanackertop.WholeDays'. -/
def wholeDaysCard : Claim7 := { stood := { row := wholeDaysRow, standIns := [], harness := (true, "2a7680b3d10759eedbaf50ac48ae1427ae1a1826847ff3ffdde8e1c0fed2c2bd"), looks := false }, kinds := [], alts := [], goes := true, laidByText := true, laidKinds := [.data, .data, .data, .widerDeep, .data], laidTests := true, laidLooks := .later }
def WholeDaysCardSaid : Prop := Claim7.holds Tryz.pinned (.plain (OpenSpec.ofChange wholeDaysSpec)) wholeDaysCard

/-- THE TIED CARD OF 'almanackertop.WholeAnniversaries'. -/
def wholeAnniversariesCard : Claim7 := { stood := { row := wholeAnniversariesRow, standIns := [], harness := (true, "2a7680b3d10759eedbaf50ac48ae1427ae1a1826847ff3ffdde8e1c0fed2c2bd"), looks := false }, kinds := [], alts := [], goes := true, laidByText := true, laidKinds := [.data, .data, .data, .widerDeep, .data], laidTests := true, laidLooks := .later }
def WholeAnniversariesCardSaid : Prop := Claim7.holds Tryz.pinned (.plain (OpenSpec.ofChange wholeAnniversariesSpec)) wholeAnniversariesCard

/-- THE TIED CARD OF 'almanackertop.WholeFeasts'. -/
def wholeFeastsCard : Claim7 := { stood := { row := wholeFeastsRow, standIns := [], harness := (true, "2a7680b3d10759eedbaf50ac48ae1427ae1a1826847ff3ffdde8e1c0fed2c2bd"), looks := false }, kinds := [], alts := [], goes := true, laidByText := true, laidKinds := [.data, .data, .data, .widerDeep, .data], laidTests := true, laidLooks := .later }
def WholeFeastsCardSaid : Prop := Claim7.holds Tryz.pinned (.plain (OpenSpec.ofChange wholeFeastsSpec)) wholeFeastsCard

/-- THE TIED CARD OF 'almanackertop.WholeOmer'. -/
def wholeOmerCard : Claim7 := { stood := { row := wholeOmerRow, standIns := [], harness := (true, "2a7680b3d10759eedbaf50ac48ae1427ae1a1826847ff3ffdde8e1c0fed2c2bd"), looks := false }, kinds := [], alts := [], goes := true, laidByText := true, laidKinds := [.data, .data, .data, .widerDeep, .data], laidTests := true, laidLooks := .later }
def WholeOmerCardSaid : Prop := Claim7.holds Tryz.pinned (.plain (OpenSpec.ofChange wholeOmerSpec)) wholeOmerCard

/-- THE SECOND FORM's CARD OF 'almanackertop.WholeNineteen'. -/
def wholeNineteenUptoCard : Claim7 := { stood := { row := wholeNineteenUptoRow, standIns := [], harness := (true, "2a7680b3d10759eedbaf50ac48ae1427ae1a1826847ff3ffdde8e1c0fed2c2bd"), looks := false }, kinds := [], alts := [], goes := true, laidByText := true, laidKinds := [.data, .data, .data, .widerDeep, .data], laidTests := true, laidLooks := .later }
def WholeNineteenUptoCardSaid : Prop := Claim7.holds Tryz.pinned (.plain (OpenSpec.upto wholeNineteenSpec)) wholeNineteenUptoCard

/-- THE SECOND FORM's CARD OF 'almanackertop.WholeTypes'. -/
def wholeTypesUptoCard : Claim7 := { stood := { row := wholeTypesUptoRow, standIns := [], harness := (true, "2a7680b3d10759eedbaf50ac48ae1427ae1a1826847ff3ffdde8e1c0fed2c2bd"), looks := false }, kinds := [], alts := [], goes := true, laidByText := true, laidKinds := [.data, .data, .data, .widerDeep, .data], laidTests := true, laidLooks := .later }
def WholeTypesUptoCardSaid : Prop := Claim7.holds Tryz.pinned (.plain (OpenSpec.upto wholeTypesSpec)) wholeTypesUptoCard

/-- THE SECOND FORM's CARD OF 'almanackertop.WholeYears'. -/
def wholeYearsUptoCard : Claim7 := { stood := { row := wholeYearsUptoRow, standIns := [], harness := (true, "2a7680b3d10759eedbaf50ac48ae1427ae1a1826847ff3ffdde8e1c0fed2c2bd"), looks := false }, kinds := [], alts := [], goes := true, laidByText := true, laidKinds := [.data, .data, .data, .widerDeep, .data], laidTests := true, laidLooks := .later }
def WholeYearsUptoCardSaid : Prop := Claim7.holds Tryz.pinned (.plain (OpenSpec.upto wholeYearsSpec)) wholeYearsUptoCard

/-- THE SECOND FORM's CARD OF 'almanackertop.WholeDays'. -/
def wholeDaysUptoCard : Claim7 := { stood := { row := wholeDaysUptoRow, standIns := [], harness := (true, "2a7680b3d10759eedbaf50ac48ae1427ae1a1826847ff3ffdde8e1c0fed2c2bd"), looks := false }, kinds := [], alts := [], goes := true, laidByText := true, laidKinds := [.data, .data, .data, .widerDeep, .data], laidTests := true, laidLooks := .later }
def WholeDaysUptoCardSaid : Prop := Claim7.holds Tryz.pinned (.plain (OpenSpec.upto wholeDaysSpec)) wholeDaysUptoCard

/-- THE SECOND FORM's CARD OF 'almanackertop.WholeAnniversaries'. -/
def wholeAnniversariesUptoCard : Claim7 := { stood := { row := wholeAnniversariesUptoRow, standIns := [], harness := (true, "2a7680b3d10759eedbaf50ac48ae1427ae1a1826847ff3ffdde8e1c0fed2c2bd"), looks := false }, kinds := [], alts := [], goes := true, laidByText := true, laidKinds := [.data, .data, .data, .widerDeep, .data], laidTests := true, laidLooks := .later }
def WholeAnniversariesUptoCardSaid : Prop := Claim7.holds Tryz.pinned (.plain (OpenSpec.upto wholeAnniversariesSpec)) wholeAnniversariesUptoCard

/-- THE SECOND FORM's CARD OF 'almanackertop.WholeFeasts'. -/
def wholeFeastsUptoCard : Claim7 := { stood := { row := wholeFeastsUptoRow, standIns := [], harness := (true, "2a7680b3d10759eedbaf50ac48ae1427ae1a1826847ff3ffdde8e1c0fed2c2bd"), looks := false }, kinds := [], alts := [], goes := true, laidByText := true, laidKinds := [.data, .data, .data, .widerDeep, .data], laidTests := true, laidLooks := .later }
def WholeFeastsUptoCardSaid : Prop := Claim7.holds Tryz.pinned (.plain (OpenSpec.upto wholeFeastsSpec)) wholeFeastsUptoCard

/-- THE SECOND FORM's CARD OF 'almanackertop.WholeOmer'. -/
def wholeOmerUptoCard : Claim7 := { stood := { row := wholeOmerUptoRow, standIns := [], harness := (true, "2a7680b3d10759eedbaf50ac48ae1427ae1a1826847ff3ffdde8e1c0fed2c2bd"), looks := false }, kinds := [], alts := [], goes := true, laidByText := true, laidKinds := [.data, .data, .data, .widerDeep, .data], laidTests := true, laidLooks := .later }
def WholeOmerUptoCardSaid : Prop := Claim7.holds Tryz.pinned (.plain (OpenSpec.upto wholeOmerSpec)) wholeOmerUptoCard
end Rows
end Go.Proofs.YtegkbjpcgelomaaGreatDoor
