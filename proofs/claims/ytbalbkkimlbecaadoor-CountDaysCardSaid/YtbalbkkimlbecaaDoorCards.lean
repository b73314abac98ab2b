/-
  DERIVED. GIVEN WITH THE SEED: THE CARDS: each row of YtbalbkkimlbecaaDoorRows.lean that lists a variable, with what it lists TIED to the program's text (the seventh form; the later family's looks); each row that meets fmt, with fmt's text TOLD by the authors' own Lean function (tested against real Go, not proved from fmt's source: count such statements apart). THE CARD IS WHAT COUNTS. Prove the row's statement (the work); the ties are given (YtbalbkkimlbecaaDoorTie.lean); close each card by the builder's one call (the guide's Derived/Test/ToyasCard.lean, 'card_holds'). Laid BY PROGRAM, IN A SANDBOX (cutbox-door.mjs). By AI agents, Wed Nov 11 2026. No macro, syntax, notation, axiom, sorry.
-/
import Derived.Test.YtbalbkkimlbecaaDoorRows
import GoSem.ClaimSeven
namespace Go.Proofs.YtbalbkkimlbecaaDoor
namespace Rows

/-- THE TIED CARD OF 'almanackerlaw27.CountBack'. -/
def countBackCard : Claim7 := { stood := { row := countBackRow, standIns := [], harness := (true, "3499765e400d9ea6661e4ac46d4f68d05db0cdda0d6ac1a8a9407846ce7dac80"), looks := false }, kinds := [], alts := [], laidByText := true, laidKinds := [.widerDeep, .data], laidTests := true, laidLooks := .later }
def CountBackCardSaid : Prop := Claim7.holds Tryd.pinned (.plain (OpenSpec.ofChange countBackSpec)) countBackCard

/-- THE TIED CARD OF 'almanackerlaw27.CountTells'. -/
def countTellsCard : Claim7 := { stood := { row := countTellsRow, standIns := [], harness := (true, "3499765e400d9ea6661e4ac46d4f68d05db0cdda0d6ac1a8a9407846ce7dac80"), looks := false }, kinds := [], alts := [], laidByText := true, laidKinds := [.widerDeep, .data], laidTests := true, laidLooks := .later }
def CountTellsCardSaid : Prop := Claim7.holds Tryd.pinned (.plain (OpenSpec.ofChange countTellsSpec)) countTellsCard

/-- THE TIED CARD OF 'almanackerlaw27.CountDays'. -/
def countDaysCard : Claim7 := { stood := { row := countDaysRow, standIns := [], harness := (true, "3499765e400d9ea6661e4ac46d4f68d05db0cdda0d6ac1a8a9407846ce7dac80"), looks := false }, kinds := [], alts := [], laidByText := true, laidKinds := [.widerDeep, .data], laidTests := true, laidLooks := .later }
def CountDaysCardSaid : Prop := Claim7.holds Tryd.pinned (.plain (OpenSpec.ofChange countDaysSpec)) countDaysCard

/-- THE TIED CARD OF 'almanackerlaw21.ChodeshTells'. -/
def chodeshTellsCard : Claim7 := { stood := { row := chodeshTellsRow, standIns := [], harness := (true, "3499765e400d9ea6661e4ac46d4f68d05db0cdda0d6ac1a8a9407846ce7dac80"), looks := false }, kinds := [], alts := [], laidByText := true, laidKinds := [.widerDeep, .data], laidTests := true, laidLooks := .later }
def ChodeshTellsCardSaid : Prop := Claim7.holds Tryd.pinned (.plain (OpenSpec.ofChange chodeshTellsSpec)) chodeshTellsCard

/-- THE TIED CARD OF 'almanackerlaw21.ChodeshDays'. -/
def chodeshDaysCard : Claim7 := { stood := { row := chodeshDaysRow, standIns := [], harness := (true, "3499765e400d9ea6661e4ac46d4f68d05db0cdda0d6ac1a8a9407846ce7dac80"), looks := false }, kinds := [], alts := [], laidByText := true, laidKinds := [.widerDeep, .data], laidTests := true, laidLooks := .later }
def ChodeshDaysCardSaid : Prop := Claim7.holds Tryd.pinned (.plain (OpenSpec.ofChange chodeshDaysSpec)) chodeshDaysCard

/-- THE TIED CARD OF 'almanackerlaw21.ChodeshOmer'. -/
def chodeshOmerCard : Claim7 := { stood := { row := chodeshOmerRow, standIns := [], harness := (true, "3499765e400d9ea6661e4ac46d4f68d05db0cdda0d6ac1a8a9407846ce7dac80"), looks := false }, kinds := [], alts := [], laidByText := true, laidKinds := [.widerDeep, .data], laidTests := true, laidLooks := .later }
def ChodeshOmerCardSaid : Prop := Claim7.holds Tryd.pinned (.plain (OpenSpec.ofChange chodeshOmerSpec)) chodeshOmerCard

/-- THE TIED CARD OF 'almanackerlaw18.AnnivTells'. -/
def annivTellsCard : Claim7 := { stood := { row := annivTellsRow, standIns := [], harness := (true, "3499765e400d9ea6661e4ac46d4f68d05db0cdda0d6ac1a8a9407846ce7dac80"), looks := false }, kinds := [], alts := [], laidByText := true, laidKinds := [.widerDeep, .data], laidTests := true, laidLooks := .later }
def AnnivTellsCardSaid : Prop := Claim7.holds Tryd.pinned (.plain (OpenSpec.ofChange annivTellsSpec)) annivTellsCard

/-- THE TIED CARD OF 'almanackerlaw18.AnnivSame'. -/
def annivSameCard : Claim7 := { stood := { row := annivSameRow, standIns := [], harness := (true, "3499765e400d9ea6661e4ac46d4f68d05db0cdda0d6ac1a8a9407846ce7dac80"), looks := false }, kinds := [], alts := [], laidByText := true, laidKinds := [.widerDeep, .data], laidTests := true, laidLooks := .later }
def AnnivSameCardSaid : Prop := Claim7.holds Tryd.pinned (.plain (OpenSpec.ofChange annivSameSpec)) annivSameCard

/-- THE TIED CARD OF 'almanackerlaw18.AnnivLater'. -/
def annivLaterCard : Claim7 := { stood := { row := annivLaterRow, standIns := [], harness := (true, "3499765e400d9ea6661e4ac46d4f68d05db0cdda0d6ac1a8a9407846ce7dac80"), looks := false }, kinds := [], alts := [], laidByText := true, laidKinds := [.widerDeep, .data], laidTests := true, laidLooks := .later }
def AnnivLaterCardSaid : Prop := Claim7.holds Tryd.pinned (.plain (OpenSpec.ofChange annivLaterSpec)) annivLaterCard

/-- THE SECOND FORM's CARD OF 'almanackerlaw27.CountBack'. -/
def countBackUptoCard : Claim7 := { stood := { row := countBackUptoRow, standIns := [], harness := (true, "3499765e400d9ea6661e4ac46d4f68d05db0cdda0d6ac1a8a9407846ce7dac80"), looks := false }, kinds := [], alts := [], laidByText := true, laidKinds := [.widerDeep, .data], laidTests := true, laidLooks := .later }
def CountBackUptoCardSaid : Prop := Claim7.holds Tryd.pinned (.plain (OpenSpec.upto countBackSpec)) countBackUptoCard

/-- THE SECOND FORM's CARD OF 'almanackerlaw27.CountTells'. -/
def countTellsUptoCard : Claim7 := { stood := { row := countTellsUptoRow, standIns := [], harness := (true, "3499765e400d9ea6661e4ac46d4f68d05db0cdda0d6ac1a8a9407846ce7dac80"), looks := false }, kinds := [], alts := [], laidByText := true, laidKinds := [.widerDeep, .data], laidTests := true, laidLooks := .later }
def CountTellsUptoCardSaid : Prop := Claim7.holds Tryd.pinned (.plain (OpenSpec.upto countTellsSpec)) countTellsUptoCard

/-- THE SECOND FORM's CARD OF 'almanackerlaw27.CountDays'. -/
def countDaysUptoCard : Claim7 := { stood := { row := countDaysUptoRow, standIns := [], harness := (true, "3499765e400d9ea6661e4ac46d4f68d05db0cdda0d6ac1a8a9407846ce7dac80"), looks := false }, kinds := [], alts := [], laidByText := true, laidKinds := [.widerDeep, .data], laidTests := true, laidLooks := .later }
def CountDaysUptoCardSaid : Prop := Claim7.holds Tryd.pinned (.plain (OpenSpec.upto countDaysSpec)) countDaysUptoCard

/-- THE SECOND FORM's CARD OF 'almanackerlaw21.ChodeshTells'. -/
def chodeshTellsUptoCard : Claim7 := { stood := { row := chodeshTellsUptoRow, standIns := [], harness := (true, "3499765e400d9ea6661e4ac46d4f68d05db0cdda0d6ac1a8a9407846ce7dac80"), looks := false }, kinds := [], alts := [], laidByText := true, laidKinds := [.widerDeep, .data], laidTests := true, laidLooks := .later }
def ChodeshTellsUptoCardSaid : Prop := Claim7.holds Tryd.pinned (.plain (OpenSpec.upto chodeshTellsSpec)) chodeshTellsUptoCard

/-- THE SECOND FORM's CARD OF 'almanackerlaw21.ChodeshDays'. -/
def chodeshDaysUptoCard : Claim7 := { stood := { row := chodeshDaysUptoRow, standIns := [], harness := (true, "3499765e400d9ea6661e4ac46d4f68d05db0cdda0d6ac1a8a9407846ce7dac80"), looks := false }, kinds := [], alts := [], laidByText := true, laidKinds := [.widerDeep, .data], laidTests := true, laidLooks := .later }
def ChodeshDaysUptoCardSaid : Prop := Claim7.holds Tryd.pinned (.plain (OpenSpec.upto chodeshDaysSpec)) chodeshDaysUptoCard

/-- THE SECOND FORM's CARD OF 'almanackerlaw21.ChodeshOmer'. -/
def chodeshOmerUptoCard : Claim7 := { stood := { row := chodeshOmerUptoRow, standIns := [], harness := (true, "3499765e400d9ea6661e4ac46d4f68d05db0cdda0d6ac1a8a9407846ce7dac80"), looks := false }, kinds := [], alts := [], laidByText := true, laidKinds := [.widerDeep, .data], laidTests := true, laidLooks := .later }
def ChodeshOmerUptoCardSaid : Prop := Claim7.holds Tryd.pinned (.plain (OpenSpec.upto chodeshOmerSpec)) chodeshOmerUptoCard

/-- THE SECOND FORM's CARD OF 'almanackerlaw18.AnnivTells'. -/
def annivTellsUptoCard : Claim7 := { stood := { row := annivTellsUptoRow, standIns := [], harness := (true, "3499765e400d9ea6661e4ac46d4f68d05db0cdda0d6ac1a8a9407846ce7dac80"), looks := false }, kinds := [], alts := [], laidByText := true, laidKinds := [.widerDeep, .data], laidTests := true, laidLooks := .later }
def AnnivTellsUptoCardSaid : Prop := Claim7.holds Tryd.pinned (.plain (OpenSpec.upto annivTellsSpec)) annivTellsUptoCard

/-- THE SECOND FORM's CARD OF 'almanackerlaw18.AnnivSame'. -/
def annivSameUptoCard : Claim7 := { stood := { row := annivSameUptoRow, standIns := [], harness := (true, "3499765e400d9ea6661e4ac46d4f68d05db0cdda0d6ac1a8a9407846ce7dac80"), looks := false }, kinds := [], alts := [], laidByText := true, laidKinds := [.widerDeep, .data], laidTests := true, laidLooks := .later }
def AnnivSameUptoCardSaid : Prop := Claim7.holds Tryd.pinned (.plain (OpenSpec.upto annivSameSpec)) annivSameUptoCard

/-- THE SECOND FORM's CARD OF 'almanackerlaw18.AnnivLater'. -/
def annivLaterUptoCard : Claim7 := { stood := { row := annivLaterUptoRow, standIns := [], harness := (true, "3499765e400d9ea6661e4ac46d4f68d05db0cdda0d6ac1a8a9407846ce7dac80"), looks := false }, kinds := [], alts := [], laidByText := true, laidKinds := [.widerDeep, .data], laidTests := true, laidLooks := .later }
def AnnivLaterUptoCardSaid : Prop := Claim7.holds Tryd.pinned (.plain (OpenSpec.upto annivLaterSpec)) annivLaterUptoCard
end Rows
end Go.Proofs.YtbalbkkimlbecaaDoor
