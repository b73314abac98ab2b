/-
  DERIVED. GIVEN WITH THE SEED: THE CARDS: each row of YtgjgkldkdmohjaaDoorRows.lean that lists a variable, with what it lists TIED to the program's text (the seventh form; the later family's looks); each row that meets fmt, with fmt's text TOLD by the authors' own Lean function (tested against real Go, not proved from fmt's source: count such statements apart). THE CARD IS WHAT COUNTS. Prove the row's statement (the work); the ties are given (YtgjgkldkdmohjaaDoorTie.lean); close each card by the builder's one call (the guide's Derived/Test/ToyasCard.lean, 'card_holds'). Laid BY PROGRAM, IN A SANDBOX (cutbox-door.mjs). By AI agents, Wed Nov 11 2026. No macro, syntax, notation, axiom, sorry.
-/
import Derived.Test.YtgjgkldkdmohjaaDoorRows
import GoSem.ClaimSeven
namespace Go.Proofs.YtgjgkldkdmohjaaDoor
namespace Rows

/-- THE TIED CARD OF 'almanackerlaw08.MonthTells'. -/
def monthTellsCard : Claim7 := { stood := { row := monthTellsRow, standIns := [], harness := (true, "a12a187b50d16f2e99998a5233ff3e894790f256b09baf6993282e7991290e0c"), looks := false }, kinds := [], alts := [], laidByText := true, laidKinds := [.widerDeep, .data], laidTests := true, laidLooks := .later }
def MonthTellsCardSaid : Prop := Claim7.holds Tryd.pinned (.plain (OpenSpec.ofChange monthTellsSpec)) monthTellsCard

/-- THE TIED CARD OF 'almanackerlaw08.MonthSums'. -/
def monthSumsCard : Claim7 := { stood := { row := monthSumsRow, standIns := [], harness := (true, "a12a187b50d16f2e99998a5233ff3e894790f256b09baf6993282e7991290e0c"), looks := false }, kinds := [], alts := [], laidByText := true, laidKinds := [.widerDeep, .data], laidTests := true, laidLooks := .later }
def MonthSumsCardSaid : Prop := Claim7.holds Tryd.pinned (.plain (OpenSpec.ofChange monthSumsSpec)) monthSumsCard

/-- THE TIED CARD OF 'almanackerlaw07.KeviahTells'. -/
def keviahTellsCard : Claim7 := { stood := { row := keviahTellsRow, standIns := [], harness := (true, "a12a187b50d16f2e99998a5233ff3e894790f256b09baf6993282e7991290e0c"), looks := false }, kinds := [], alts := [], laidByText := true, laidKinds := [.widerDeep], laidTests := true, laidLooks := .later }
def KeviahTellsCardSaid : Prop := Claim7.holds Tryd.pinned (.plain (OpenSpec.ofChange keviahTellsSpec)) keviahTellsCard

/-- THE TIED CARD OF 'almanackerlaw07.KeviahYears'. -/
def keviahYearsCard : Claim7 := { stood := { row := keviahYearsRow, standIns := [], harness := (true, "a12a187b50d16f2e99998a5233ff3e894790f256b09baf6993282e7991290e0c"), looks := false }, kinds := [], alts := [], laidByText := true, laidKinds := [.widerDeep], laidTests := true, laidLooks := .later }
def KeviahYearsCardSaid : Prop := Claim7.holds Tryd.pinned (.plain (OpenSpec.ofChange keviahYearsSpec)) keviahYearsCard

/-- THE TIED CARD OF 'almanackerlaw07.KeviahNumbers'. -/
def keviahNumbersCard : Claim7 := { stood := { row := keviahNumbersRow, standIns := [], harness := (true, "a12a187b50d16f2e99998a5233ff3e894790f256b09baf6993282e7991290e0c"), looks := false }, kinds := [], alts := [], laidByText := true, laidKinds := [.widerDeep], laidTests := true, laidLooks := .later }
def KeviahNumbersCardSaid : Prop := Claim7.holds Tryd.pinned (.plain (OpenSpec.ofChange keviahNumbersSpec)) keviahNumbersCard

/-- THE TIED CARD OF 'almanackerlaw15.ShiftBack'. -/
def shiftBackCard : Claim7 := { stood := { row := shiftBackRow, standIns := [], harness := (true, "a12a187b50d16f2e99998a5233ff3e894790f256b09baf6993282e7991290e0c"), looks := false }, kinds := [], alts := [], laidByText := true, laidKinds := [.widerDeep, .data], laidTests := true, laidLooks := .later }
def ShiftBackCardSaid : Prop := Claim7.holds Tryd.pinned (.plain (OpenSpec.ofChange shiftBackSpec)) shiftBackCard

/-- THE TIED CARD OF 'almanackerlaw15.ShiftOne'. -/
def shiftOneCard : Claim7 := { stood := { row := shiftOneRow, standIns := [], harness := (true, "a12a187b50d16f2e99998a5233ff3e894790f256b09baf6993282e7991290e0c"), looks := false }, kinds := [], alts := [], laidByText := true, laidKinds := [.widerDeep, .data], laidTests := true, laidLooks := .later }
def ShiftOneCardSaid : Prop := Claim7.holds Tryd.pinned (.plain (OpenSpec.ofChange shiftOneSpec)) shiftOneCard

/-- THE TIED CARD OF 'almanackerlaw15.ShiftTells'. -/
def shiftTellsCard : Claim7 := { stood := { row := shiftTellsRow, standIns := [], harness := (true, "a12a187b50d16f2e99998a5233ff3e894790f256b09baf6993282e7991290e0c"), looks := false }, kinds := [], alts := [], laidByText := true, laidKinds := [.widerDeep, .data], laidTests := true, laidLooks := .later }
def ShiftTellsCardSaid : Prop := Claim7.holds Tryd.pinned (.plain (OpenSpec.ofChange shiftTellsSpec)) shiftTellsCard

/-- THE TIED CARD OF 'almanackerlaw10.HebBack'. -/
def hebBackCard : Claim7 := { stood := { row := hebBackRow, standIns := [], harness := (true, "a12a187b50d16f2e99998a5233ff3e894790f256b09baf6993282e7991290e0c"), looks := false }, kinds := [], alts := [], laidByText := true, laidKinds := [.widerDeep, .data], laidTests := true, laidLooks := .later }
def HebBackCardSaid : Prop := Claim7.holds Tryd.pinned (.plain (OpenSpec.ofChange hebBackSpec)) hebBackCard

/-- THE TIED CARD OF 'almanackerlaw10.HebMonths'. -/
def hebMonthsCard : Claim7 := { stood := { row := hebMonthsRow, standIns := [], harness := (true, "a12a187b50d16f2e99998a5233ff3e894790f256b09baf6993282e7991290e0c"), looks := false }, kinds := [], alts := [], laidByText := true, laidKinds := [.widerDeep, .data], laidTests := true, laidLooks := .later }
def HebMonthsCardSaid : Prop := Claim7.holds Tryd.pinned (.plain (OpenSpec.ofChange hebMonthsSpec)) hebMonthsCard

/-- THE TIED CARD OF 'almanackerlaw10.HebNext'. -/
def hebNextCard : Claim7 := { stood := { row := hebNextRow, standIns := [], harness := (true, "a12a187b50d16f2e99998a5233ff3e894790f256b09baf6993282e7991290e0c"), looks := false }, kinds := [], alts := [], laidByText := true, laidKinds := [.widerDeep, .data], laidTests := true, laidLooks := .later }
def HebNextCardSaid : Prop := Claim7.holds Tryd.pinned (.plain (OpenSpec.ofChange hebNextSpec)) hebNextCard

/-- THE TIED CARD OF 'almanackerlaw10.HebTells'. -/
def hebTellsCard : Claim7 := { stood := { row := hebTellsRow, standIns := [], harness := (true, "a12a187b50d16f2e99998a5233ff3e894790f256b09baf6993282e7991290e0c"), looks := false }, kinds := [], alts := [], laidByText := true, laidKinds := [.widerDeep, .data], laidTests := true, laidLooks := .later }
def HebTellsCardSaid : Prop := Claim7.holds Tryd.pinned (.plain (OpenSpec.ofChange hebTellsSpec)) hebTellsCard

/-- THE SECOND FORM's CARD OF 'almanackerlaw08.MonthTells'. -/
def monthTellsUptoCard : Claim7 := { stood := { row := monthTellsUptoRow, standIns := [], harness := (true, "a12a187b50d16f2e99998a5233ff3e894790f256b09baf6993282e7991290e0c"), looks := false }, kinds := [], alts := [], laidByText := true, laidKinds := [.widerDeep, .data], laidTests := true, laidLooks := .later }
def MonthTellsUptoCardSaid : Prop := Claim7.holds Tryd.pinned (.plain (OpenSpec.upto monthTellsSpec)) monthTellsUptoCard

/-- THE SECOND FORM's CARD OF 'almanackerlaw08.MonthSums'. -/
def monthSumsUptoCard : Claim7 := { stood := { row := monthSumsUptoRow, standIns := [], harness := (true, "a12a187b50d16f2e99998a5233ff3e894790f256b09baf6993282e7991290e0c"), looks := false }, kinds := [], alts := [], laidByText := true, laidKinds := [.widerDeep, .data], laidTests := true, laidLooks := .later }
def MonthSumsUptoCardSaid : Prop := Claim7.holds Tryd.pinned (.plain (OpenSpec.upto monthSumsSpec)) monthSumsUptoCard

/-- THE SECOND FORM's CARD OF 'almanackerlaw07.KeviahTells'. -/
def keviahTellsUptoCard : Claim7 := { stood := { row := keviahTellsUptoRow, standIns := [], harness := (true, "a12a187b50d16f2e99998a5233ff3e894790f256b09baf6993282e7991290e0c"), looks := false }, kinds := [], alts := [], laidByText := true, laidKinds := [.widerDeep], laidTests := true, laidLooks := .later }
def KeviahTellsUptoCardSaid : Prop := Claim7.holds Tryd.pinned (.plain (OpenSpec.upto keviahTellsSpec)) keviahTellsUptoCard

/-- THE SECOND FORM's CARD OF 'almanackerlaw07.KeviahYears'. -/
def keviahYearsUptoCard : Claim7 := { stood := { row := keviahYearsUptoRow, standIns := [], harness := (true, "a12a187b50d16f2e99998a5233ff3e894790f256b09baf6993282e7991290e0c"), looks := false }, kinds := [], alts := [], laidByText := true, laidKinds := [.widerDeep], laidTests := true, laidLooks := .later }
def KeviahYearsUptoCardSaid : Prop := Claim7.holds Tryd.pinned (.plain (OpenSpec.upto keviahYearsSpec)) keviahYearsUptoCard

/-- THE SECOND FORM's CARD OF 'almanackerlaw07.KeviahNumbers'. -/
def keviahNumbersUptoCard : Claim7 := { stood := { row := keviahNumbersUptoRow, standIns := [], harness := (true, "a12a187b50d16f2e99998a5233ff3e894790f256b09baf6993282e7991290e0c"), looks := false }, kinds := [], alts := [], laidByText := true, laidKinds := [.widerDeep], laidTests := true, laidLooks := .later }
def KeviahNumbersUptoCardSaid : Prop := Claim7.holds Tryd.pinned (.plain (OpenSpec.upto keviahNumbersSpec)) keviahNumbersUptoCard

/-- THE SECOND FORM's CARD OF 'almanackerlaw15.ShiftBack'. -/
def shiftBackUptoCard : Claim7 := { stood := { row := shiftBackUptoRow, standIns := [], harness := (true, "a12a187b50d16f2e99998a5233ff3e894790f256b09baf6993282e7991290e0c"), looks := false }, kinds := [], alts := [], laidByText := true, laidKinds := [.widerDeep, .data], laidTests := true, laidLooks := .later }
def ShiftBackUptoCardSaid : Prop := Claim7.holds Tryd.pinned (.plain (OpenSpec.upto shiftBackSpec)) shiftBackUptoCard

/-- THE SECOND FORM's CARD OF 'almanackerlaw15.ShiftOne'. -/
def shiftOneUptoCard : Claim7 := { stood := { row := shiftOneUptoRow, standIns := [], harness := (true, "a12a187b50d16f2e99998a5233ff3e894790f256b09baf6993282e7991290e0c"), looks := false }, kinds := [], alts := [], laidByText := true, laidKinds := [.widerDeep, .data], laidTests := true, laidLooks := .later }
def ShiftOneUptoCardSaid : Prop := Claim7.holds Tryd.pinned (.plain (OpenSpec.upto shiftOneSpec)) shiftOneUptoCard

/-- THE SECOND FORM's CARD OF 'almanackerlaw15.ShiftTells'. -/
def shiftTellsUptoCard : Claim7 := { stood := { row := shiftTellsUptoRow, standIns := [], harness := (true, "a12a187b50d16f2e99998a5233ff3e894790f256b09baf6993282e7991290e0c"), looks := false }, kinds := [], alts := [], laidByText := true, laidKinds := [.widerDeep, .data], laidTests := true, laidLooks := .later }
def ShiftTellsUptoCardSaid : Prop := Claim7.holds Tryd.pinned (.plain (OpenSpec.upto shiftTellsSpec)) shiftTellsUptoCard

/-- THE SECOND FORM's CARD OF 'almanackerlaw10.HebBack'. -/
def hebBackUptoCard : Claim7 := { stood := { row := hebBackUptoRow, standIns := [], harness := (true, "a12a187b50d16f2e99998a5233ff3e894790f256b09baf6993282e7991290e0c"), looks := false }, kinds := [], alts := [], laidByText := true, laidKinds := [.widerDeep, .data], laidTests := true, laidLooks := .later }
def HebBackUptoCardSaid : Prop := Claim7.holds Tryd.pinned (.plain (OpenSpec.upto hebBackSpec)) hebBackUptoCard

/-- THE SECOND FORM's CARD OF 'almanackerlaw10.HebMonths'. -/
def hebMonthsUptoCard : Claim7 := { stood := { row := hebMonthsUptoRow, standIns := [], harness := (true, "a12a187b50d16f2e99998a5233ff3e894790f256b09baf6993282e7991290e0c"), looks := false }, kinds := [], alts := [], laidByText := true, laidKinds := [.widerDeep, .data], laidTests := true, laidLooks := .later }
def HebMonthsUptoCardSaid : Prop := Claim7.holds Tryd.pinned (.plain (OpenSpec.upto hebMonthsSpec)) hebMonthsUptoCard

/-- THE SECOND FORM's CARD OF 'almanackerlaw10.HebNext'. -/
def hebNextUptoCard : Claim7 := { stood := { row := hebNextUptoRow, standIns := [], harness := (true, "a12a187b50d16f2e99998a5233ff3e894790f256b09baf6993282e7991290e0c"), looks := false }, kinds := [], alts := [], laidByText := true, laidKinds := [.widerDeep, .data], laidTests := true, laidLooks := .later }
def HebNextUptoCardSaid : Prop := Claim7.holds Tryd.pinned (.plain (OpenSpec.upto hebNextSpec)) hebNextUptoCard

/-- THE SECOND FORM's CARD OF 'almanackerlaw10.HebTells'. -/
def hebTellsUptoCard : Claim7 := { stood := { row := hebTellsUptoRow, standIns := [], harness := (true, "a12a187b50d16f2e99998a5233ff3e894790f256b09baf6993282e7991290e0c"), looks := false }, kinds := [], alts := [], laidByText := true, laidKinds := [.widerDeep, .data], laidTests := true, laidLooks := .later }
def HebTellsUptoCardSaid : Prop := Claim7.holds Tryd.pinned (.plain (OpenSpec.upto hebTellsSpec)) hebTellsUptoCard
end Rows
end Go.Proofs.YtgjgkldkdmohjaaDoor
