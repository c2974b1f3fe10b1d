/-
  DERIVED. GIVEN WITH THE SEED: THE CARDS: each row of YtldghloflegpmaaGreatDoorRows.lean that lists a variable, with what it lists TIED to the program's text (the seventh form; the later family's looks); each row that meets fmt, with fmt's text TOLD by the authors' own Lean function (tested against real Go, not proved from fmt's source: count such statements apart). THE CARD IS WHAT COUNTS. Prove the row's statement (the work); the ties are given (YtldghloflegpmaaGreatDoorTie.lean); close each card by the builder's one call (the guide's Derived/Test/ToyasCard.lean, 'card_holds'). Laid BY PROGRAM, IN A SANDBOX (cutbox-door.mjs). By AI agents, Wed Nov 11 2026. No macro, syntax, notation, axiom, sorry.
-/
import Derived.Test.YtldghloflegpmaaGreatDoorRows
import GoSem.ClaimSeven
namespace Go.Proofs.YtldghloflegpmaaGreatDoor
namespace Rows

/-- THE TIED CARD OF 'metrolablaw15.GradesFinds'. -/
def gradesFindsCard : Claim7 := { stood := { row := gradesFindsRow, standIns := [], harness := (true, "669546dcdc950be79fe786d9158a6edd183eb6ffc414543889cbfcac3f2683c8"), looks := true }, kinds := [], alts := [], laidByText := true, laidKinds := [.data, .data, .data, .data, .sentinel, .sentinel, .pinned, .pinned], laidTests := true, laidLooks := .later }
def GradesFindsCardSaid : Prop := Claim7.holds Tryz.pinned (.plain (OpenSpec.ofChange gradesFindsSpec)) gradesFindsCard

/-- THE TIED CARD OF 'metrolablaw16.FitChecks'. -/
def fitChecksCard : Claim7 := { stood := { row := fitChecksRow, standIns := [], harness := (true, "669546dcdc950be79fe786d9158a6edd183eb6ffc414543889cbfcac3f2683c8"), looks := true }, kinds := [], alts := [], laidByText := true, laidKinds := [.data, .data, .data, .data, .sentinel, .sentinel, .pinned, .pinned], laidTests := true, laidLooks := .later }
def FitChecksCardSaid : Prop := Claim7.holds Tryz.pinned (.plain (OpenSpec.ofChange fitChecksSpec)) fitChecksCard

/-- THE TIED CARD OF 'metrolablaw16.FitPairs'. -/
def fitPairsCard : Claim7 := { stood := { row := fitPairsRow, standIns := [], harness := (true, "669546dcdc950be79fe786d9158a6edd183eb6ffc414543889cbfcac3f2683c8"), looks := true }, kinds := [], alts := [], laidByText := true, laidKinds := [.data, .data, .data, .data, .sentinel, .sentinel, .pinned, .pinned], laidTests := true, laidLooks := .later }
def FitPairsCardSaid : Prop := Claim7.holds Tryz.pinned (.plain (OpenSpec.ofChange fitPairsSpec)) fitPairsCard

/-- THE TIED CARD OF 'metrolablaw16.FitTexts'. -/
def fitTextsCard : Claim7 := { stood := { row := fitTextsRow, standIns := [], harness := (true, "669546dcdc950be79fe786d9158a6edd183eb6ffc414543889cbfcac3f2683c8"), looks := true }, kinds := [], alts := [], laidByText := true, laidKinds := [.data, .data, .data, .data, .sentinel, .sentinel, .pinned, .pinned], laidTests := true, laidLooks := .later }
def FitTextsCardSaid : Prop := Claim7.holds Tryz.pinned (.plain (OpenSpec.ofChange fitTextsSpec)) fitTextsCard

/-- THE TIED CARD OF 'metrolablaw16.FitAttains'. -/
def fitAttainsCard : Claim7 := { stood := { row := fitAttainsRow, standIns := [], harness := (true, "669546dcdc950be79fe786d9158a6edd183eb6ffc414543889cbfcac3f2683c8"), looks := true }, kinds := [], alts := [], laidByText := true, laidKinds := [.data, .data, .data, .data, .sentinel, .sentinel, .pinned, .pinned], laidTests := true, laidLooks := .later }
def FitAttainsCardSaid : Prop := Claim7.holds Tryz.pinned (.plain (OpenSpec.ofChange fitAttainsSpec)) fitAttainsCard

/-- THE TIED CARD OF 'metrolablaw16.FitSwaps'. -/
def fitSwapsCard : Claim7 := { stood := { row := fitSwapsRow, standIns := [], harness := (true, "669546dcdc950be79fe786d9158a6edd183eb6ffc414543889cbfcac3f2683c8"), looks := true }, kinds := [], alts := [], laidByText := true, laidKinds := [.data, .data, .data, .data, .sentinel, .sentinel, .pinned, .pinned], laidTests := true, laidLooks := .later }
def FitSwapsCardSaid : Prop := Claim7.holds Tryz.pinned (.plain (OpenSpec.ofChange fitSwapsSpec)) fitSwapsCard

/-- THE TIED CARD OF 'metrolablaw16.FitReads'. -/
def fitReadsCard : Claim7 := { stood := { row := fitReadsRow, standIns := [], harness := (true, "669546dcdc950be79fe786d9158a6edd183eb6ffc414543889cbfcac3f2683c8"), looks := true }, kinds := [], alts := [], laidByText := true, laidKinds := [.data, .data, .data, .data, .sentinel, .sentinel, .pinned, .pinned], laidTests := true, laidLooks := .later }
def FitReadsCardSaid : Prop := Claim7.holds Tryz.pinned (.plain (OpenSpec.ofChange fitReadsSpec)) fitReadsCard

/-- THE TIED CARD OF 'metrolablaw16.FitChooses'. -/
def fitChoosesCard : Claim7 := { stood := { row := fitChoosesRow, standIns := [], harness := (true, "669546dcdc950be79fe786d9158a6edd183eb6ffc414543889cbfcac3f2683c8"), looks := true }, kinds := [], alts := [], laidByText := true, laidKinds := [.data, .data, .data, .data, .sentinel, .sentinel, .pinned, .pinned], laidTests := true, laidLooks := .later }
def FitChoosesCardSaid : Prop := Claim7.holds Tryz.pinned (.plain (OpenSpec.ofChange fitChoosesSpec)) fitChoosesCard

/-- THE TIED CARD OF 'metrolablaw16.FitServes'. -/
def fitServesCard : Claim7 := { stood := { row := fitServesRow, standIns := [], harness := (true, "669546dcdc950be79fe786d9158a6edd183eb6ffc414543889cbfcac3f2683c8"), looks := true }, kinds := [], alts := [], laidByText := true, laidKinds := [.data, .data, .data, .data, .sentinel, .sentinel, .pinned, .pinned], laidTests := true, laidLooks := .later }
def FitServesCardSaid : Prop := Claim7.holds Tryz.pinned (.plain (OpenSpec.ofChange fitServesSpec)) fitServesCard

/-- THE SECOND FORM's CARD OF 'metrolablaw15.GradesFinds'. -/
def gradesFindsUptoCard : Claim7 := { stood := { row := gradesFindsUptoRow, standIns := [], harness := (true, "669546dcdc950be79fe786d9158a6edd183eb6ffc414543889cbfcac3f2683c8"), looks := true }, kinds := [], alts := [], laidByText := true, laidKinds := [.data, .data, .data, .data, .sentinel, .sentinel, .pinned, .pinned], laidTests := true, laidLooks := .later }
def GradesFindsUptoCardSaid : Prop := Claim7.holds Tryz.pinned (.plain (OpenSpec.upto gradesFindsSpec)) gradesFindsUptoCard

/-- THE SECOND FORM's CARD OF 'metrolablaw16.FitChecks'. -/
def fitChecksUptoCard : Claim7 := { stood := { row := fitChecksUptoRow, standIns := [], harness := (true, "669546dcdc950be79fe786d9158a6edd183eb6ffc414543889cbfcac3f2683c8"), looks := true }, kinds := [], alts := [], laidByText := true, laidKinds := [.data, .data, .data, .data, .sentinel, .sentinel, .pinned, .pinned], laidTests := true, laidLooks := .later }
def FitChecksUptoCardSaid : Prop := Claim7.holds Tryz.pinned (.plain (OpenSpec.upto fitChecksSpec)) fitChecksUptoCard

/-- THE SECOND FORM's CARD OF 'metrolablaw16.FitPairs'. -/
def fitPairsUptoCard : Claim7 := { stood := { row := fitPairsUptoRow, standIns := [], harness := (true, "669546dcdc950be79fe786d9158a6edd183eb6ffc414543889cbfcac3f2683c8"), looks := true }, kinds := [], alts := [], laidByText := true, laidKinds := [.data, .data, .data, .data, .sentinel, .sentinel, .pinned, .pinned], laidTests := true, laidLooks := .later }
def FitPairsUptoCardSaid : Prop := Claim7.holds Tryz.pinned (.plain (OpenSpec.upto fitPairsSpec)) fitPairsUptoCard

/-- THE SECOND FORM's CARD OF 'metrolablaw16.FitTexts'. -/
def fitTextsUptoCard : Claim7 := { stood := { row := fitTextsUptoRow, standIns := [], harness := (true, "669546dcdc950be79fe786d9158a6edd183eb6ffc414543889cbfcac3f2683c8"), looks := true }, kinds := [], alts := [], laidByText := true, laidKinds := [.data, .data, .data, .data, .sentinel, .sentinel, .pinned, .pinned], laidTests := true, laidLooks := .later }
def FitTextsUptoCardSaid : Prop := Claim7.holds Tryz.pinned (.plain (OpenSpec.upto fitTextsSpec)) fitTextsUptoCard

/-- THE SECOND FORM's CARD OF 'metrolablaw16.FitAttains'. -/
def fitAttainsUptoCard : Claim7 := { stood := { row := fitAttainsUptoRow, standIns := [], harness := (true, "669546dcdc950be79fe786d9158a6edd183eb6ffc414543889cbfcac3f2683c8"), looks := true }, kinds := [], alts := [], laidByText := true, laidKinds := [.data, .data, .data, .data, .sentinel, .sentinel, .pinned, .pinned], laidTests := true, laidLooks := .later }
def FitAttainsUptoCardSaid : Prop := Claim7.holds Tryz.pinned (.plain (OpenSpec.upto fitAttainsSpec)) fitAttainsUptoCard

/-- THE SECOND FORM's CARD OF 'metrolablaw16.FitSwaps'. -/
def fitSwapsUptoCard : Claim7 := { stood := { row := fitSwapsUptoRow, standIns := [], harness := (true, "669546dcdc950be79fe786d9158a6edd183eb6ffc414543889cbfcac3f2683c8"), looks := true }, kinds := [], alts := [], laidByText := true, laidKinds := [.data, .data, .data, .data, .sentinel, .sentinel, .pinned, .pinned], laidTests := true, laidLooks := .later }
def FitSwapsUptoCardSaid : Prop := Claim7.holds Tryz.pinned (.plain (OpenSpec.upto fitSwapsSpec)) fitSwapsUptoCard

/-- THE SECOND FORM's CARD OF 'metrolablaw16.FitReads'. -/
def fitReadsUptoCard : Claim7 := { stood := { row := fitReadsUptoRow, standIns := [], harness := (true, "669546dcdc950be79fe786d9158a6edd183eb6ffc414543889cbfcac3f2683c8"), looks := true }, kinds := [], alts := [], laidByText := true, laidKinds := [.data, .data, .data, .data, .sentinel, .sentinel, .pinned, .pinned], laidTests := true, laidLooks := .later }
def FitReadsUptoCardSaid : Prop := Claim7.holds Tryz.pinned (.plain (OpenSpec.upto fitReadsSpec)) fitReadsUptoCard

/-- THE SECOND FORM's CARD OF 'metrolablaw16.FitChooses'. -/
def fitChoosesUptoCard : Claim7 := { stood := { row := fitChoosesUptoRow, standIns := [], harness := (true, "669546dcdc950be79fe786d9158a6edd183eb6ffc414543889cbfcac3f2683c8"), looks := true }, kinds := [], alts := [], laidByText := true, laidKinds := [.data, .data, .data, .data, .sentinel, .sentinel, .pinned, .pinned], laidTests := true, laidLooks := .later }
def FitChoosesUptoCardSaid : Prop := Claim7.holds Tryz.pinned (.plain (OpenSpec.upto fitChoosesSpec)) fitChoosesUptoCard

/-- THE SECOND FORM's CARD OF 'metrolablaw16.FitServes'. -/
def fitServesUptoCard : Claim7 := { stood := { row := fitServesUptoRow, standIns := [], harness := (true, "669546dcdc950be79fe786d9158a6edd183eb6ffc414543889cbfcac3f2683c8"), looks := true }, kinds := [], alts := [], laidByText := true, laidKinds := [.data, .data, .data, .data, .sentinel, .sentinel, .pinned, .pinned], laidTests := true, laidLooks := .later }
def FitServesUptoCardSaid : Prop := Claim7.holds Tryz.pinned (.plain (OpenSpec.upto fitServesSpec)) fitServesUptoCard
end Rows
end Go.Proofs.YtldghloflegpmaaGreatDoor
