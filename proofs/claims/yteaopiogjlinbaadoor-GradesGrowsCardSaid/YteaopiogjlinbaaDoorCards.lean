/-
  DERIVED. GIVEN WITH THE SEED: THE CARDS: each row of YteaopiogjlinbaaDoorRows.lean that lists a variable, with what it lists TIED to the program's text (the seventh form; the later family's looks); each row that meets fmt, with fmt's text TOLD by the authors' own Lean function (tested against real Go, not proved from fmt's source: count such statements apart). THE CARD IS WHAT COUNTS. Prove the row's statement (the work); the ties are given (YteaopiogjlinbaaDoorTie.lean); close each card by the builder's one call (the guide's Derived/Test/ToyasCard.lean, 'card_holds'). Laid BY PROGRAM, IN A SANDBOX (cutbox-door.mjs). By AI agents, Wed Nov 11 2026. No macro, syntax, notation, axiom, sorry.
-/
import Derived.Test.YteaopiogjlinbaaDoorRows
import GoSem.ClaimSeven
namespace Go.Proofs.YteaopiogjlinbaaDoor
namespace Rows

/-- THE TIED CARD OF 'metrolablaw15.GradesBounds'. -/
def gradesBoundsCard : Claim7 := { stood := { row := gradesBoundsRow, standIns := [], harness := (true, "f302c7af0e4e2fdf5d378a2c04f1ce41181379aa9f970da29118dbfdef49c974"), looks := true }, kinds := [], alts := [], laidByText := true, laidKinds := [.data, .data, .data, .data, .sentinel, .sentinel, .pinned, .pinned], laidTests := true, laidLooks := .later }
def GradesBoundsCardSaid : Prop := Claim7.holds Tryd.pinned (.plain (OpenSpec.ofChange gradesBoundsSpec)) gradesBoundsCard

/-- THE TIED CARD OF 'metrolablaw15.GradesGrows'. -/
def gradesGrowsCard : Claim7 := { stood := { row := gradesGrowsRow, standIns := [], harness := (true, "f302c7af0e4e2fdf5d378a2c04f1ce41181379aa9f970da29118dbfdef49c974"), looks := true }, kinds := [], alts := [], laidByText := true, laidKinds := [.data, .data, .data, .data, .sentinel, .sentinel, .pinned, .pinned], laidTests := true, laidLooks := .later }
def GradesGrowsCardSaid : Prop := Claim7.holds Tryd.pinned (.plain (OpenSpec.ofChange gradesGrowsSpec)) gradesGrowsCard

/-- THE SECOND FORM's CARD OF 'metrolablaw15.GradesBounds'. -/
def gradesBoundsUptoCard : Claim7 := { stood := { row := gradesBoundsUptoRow, standIns := [], harness := (true, "f302c7af0e4e2fdf5d378a2c04f1ce41181379aa9f970da29118dbfdef49c974"), looks := true }, kinds := [], alts := [], laidByText := true, laidKinds := [.data, .data, .data, .data, .sentinel, .sentinel, .pinned, .pinned], laidTests := true, laidLooks := .later }
def GradesBoundsUptoCardSaid : Prop := Claim7.holds Tryd.pinned (.plain (OpenSpec.upto gradesBoundsSpec)) gradesBoundsUptoCard

/-- THE SECOND FORM's CARD OF 'metrolablaw15.GradesGrows'. -/
def gradesGrowsUptoCard : Claim7 := { stood := { row := gradesGrowsUptoRow, standIns := [], harness := (true, "f302c7af0e4e2fdf5d378a2c04f1ce41181379aa9f970da29118dbfdef49c974"), looks := true }, kinds := [], alts := [], laidByText := true, laidKinds := [.data, .data, .data, .data, .sentinel, .sentinel, .pinned, .pinned], laidTests := true, laidLooks := .later }
def GradesGrowsUptoCardSaid : Prop := Claim7.holds Tryd.pinned (.plain (OpenSpec.upto gradesGrowsSpec)) gradesGrowsUptoCard
end Rows
end Go.Proofs.YteaopiogjlinbaaDoor
