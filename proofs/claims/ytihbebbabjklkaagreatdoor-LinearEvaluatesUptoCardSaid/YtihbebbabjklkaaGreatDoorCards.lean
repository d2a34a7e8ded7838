/-
  DERIVED. GIVEN WITH THE SEED: THE CARDS: each row of YtihbebbabjklkaaGreatDoorRows.lean that lists a variable, with what it lists TIED to the program's text (the seventh form; the later family's looks); each row that meets fmt, with fmt's text TOLD by the authors' own Lean function (tested against real Go, not proved from fmt's source: count such statements apart). THE CARD IS WHAT COUNTS. Prove the row's statement (the work); the ties are given (YtihbebbabjklkaaGreatDoorTie.lean); close each card by the builder's one call (the guide's Derived/Test/ToyasCard.lean, 'card_holds'). Laid BY PROGRAM, IN A SANDBOX (cutbox-door.mjs). By AI agents, Wed Nov 11 2026. No macro, syntax, notation, axiom, sorry.
-/
import Derived.Test.YtihbebbabjklkaaGreatDoorRows
import GoSem.ClaimSeven
namespace Go.Proofs.YtihbebbabjklkaaGreatDoor
namespace Rows

/-- THE TIED CARD OF 'surveyorlaw03.LinearSubstitutes'. -/
def linearSubstitutesCard : Claim7 := { stood := { row := linearSubstitutesRow, standIns := [], harness := (true, "94aa445f2dc9a68aa77f6d476013ea7e4907784a5936c6184f49e6badaa0e9d2"), looks := true }, kinds := [], alts := [], laidByText := true, laidKinds := [.data, .data, .data, .data, .sentinel, .sentinel, .pinned], laidTests := true, laidLooks := .later }
def LinearSubstitutesCardSaid : Prop := Claim7.holds Tryz.pinned (.plain (OpenSpec.ofChange linearSubstitutesSpec)) linearSubstitutesCard

/-- THE TIED CARD OF 'surveyorlaw03.LinearRenames'. -/
def linearRenamesCard : Claim7 := { stood := { row := linearRenamesRow, standIns := [], harness := (true, "94aa445f2dc9a68aa77f6d476013ea7e4907784a5936c6184f49e6badaa0e9d2"), looks := true }, kinds := [], alts := [], laidByText := true, laidKinds := [.data, .data, .data, .data, .sentinel, .sentinel, .pinned], laidTests := true, laidLooks := .later }
def LinearRenamesCardSaid : Prop := Claim7.holds Tryz.pinned (.plain (OpenSpec.ofChange linearRenamesSpec)) linearRenamesCard

/-- THE TIED CARD OF 'surveyorlaw03.LinearReplaces'. -/
def linearReplacesCard : Claim7 := { stood := { row := linearReplacesRow, standIns := [], harness := (true, "94aa445f2dc9a68aa77f6d476013ea7e4907784a5936c6184f49e6badaa0e9d2"), looks := true }, kinds := [], alts := [], laidByText := true, laidKinds := [.data, .data, .data, .data, .sentinel, .sentinel, .pinned], laidTests := true, laidLooks := .later }
def LinearReplacesCardSaid : Prop := Claim7.holds Tryz.pinned (.plain (OpenSpec.ofChange linearReplacesSpec)) linearReplacesCard

/-- THE TIED CARD OF 'surveyorlaw03.LinearClears'. -/
def linearClearsCard : Claim7 := { stood := { row := linearClearsRow, standIns := [], harness := (true, "94aa445f2dc9a68aa77f6d476013ea7e4907784a5936c6184f49e6badaa0e9d2"), looks := true }, kinds := [], alts := [], laidByText := true, laidKinds := [.data, .data, .data, .data, .sentinel, .sentinel, .pinned], laidTests := true, laidLooks := .later }
def LinearClearsCardSaid : Prop := Claim7.holds Tryz.pinned (.plain (OpenSpec.ofChange linearClearsSpec)) linearClearsCard

/-- THE TIED CARD OF 'surveyorlaw03.LinearTurns'. -/
def linearTurnsCard : Claim7 := { stood := { row := linearTurnsRow, standIns := [], harness := (true, "94aa445f2dc9a68aa77f6d476013ea7e4907784a5936c6184f49e6badaa0e9d2"), looks := true }, kinds := [], alts := [], laidByText := true, laidKinds := [.data, .data, .data, .data, .sentinel, .sentinel, .pinned], laidTests := true, laidLooks := .later }
def LinearTurnsCardSaid : Prop := Claim7.holds Tryz.pinned (.plain (OpenSpec.ofChange linearTurnsSpec)) linearTurnsCard

/-- THE TIED CARD OF 'surveyorlaw03.LinearScales'. -/
def linearScalesCard : Claim7 := { stood := { row := linearScalesRow, standIns := [], harness := (true, "94aa445f2dc9a68aa77f6d476013ea7e4907784a5936c6184f49e6badaa0e9d2"), looks := true }, kinds := [], alts := [], laidByText := true, laidKinds := [.data, .data, .data, .data, .sentinel, .sentinel, .pinned], laidTests := true, laidLooks := .later }
def LinearScalesCardSaid : Prop := Claim7.holds Tryz.pinned (.plain (OpenSpec.ofChange linearScalesSpec)) linearScalesCard

/-- THE TIED CARD OF 'surveyorlaw03.LinearEvaluates'. -/
def linearEvaluatesCard : Claim7 := { stood := { row := linearEvaluatesRow, standIns := [], harness := (true, "94aa445f2dc9a68aa77f6d476013ea7e4907784a5936c6184f49e6badaa0e9d2"), looks := true }, kinds := [], alts := [], laidByText := true, laidKinds := [.data, .data, .data, .data, .sentinel, .sentinel, .pinned], laidTests := true, laidLooks := .later }
def LinearEvaluatesCardSaid : Prop := Claim7.holds Tryz.pinned (.plain (OpenSpec.ofChange linearEvaluatesSpec)) linearEvaluatesCard

/-- THE TIED CARD OF 'surveyorlaw03.LinearSums'. -/
def linearSumsCard : Claim7 := { stood := { row := linearSumsRow, standIns := [], harness := (true, "94aa445f2dc9a68aa77f6d476013ea7e4907784a5936c6184f49e6badaa0e9d2"), looks := true }, kinds := [], alts := [], laidByText := true, laidKinds := [.data, .data, .data, .data, .sentinel, .sentinel, .pinned], laidTests := true, laidLooks := .later }
def LinearSumsCardSaid : Prop := Claim7.holds Tryz.pinned (.plain (OpenSpec.ofChange linearSumsSpec)) linearSumsCard

/-- THE TIED CARD OF 'surveyorlaw03.LinearMakes'. -/
def linearMakesCard : Claim7 := { stood := { row := linearMakesRow, standIns := [], harness := (true, "94aa445f2dc9a68aa77f6d476013ea7e4907784a5936c6184f49e6badaa0e9d2"), looks := true }, kinds := [], alts := [], laidByText := true, laidKinds := [.data, .data, .data, .data, .sentinel, .sentinel, .pinned], laidTests := true, laidLooks := .later }
def LinearMakesCardSaid : Prop := Claim7.holds Tryz.pinned (.plain (OpenSpec.ofChange linearMakesSpec)) linearMakesCard

/-- THE TIED CARD OF 'surveyortop.TopIntegersDivide'. -/
def topIntegersDivideCard : Claim7 := { stood := { row := topIntegersDivideRow, standIns := [], harness := (true, "94aa445f2dc9a68aa77f6d476013ea7e4907784a5936c6184f49e6badaa0e9d2"), looks := true }, kinds := [], alts := [], laidByText := true, laidKinds := [.data, .data, .data, .data, .sentinel, .sentinel, .pinned], laidTests := true, laidLooks := .later }
def TopIntegersDivideCardSaid : Prop := Claim7.holds Tryz.pinned (.plain (OpenSpec.ofChange topIntegersDivideSpec)) topIntegersDivideCard

/-- THE SECOND FORM's CARD OF 'surveyorlaw03.LinearSubstitutes'. -/
def linearSubstitutesUptoCard : Claim7 := { stood := { row := linearSubstitutesUptoRow, standIns := [], harness := (true, "94aa445f2dc9a68aa77f6d476013ea7e4907784a5936c6184f49e6badaa0e9d2"), looks := true }, kinds := [], alts := [], laidByText := true, laidKinds := [.data, .data, .data, .data, .sentinel, .sentinel, .pinned], laidTests := true, laidLooks := .later }
def LinearSubstitutesUptoCardSaid : Prop := Claim7.holds Tryz.pinned (.plain (OpenSpec.upto linearSubstitutesSpec)) linearSubstitutesUptoCard

/-- THE SECOND FORM's CARD OF 'surveyorlaw03.LinearRenames'. -/
def linearRenamesUptoCard : Claim7 := { stood := { row := linearRenamesUptoRow, standIns := [], harness := (true, "94aa445f2dc9a68aa77f6d476013ea7e4907784a5936c6184f49e6badaa0e9d2"), looks := true }, kinds := [], alts := [], laidByText := true, laidKinds := [.data, .data, .data, .data, .sentinel, .sentinel, .pinned], laidTests := true, laidLooks := .later }
def LinearRenamesUptoCardSaid : Prop := Claim7.holds Tryz.pinned (.plain (OpenSpec.upto linearRenamesSpec)) linearRenamesUptoCard

/-- THE SECOND FORM's CARD OF 'surveyorlaw03.LinearReplaces'. -/
def linearReplacesUptoCard : Claim7 := { stood := { row := linearReplacesUptoRow, standIns := [], harness := (true, "94aa445f2dc9a68aa77f6d476013ea7e4907784a5936c6184f49e6badaa0e9d2"), looks := true }, kinds := [], alts := [], laidByText := true, laidKinds := [.data, .data, .data, .data, .sentinel, .sentinel, .pinned], laidTests := true, laidLooks := .later }
def LinearReplacesUptoCardSaid : Prop := Claim7.holds Tryz.pinned (.plain (OpenSpec.upto linearReplacesSpec)) linearReplacesUptoCard

/-- THE SECOND FORM's CARD OF 'surveyorlaw03.LinearClears'. -/
def linearClearsUptoCard : Claim7 := { stood := { row := linearClearsUptoRow, standIns := [], harness := (true, "94aa445f2dc9a68aa77f6d476013ea7e4907784a5936c6184f49e6badaa0e9d2"), looks := true }, kinds := [], alts := [], laidByText := true, laidKinds := [.data, .data, .data, .data, .sentinel, .sentinel, .pinned], laidTests := true, laidLooks := .later }
def LinearClearsUptoCardSaid : Prop := Claim7.holds Tryz.pinned (.plain (OpenSpec.upto linearClearsSpec)) linearClearsUptoCard

/-- THE SECOND FORM's CARD OF 'surveyorlaw03.LinearTurns'. -/
def linearTurnsUptoCard : Claim7 := { stood := { row := linearTurnsUptoRow, standIns := [], harness := (true, "94aa445f2dc9a68aa77f6d476013ea7e4907784a5936c6184f49e6badaa0e9d2"), looks := true }, kinds := [], alts := [], laidByText := true, laidKinds := [.data, .data, .data, .data, .sentinel, .sentinel, .pinned], laidTests := true, laidLooks := .later }
def LinearTurnsUptoCardSaid : Prop := Claim7.holds Tryz.pinned (.plain (OpenSpec.upto linearTurnsSpec)) linearTurnsUptoCard

/-- THE SECOND FORM's CARD OF 'surveyorlaw03.LinearScales'. -/
def linearScalesUptoCard : Claim7 := { stood := { row := linearScalesUptoRow, standIns := [], harness := (true, "94aa445f2dc9a68aa77f6d476013ea7e4907784a5936c6184f49e6badaa0e9d2"), looks := true }, kinds := [], alts := [], laidByText := true, laidKinds := [.data, .data, .data, .data, .sentinel, .sentinel, .pinned], laidTests := true, laidLooks := .later }
def LinearScalesUptoCardSaid : Prop := Claim7.holds Tryz.pinned (.plain (OpenSpec.upto linearScalesSpec)) linearScalesUptoCard

/-- THE SECOND FORM's CARD OF 'surveyorlaw03.LinearEvaluates'. -/
def linearEvaluatesUptoCard : Claim7 := { stood := { row := linearEvaluatesUptoRow, standIns := [], harness := (true, "94aa445f2dc9a68aa77f6d476013ea7e4907784a5936c6184f49e6badaa0e9d2"), looks := true }, kinds := [], alts := [], laidByText := true, laidKinds := [.data, .data, .data, .data, .sentinel, .sentinel, .pinned], laidTests := true, laidLooks := .later }
def LinearEvaluatesUptoCardSaid : Prop := Claim7.holds Tryz.pinned (.plain (OpenSpec.upto linearEvaluatesSpec)) linearEvaluatesUptoCard

/-- THE SECOND FORM's CARD OF 'surveyorlaw03.LinearSums'. -/
def linearSumsUptoCard : Claim7 := { stood := { row := linearSumsUptoRow, standIns := [], harness := (true, "94aa445f2dc9a68aa77f6d476013ea7e4907784a5936c6184f49e6badaa0e9d2"), looks := true }, kinds := [], alts := [], laidByText := true, laidKinds := [.data, .data, .data, .data, .sentinel, .sentinel, .pinned], laidTests := true, laidLooks := .later }
def LinearSumsUptoCardSaid : Prop := Claim7.holds Tryz.pinned (.plain (OpenSpec.upto linearSumsSpec)) linearSumsUptoCard

/-- THE SECOND FORM's CARD OF 'surveyorlaw03.LinearMakes'. -/
def linearMakesUptoCard : Claim7 := { stood := { row := linearMakesUptoRow, standIns := [], harness := (true, "94aa445f2dc9a68aa77f6d476013ea7e4907784a5936c6184f49e6badaa0e9d2"), looks := true }, kinds := [], alts := [], laidByText := true, laidKinds := [.data, .data, .data, .data, .sentinel, .sentinel, .pinned], laidTests := true, laidLooks := .later }
def LinearMakesUptoCardSaid : Prop := Claim7.holds Tryz.pinned (.plain (OpenSpec.upto linearMakesSpec)) linearMakesUptoCard

/-- THE SECOND FORM's CARD OF 'surveyortop.TopIntegersDivide'. -/
def topIntegersDivideUptoCard : Claim7 := { stood := { row := topIntegersDivideUptoRow, standIns := [], harness := (true, "94aa445f2dc9a68aa77f6d476013ea7e4907784a5936c6184f49e6badaa0e9d2"), looks := true }, kinds := [], alts := [], laidByText := true, laidKinds := [.data, .data, .data, .data, .sentinel, .sentinel, .pinned], laidTests := true, laidLooks := .later }
def TopIntegersDivideUptoCardSaid : Prop := Claim7.holds Tryz.pinned (.plain (OpenSpec.upto topIntegersDivideSpec)) topIntegersDivideUptoCard
end Rows
end Go.Proofs.YtihbebbabjklkaaGreatDoor
