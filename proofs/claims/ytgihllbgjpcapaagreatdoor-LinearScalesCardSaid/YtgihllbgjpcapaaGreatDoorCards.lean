/-
  DERIVED. GIVEN WITH THE SEED: THE CARDS: each row of YtgihllbgjpcapaaGreatDoorRows.lean that lists a variable, with what it lists TIED to the program's text (the seventh form; the later family's looks); each row that meets fmt, with fmt's text TOLD by the authors' own Lean function (tested against real Go, not proved from fmt's source: count such statements apart). THE CARD IS WHAT COUNTS. Prove the row's statement (the work); the ties are given (YtgihllbgjpcapaaGreatDoorTie.lean); close each card by the builder's one call (the guide's Derived/Test/ToyasCard.lean, 'card_holds'). Laid BY PROGRAM, IN A SANDBOX (cutbox-door.mjs). By AI agents, Wed Nov 11 2026. No macro, syntax, notation, axiom, sorry.
-/
import Derived.Test.YtgihllbgjpcapaaGreatDoorRows
import GoSem.ClaimSeven
namespace Go.Proofs.YtgihllbgjpcapaaGreatDoor
namespace Rows

/-- THE TIED CARD OF 'surveyorlaw03.LinearSubstitutes'. -/
def linearSubstitutesCard : Claim7 := { stood := { row := linearSubstitutesRow, standIns := [], harness := (true, "aff9e78aeef47a1281ab7b7f84868ea84d778580fc1d5372a2f3aea51abd8a92"), looks := true }, kinds := [], alts := [], laidByText := true, laidKinds := [.data, .data, .data, .data, .sentinel, .sentinel, .pinned], laidTests := true, laidLooks := .later }
def LinearSubstitutesCardSaid : Prop := Claim7.holds Tryz.pinned (.plain (OpenSpec.ofChange linearSubstitutesSpec)) linearSubstitutesCard

/-- THE TIED CARD OF 'surveyorlaw03.LinearRenames'. -/
def linearRenamesCard : Claim7 := { stood := { row := linearRenamesRow, standIns := [], harness := (true, "aff9e78aeef47a1281ab7b7f84868ea84d778580fc1d5372a2f3aea51abd8a92"), looks := true }, kinds := [], alts := [], laidByText := true, laidKinds := [.data, .data, .data, .data, .sentinel, .sentinel, .pinned], laidTests := true, laidLooks := .later }
def LinearRenamesCardSaid : Prop := Claim7.holds Tryz.pinned (.plain (OpenSpec.ofChange linearRenamesSpec)) linearRenamesCard

/-- THE TIED CARD OF 'surveyorlaw03.LinearScales'. -/
def linearScalesCard : Claim7 := { stood := { row := linearScalesRow, standIns := [], harness := (true, "aff9e78aeef47a1281ab7b7f84868ea84d778580fc1d5372a2f3aea51abd8a92"), looks := true }, kinds := [], alts := [], laidByText := true, laidKinds := [.data, .data, .data, .data, .sentinel, .sentinel, .pinned], laidTests := true, laidLooks := .later }
def LinearScalesCardSaid : Prop := Claim7.holds Tryz.pinned (.plain (OpenSpec.ofChange linearScalesSpec)) linearScalesCard

/-- THE TIED CARD OF 'surveyorlaw03.LinearSums'. -/
def linearSumsCard : Claim7 := { stood := { row := linearSumsRow, standIns := [], harness := (true, "aff9e78aeef47a1281ab7b7f84868ea84d778580fc1d5372a2f3aea51abd8a92"), looks := true }, kinds := [], alts := [], laidByText := true, laidKinds := [.data, .data, .data, .data, .sentinel, .sentinel, .pinned], laidTests := true, laidLooks := .later }
def LinearSumsCardSaid : Prop := Claim7.holds Tryz.pinned (.plain (OpenSpec.ofChange linearSumsSpec)) linearSumsCard

/-- THE TIED CARD OF 'surveyorlaw03.LinearMakes'. -/
def linearMakesCard : Claim7 := { stood := { row := linearMakesRow, standIns := [], harness := (true, "aff9e78aeef47a1281ab7b7f84868ea84d778580fc1d5372a2f3aea51abd8a92"), looks := true }, kinds := [], alts := [], laidByText := true, laidKinds := [.data, .data, .data, .data, .sentinel, .sentinel, .pinned], laidTests := true, laidLooks := .later }
def LinearMakesCardSaid : Prop := Claim7.holds Tryz.pinned (.plain (OpenSpec.ofChange linearMakesSpec)) linearMakesCard

/-- THE SECOND FORM's CARD OF 'surveyorlaw03.LinearSubstitutes'. -/
def linearSubstitutesUptoCard : Claim7 := { stood := { row := linearSubstitutesUptoRow, standIns := [], harness := (true, "aff9e78aeef47a1281ab7b7f84868ea84d778580fc1d5372a2f3aea51abd8a92"), looks := true }, kinds := [], alts := [], laidByText := true, laidKinds := [.data, .data, .data, .data, .sentinel, .sentinel, .pinned], laidTests := true, laidLooks := .later }
def LinearSubstitutesUptoCardSaid : Prop := Claim7.holds Tryz.pinned (.plain (OpenSpec.upto linearSubstitutesSpec)) linearSubstitutesUptoCard

/-- THE SECOND FORM's CARD OF 'surveyorlaw03.LinearRenames'. -/
def linearRenamesUptoCard : Claim7 := { stood := { row := linearRenamesUptoRow, standIns := [], harness := (true, "aff9e78aeef47a1281ab7b7f84868ea84d778580fc1d5372a2f3aea51abd8a92"), looks := true }, kinds := [], alts := [], laidByText := true, laidKinds := [.data, .data, .data, .data, .sentinel, .sentinel, .pinned], laidTests := true, laidLooks := .later }
def LinearRenamesUptoCardSaid : Prop := Claim7.holds Tryz.pinned (.plain (OpenSpec.upto linearRenamesSpec)) linearRenamesUptoCard

/-- THE SECOND FORM's CARD OF 'surveyorlaw03.LinearScales'. -/
def linearScalesUptoCard : Claim7 := { stood := { row := linearScalesUptoRow, standIns := [], harness := (true, "aff9e78aeef47a1281ab7b7f84868ea84d778580fc1d5372a2f3aea51abd8a92"), looks := true }, kinds := [], alts := [], laidByText := true, laidKinds := [.data, .data, .data, .data, .sentinel, .sentinel, .pinned], laidTests := true, laidLooks := .later }
def LinearScalesUptoCardSaid : Prop := Claim7.holds Tryz.pinned (.plain (OpenSpec.upto linearScalesSpec)) linearScalesUptoCard

/-- THE SECOND FORM's CARD OF 'surveyorlaw03.LinearSums'. -/
def linearSumsUptoCard : Claim7 := { stood := { row := linearSumsUptoRow, standIns := [], harness := (true, "aff9e78aeef47a1281ab7b7f84868ea84d778580fc1d5372a2f3aea51abd8a92"), looks := true }, kinds := [], alts := [], laidByText := true, laidKinds := [.data, .data, .data, .data, .sentinel, .sentinel, .pinned], laidTests := true, laidLooks := .later }
def LinearSumsUptoCardSaid : Prop := Claim7.holds Tryz.pinned (.plain (OpenSpec.upto linearSumsSpec)) linearSumsUptoCard

/-- THE SECOND FORM's CARD OF 'surveyorlaw03.LinearMakes'. -/
def linearMakesUptoCard : Claim7 := { stood := { row := linearMakesUptoRow, standIns := [], harness := (true, "aff9e78aeef47a1281ab7b7f84868ea84d778580fc1d5372a2f3aea51abd8a92"), looks := true }, kinds := [], alts := [], laidByText := true, laidKinds := [.data, .data, .data, .data, .sentinel, .sentinel, .pinned], laidTests := true, laidLooks := .later }
def LinearMakesUptoCardSaid : Prop := Claim7.holds Tryz.pinned (.plain (OpenSpec.upto linearMakesSpec)) linearMakesUptoCard
end Rows
end Go.Proofs.YtgihllbgjpcapaaGreatDoor
