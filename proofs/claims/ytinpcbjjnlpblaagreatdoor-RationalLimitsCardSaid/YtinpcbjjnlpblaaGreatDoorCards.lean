/-
  DERIVED. GIVEN WITH THE SEED: THE CARDS: each row of YtinpcbjjnlpblaaGreatDoorRows.lean that lists a variable, with what it lists TIED to the program's text (the seventh form; the later family's looks); each row that meets fmt, with fmt's text TOLD by the authors' own Lean function (tested against real Go, not proved from fmt's source: count such statements apart). THE CARD IS WHAT COUNTS. Prove the row's statement (the work); the ties are given (YtinpcbjjnlpblaaGreatDoorTie.lean); close each card by the builder's one call (the guide's Derived/Test/ToyasCard.lean, 'card_holds'). Laid BY PROGRAM, IN A SANDBOX (cutbox-door.mjs). By AI agents, Wed Nov 11 2026. No macro, syntax, notation, axiom, sorry.
-/
import Derived.Test.YtinpcbjjnlpblaaGreatDoorRows
import GoSem.ClaimSeven
namespace Go.Proofs.YtinpcbjjnlpblaaGreatDoor
namespace Rows

/-- THE TIED CARD OF 'surveyorlaw02.RationalLimits'. -/
def rationalLimitsCard : Claim7 := { stood := { row := rationalLimitsRow, standIns := [], harness := (true, "edb7ea7fd2eac0683826f20ce973cad6d84c454002b9dabcaceb860c70b7a25e"), looks := true }, kinds := [], alts := [], laidByText := true, laidKinds := [.data, .data, .data, .data, .sentinel, .sentinel, .pinned], laidTests := true, laidLooks := .later }
def RationalLimitsCardSaid : Prop := Claim7.holds Tryz.pinned (.plain (OpenSpec.ofChange rationalLimitsSpec)) rationalLimitsCard

/-- THE TIED CARD OF 'surveyortop.TopIntegersDivide'. -/
def topIntegersDivideCard : Claim7 := { stood := { row := topIntegersDivideRow, standIns := [], harness := (true, "edb7ea7fd2eac0683826f20ce973cad6d84c454002b9dabcaceb860c70b7a25e"), looks := true }, kinds := [], alts := [], laidByText := true, laidKinds := [.data, .data, .data, .data, .sentinel, .sentinel, .pinned], laidTests := true, laidLooks := .later }
def TopIntegersDivideCardSaid : Prop := Claim7.holds Tryz.pinned (.plain (OpenSpec.ofChange topIntegersDivideSpec)) topIntegersDivideCard

/-- THE SECOND FORM's CARD OF 'surveyorlaw02.RationalLimits'. -/
def rationalLimitsUptoCard : Claim7 := { stood := { row := rationalLimitsUptoRow, standIns := [], harness := (true, "edb7ea7fd2eac0683826f20ce973cad6d84c454002b9dabcaceb860c70b7a25e"), looks := true }, kinds := [], alts := [], laidByText := true, laidKinds := [.data, .data, .data, .data, .sentinel, .sentinel, .pinned], laidTests := true, laidLooks := .later }
def RationalLimitsUptoCardSaid : Prop := Claim7.holds Tryz.pinned (.plain (OpenSpec.upto rationalLimitsSpec)) rationalLimitsUptoCard

/-- THE SECOND FORM's CARD OF 'surveyortop.TopIntegersDivide'. -/
def topIntegersDivideUptoCard : Claim7 := { stood := { row := topIntegersDivideUptoRow, standIns := [], harness := (true, "edb7ea7fd2eac0683826f20ce973cad6d84c454002b9dabcaceb860c70b7a25e"), looks := true }, kinds := [], alts := [], laidByText := true, laidKinds := [.data, .data, .data, .data, .sentinel, .sentinel, .pinned], laidTests := true, laidLooks := .later }
def TopIntegersDivideUptoCardSaid : Prop := Claim7.holds Tryz.pinned (.plain (OpenSpec.upto topIntegersDivideSpec)) topIntegersDivideUptoCard
end Rows
end Go.Proofs.YtinpcbjjnlpblaaGreatDoor
