/-
  DERIVED. GIVEN WITH THE SEED: THE CARDS: each row of YthnfajboebaajaaGreatDoorRows.lean that lists a variable, with what it lists TIED to the program's text (the seventh form; the later family's looks); each row that meets fmt, with fmt's text TOLD by the authors' own Lean function (tested against real Go, not proved from fmt's source: count such statements apart). THE CARD IS WHAT COUNTS. Prove the row's statement (the work); the ties are given (YthnfajboebaajaaGreatDoorTie.lean); close each card by the builder's one call (the guide's Derived/Test/ToyasCard.lean, 'card_holds'). Laid BY PROGRAM, IN A SANDBOX (cutbox-door.mjs). By AI agents, Wed Nov 11 2026. No macro, syntax, notation, axiom, sorry.
-/
import Derived.Test.YthnfajboebaajaaGreatDoorRows
import GoSem.ClaimSeven
namespace Go.Proofs.YthnfajboebaajaaGreatDoor
namespace Rows

/-- THE TIED CARD OF 'surveyorlaw02.RationalChecks'. -/
def rationalChecksCard : Claim7 := { stood := { row := rationalChecksRow, standIns := [], harness := (true, "72a18669e3a2f07bb33e8c9ef8118028dd2ba8cdef94a48170b8cfcc348586ec"), looks := true }, kinds := [], alts := [], laidByText := true, laidKinds := [.data, .data, .data, .data, .sentinel, .sentinel, .pinned], laidTests := true, laidLooks := .later }
def RationalChecksCardSaid : Prop := Claim7.holds Tryz.pinned (.plain (OpenSpec.ofChange rationalChecksSpec)) rationalChecksCard

/-- THE TIED CARD OF 'surveyorlaw02.RationalMakes'. -/
def rationalMakesCard : Claim7 := { stood := { row := rationalMakesRow, standIns := [], harness := (true, "72a18669e3a2f07bb33e8c9ef8118028dd2ba8cdef94a48170b8cfcc348586ec"), looks := true }, kinds := [], alts := [], laidByText := true, laidKinds := [.data, .data, .data, .data, .sentinel, .sentinel, .pinned], laidTests := true, laidLooks := .later }
def RationalMakesCardSaid : Prop := Claim7.holds Tryz.pinned (.plain (OpenSpec.ofChange rationalMakesSpec)) rationalMakesCard

/-- THE TIED CARD OF 'surveyorlaw02.RationalRounds'. -/
def rationalRoundsCard : Claim7 := { stood := { row := rationalRoundsRow, standIns := [], harness := (true, "72a18669e3a2f07bb33e8c9ef8118028dd2ba8cdef94a48170b8cfcc348586ec"), looks := true }, kinds := [], alts := [], laidByText := true, laidKinds := [.data, .data, .data, .data, .sentinel, .sentinel, .pinned], laidTests := true, laidLooks := .later }
def RationalRoundsCardSaid : Prop := Claim7.holds Tryz.pinned (.plain (OpenSpec.ofChange rationalRoundsSpec)) rationalRoundsCard

/-- THE TIED CARD OF 'surveyorlaw02.RationalReturns'. -/
def rationalReturnsCard : Claim7 := { stood := { row := rationalReturnsRow, standIns := [], harness := (true, "72a18669e3a2f07bb33e8c9ef8118028dd2ba8cdef94a48170b8cfcc348586ec"), looks := true }, kinds := [], alts := [], laidByText := true, laidKinds := [.data, .data, .data, .data, .sentinel, .sentinel, .pinned], laidTests := true, laidLooks := .later }
def RationalReturnsCardSaid : Prop := Claim7.holds Tryz.pinned (.plain (OpenSpec.ofChange rationalReturnsSpec)) rationalReturnsCard

/-- THE TIED CARD OF 'surveyorlaw02.RationalLimits'. -/
def rationalLimitsCard : Claim7 := { stood := { row := rationalLimitsRow, standIns := [], harness := (true, "72a18669e3a2f07bb33e8c9ef8118028dd2ba8cdef94a48170b8cfcc348586ec"), looks := true }, kinds := [], alts := [], laidByText := true, laidKinds := [.data, .data, .data, .data, .sentinel, .sentinel, .pinned], laidTests := true, laidLooks := .later }
def RationalLimitsCardSaid : Prop := Claim7.holds Tryz.pinned (.plain (OpenSpec.ofChange rationalLimitsSpec)) rationalLimitsCard

/-- THE TIED CARD OF 'surveyorlaw02.RationalOrders'. -/
def rationalOrdersCard : Claim7 := { stood := { row := rationalOrdersRow, standIns := [], harness := (true, "72a18669e3a2f07bb33e8c9ef8118028dd2ba8cdef94a48170b8cfcc348586ec"), looks := true }, kinds := [], alts := [], laidByText := true, laidKinds := [.data, .data, .data, .data, .sentinel, .sentinel, .pinned], laidTests := true, laidLooks := .later }
def RationalOrdersCardSaid : Prop := Claim7.holds Tryz.pinned (.plain (OpenSpec.ofChange rationalOrdersSpec)) rationalOrdersCard

/-- THE TIED CARD OF 'surveyorlaw02.RationalComputes'. -/
def rationalComputesCard : Claim7 := { stood := { row := rationalComputesRow, standIns := [], harness := (true, "72a18669e3a2f07bb33e8c9ef8118028dd2ba8cdef94a48170b8cfcc348586ec"), looks := true }, kinds := [], alts := [], laidByText := true, laidKinds := [.data, .data, .data, .data, .sentinel, .sentinel, .pinned], laidTests := true, laidLooks := .later }
def RationalComputesCardSaid : Prop := Claim7.holds Tryz.pinned (.plain (OpenSpec.ofChange rationalComputesSpec)) rationalComputesCard

/-- THE TIED CARD OF 'surveyorlaw02.RationalField'. -/
def rationalFieldCard : Claim7 := { stood := { row := rationalFieldRow, standIns := [], harness := (true, "72a18669e3a2f07bb33e8c9ef8118028dd2ba8cdef94a48170b8cfcc348586ec"), looks := true }, kinds := [], alts := [], laidByText := true, laidKinds := [.data, .data, .data, .data, .sentinel, .sentinel, .pinned], laidTests := true, laidLooks := .later }
def RationalFieldCardSaid : Prop := Claim7.holds Tryz.pinned (.plain (OpenSpec.ofChange rationalFieldSpec)) rationalFieldCard

/-- THE TIED CARD OF 'surveyortop.TopIntegersRing'. -/
def topIntegersRingCard : Claim7 := { stood := { row := topIntegersRingRow, standIns := [], harness := (true, "72a18669e3a2f07bb33e8c9ef8118028dd2ba8cdef94a48170b8cfcc348586ec"), looks := true }, kinds := [], alts := [], laidByText := true, laidKinds := [.data, .data, .data, .data, .sentinel, .sentinel, .pinned], laidTests := true, laidLooks := .later }
def TopIntegersRingCardSaid : Prop := Claim7.holds Tryz.pinned (.plain (OpenSpec.ofChange topIntegersRingSpec)) topIntegersRingCard

/-- THE TIED CARD OF 'surveyortop.TopRationalsField'. -/
def topRationalsFieldCard : Claim7 := { stood := { row := topRationalsFieldRow, standIns := [], harness := (true, "72a18669e3a2f07bb33e8c9ef8118028dd2ba8cdef94a48170b8cfcc348586ec"), looks := true }, kinds := [], alts := [], laidByText := true, laidKinds := [.data, .data, .data, .data, .sentinel, .sentinel, .pinned], laidTests := true, laidLooks := .later }
def TopRationalsFieldCardSaid : Prop := Claim7.holds Tryz.pinned (.plain (OpenSpec.ofChange topRationalsFieldSpec)) topRationalsFieldCard

/-- THE TIED CARD OF 'surveyortop.TopIntegersOrdered'. -/
def topIntegersOrderedCard : Claim7 := { stood := { row := topIntegersOrderedRow, standIns := [], harness := (true, "72a18669e3a2f07bb33e8c9ef8118028dd2ba8cdef94a48170b8cfcc348586ec"), looks := true }, kinds := [], alts := [], laidByText := true, laidKinds := [.data, .data, .data, .data, .sentinel, .sentinel, .pinned], laidTests := true, laidLooks := .later }
def TopIntegersOrderedCardSaid : Prop := Claim7.holds Tryz.pinned (.plain (OpenSpec.ofChange topIntegersOrderedSpec)) topIntegersOrderedCard

/-- THE TIED CARD OF 'surveyortop.TopIntegersDivide'. -/
def topIntegersDivideCard : Claim7 := { stood := { row := topIntegersDivideRow, standIns := [], harness := (true, "72a18669e3a2f07bb33e8c9ef8118028dd2ba8cdef94a48170b8cfcc348586ec"), looks := true }, kinds := [], alts := [], laidByText := true, laidKinds := [.data, .data, .data, .data, .sentinel, .sentinel, .pinned], laidTests := true, laidLooks := .later }
def TopIntegersDivideCardSaid : Prop := Claim7.holds Tryz.pinned (.plain (OpenSpec.ofChange topIntegersDivideSpec)) topIntegersDivideCard

/-- THE TIED CARD OF 'surveyortop.TopRationalsRounded'. -/
def topRationalsRoundedCard : Claim7 := { stood := { row := topRationalsRoundedRow, standIns := [], harness := (true, "72a18669e3a2f07bb33e8c9ef8118028dd2ba8cdef94a48170b8cfcc348586ec"), looks := true }, kinds := [], alts := [], laidByText := true, laidKinds := [.data, .data, .data, .data, .sentinel, .sentinel, .pinned], laidTests := true, laidLooks := .later }
def TopRationalsRoundedCardSaid : Prop := Claim7.holds Tryz.pinned (.plain (OpenSpec.ofChange topRationalsRoundedSpec)) topRationalsRoundedCard

/-- THE SECOND FORM's CARD OF 'surveyorlaw02.RationalChecks'. -/
def rationalChecksUptoCard : Claim7 := { stood := { row := rationalChecksUptoRow, standIns := [], harness := (true, "72a18669e3a2f07bb33e8c9ef8118028dd2ba8cdef94a48170b8cfcc348586ec"), looks := true }, kinds := [], alts := [], laidByText := true, laidKinds := [.data, .data, .data, .data, .sentinel, .sentinel, .pinned], laidTests := true, laidLooks := .later }
def RationalChecksUptoCardSaid : Prop := Claim7.holds Tryz.pinned (.plain (OpenSpec.upto rationalChecksSpec)) rationalChecksUptoCard

/-- THE SECOND FORM's CARD OF 'surveyorlaw02.RationalMakes'. -/
def rationalMakesUptoCard : Claim7 := { stood := { row := rationalMakesUptoRow, standIns := [], harness := (true, "72a18669e3a2f07bb33e8c9ef8118028dd2ba8cdef94a48170b8cfcc348586ec"), looks := true }, kinds := [], alts := [], laidByText := true, laidKinds := [.data, .data, .data, .data, .sentinel, .sentinel, .pinned], laidTests := true, laidLooks := .later }
def RationalMakesUptoCardSaid : Prop := Claim7.holds Tryz.pinned (.plain (OpenSpec.upto rationalMakesSpec)) rationalMakesUptoCard

/-- THE SECOND FORM's CARD OF 'surveyorlaw02.RationalRounds'. -/
def rationalRoundsUptoCard : Claim7 := { stood := { row := rationalRoundsUptoRow, standIns := [], harness := (true, "72a18669e3a2f07bb33e8c9ef8118028dd2ba8cdef94a48170b8cfcc348586ec"), looks := true }, kinds := [], alts := [], laidByText := true, laidKinds := [.data, .data, .data, .data, .sentinel, .sentinel, .pinned], laidTests := true, laidLooks := .later }
def RationalRoundsUptoCardSaid : Prop := Claim7.holds Tryz.pinned (.plain (OpenSpec.upto rationalRoundsSpec)) rationalRoundsUptoCard

/-- THE SECOND FORM's CARD OF 'surveyorlaw02.RationalReturns'. -/
def rationalReturnsUptoCard : Claim7 := { stood := { row := rationalReturnsUptoRow, standIns := [], harness := (true, "72a18669e3a2f07bb33e8c9ef8118028dd2ba8cdef94a48170b8cfcc348586ec"), looks := true }, kinds := [], alts := [], laidByText := true, laidKinds := [.data, .data, .data, .data, .sentinel, .sentinel, .pinned], laidTests := true, laidLooks := .later }
def RationalReturnsUptoCardSaid : Prop := Claim7.holds Tryz.pinned (.plain (OpenSpec.upto rationalReturnsSpec)) rationalReturnsUptoCard

/-- THE SECOND FORM's CARD OF 'surveyorlaw02.RationalLimits'. -/
def rationalLimitsUptoCard : Claim7 := { stood := { row := rationalLimitsUptoRow, standIns := [], harness := (true, "72a18669e3a2f07bb33e8c9ef8118028dd2ba8cdef94a48170b8cfcc348586ec"), looks := true }, kinds := [], alts := [], laidByText := true, laidKinds := [.data, .data, .data, .data, .sentinel, .sentinel, .pinned], laidTests := true, laidLooks := .later }
def RationalLimitsUptoCardSaid : Prop := Claim7.holds Tryz.pinned (.plain (OpenSpec.upto rationalLimitsSpec)) rationalLimitsUptoCard

/-- THE SECOND FORM's CARD OF 'surveyorlaw02.RationalOrders'. -/
def rationalOrdersUptoCard : Claim7 := { stood := { row := rationalOrdersUptoRow, standIns := [], harness := (true, "72a18669e3a2f07bb33e8c9ef8118028dd2ba8cdef94a48170b8cfcc348586ec"), looks := true }, kinds := [], alts := [], laidByText := true, laidKinds := [.data, .data, .data, .data, .sentinel, .sentinel, .pinned], laidTests := true, laidLooks := .later }
def RationalOrdersUptoCardSaid : Prop := Claim7.holds Tryz.pinned (.plain (OpenSpec.upto rationalOrdersSpec)) rationalOrdersUptoCard

/-- THE SECOND FORM's CARD OF 'surveyorlaw02.RationalComputes'. -/
def rationalComputesUptoCard : Claim7 := { stood := { row := rationalComputesUptoRow, standIns := [], harness := (true, "72a18669e3a2f07bb33e8c9ef8118028dd2ba8cdef94a48170b8cfcc348586ec"), looks := true }, kinds := [], alts := [], laidByText := true, laidKinds := [.data, .data, .data, .data, .sentinel, .sentinel, .pinned], laidTests := true, laidLooks := .later }
def RationalComputesUptoCardSaid : Prop := Claim7.holds Tryz.pinned (.plain (OpenSpec.upto rationalComputesSpec)) rationalComputesUptoCard

/-- THE SECOND FORM's CARD OF 'surveyorlaw02.RationalField'. -/
def rationalFieldUptoCard : Claim7 := { stood := { row := rationalFieldUptoRow, standIns := [], harness := (true, "72a18669e3a2f07bb33e8c9ef8118028dd2ba8cdef94a48170b8cfcc348586ec"), looks := true }, kinds := [], alts := [], laidByText := true, laidKinds := [.data, .data, .data, .data, .sentinel, .sentinel, .pinned], laidTests := true, laidLooks := .later }
def RationalFieldUptoCardSaid : Prop := Claim7.holds Tryz.pinned (.plain (OpenSpec.upto rationalFieldSpec)) rationalFieldUptoCard

/-- THE SECOND FORM's CARD OF 'surveyortop.TopIntegersRing'. -/
def topIntegersRingUptoCard : Claim7 := { stood := { row := topIntegersRingUptoRow, standIns := [], harness := (true, "72a18669e3a2f07bb33e8c9ef8118028dd2ba8cdef94a48170b8cfcc348586ec"), looks := true }, kinds := [], alts := [], laidByText := true, laidKinds := [.data, .data, .data, .data, .sentinel, .sentinel, .pinned], laidTests := true, laidLooks := .later }
def TopIntegersRingUptoCardSaid : Prop := Claim7.holds Tryz.pinned (.plain (OpenSpec.upto topIntegersRingSpec)) topIntegersRingUptoCard

/-- THE SECOND FORM's CARD OF 'surveyortop.TopRationalsField'. -/
def topRationalsFieldUptoCard : Claim7 := { stood := { row := topRationalsFieldUptoRow, standIns := [], harness := (true, "72a18669e3a2f07bb33e8c9ef8118028dd2ba8cdef94a48170b8cfcc348586ec"), looks := true }, kinds := [], alts := [], laidByText := true, laidKinds := [.data, .data, .data, .data, .sentinel, .sentinel, .pinned], laidTests := true, laidLooks := .later }
def TopRationalsFieldUptoCardSaid : Prop := Claim7.holds Tryz.pinned (.plain (OpenSpec.upto topRationalsFieldSpec)) topRationalsFieldUptoCard

/-- THE SECOND FORM's CARD OF 'surveyortop.TopIntegersOrdered'. -/
def topIntegersOrderedUptoCard : Claim7 := { stood := { row := topIntegersOrderedUptoRow, standIns := [], harness := (true, "72a18669e3a2f07bb33e8c9ef8118028dd2ba8cdef94a48170b8cfcc348586ec"), looks := true }, kinds := [], alts := [], laidByText := true, laidKinds := [.data, .data, .data, .data, .sentinel, .sentinel, .pinned], laidTests := true, laidLooks := .later }
def TopIntegersOrderedUptoCardSaid : Prop := Claim7.holds Tryz.pinned (.plain (OpenSpec.upto topIntegersOrderedSpec)) topIntegersOrderedUptoCard

/-- THE SECOND FORM's CARD OF 'surveyortop.TopIntegersDivide'. -/
def topIntegersDivideUptoCard : Claim7 := { stood := { row := topIntegersDivideUptoRow, standIns := [], harness := (true, "72a18669e3a2f07bb33e8c9ef8118028dd2ba8cdef94a48170b8cfcc348586ec"), looks := true }, kinds := [], alts := [], laidByText := true, laidKinds := [.data, .data, .data, .data, .sentinel, .sentinel, .pinned], laidTests := true, laidLooks := .later }
def TopIntegersDivideUptoCardSaid : Prop := Claim7.holds Tryz.pinned (.plain (OpenSpec.upto topIntegersDivideSpec)) topIntegersDivideUptoCard

/-- THE SECOND FORM's CARD OF 'surveyortop.TopRationalsRounded'. -/
def topRationalsRoundedUptoCard : Claim7 := { stood := { row := topRationalsRoundedUptoRow, standIns := [], harness := (true, "72a18669e3a2f07bb33e8c9ef8118028dd2ba8cdef94a48170b8cfcc348586ec"), looks := true }, kinds := [], alts := [], laidByText := true, laidKinds := [.data, .data, .data, .data, .sentinel, .sentinel, .pinned], laidTests := true, laidLooks := .later }
def TopRationalsRoundedUptoCardSaid : Prop := Claim7.holds Tryz.pinned (.plain (OpenSpec.upto topRationalsRoundedSpec)) topRationalsRoundedUptoCard
end Rows
end Go.Proofs.YthnfajboebaajaaGreatDoor
