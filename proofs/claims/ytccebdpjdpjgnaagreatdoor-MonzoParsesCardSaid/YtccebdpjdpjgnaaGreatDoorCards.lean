/-
  DERIVED. GIVEN WITH THE SEED: THE CARDS: each row of YtccebdpjdpjgnaaGreatDoorRows.lean that lists a variable, with what it lists TIED to the program's text (the seventh form; the later family's looks); each row that meets fmt, with fmt's text TOLD by the authors' own Lean function (tested against real Go, not proved from fmt's source: count such statements apart). THE CARD IS WHAT COUNTS. Prove the row's statement (the work); the ties are given (YtccebdpjdpjgnaaGreatDoorTie.lean); close each card by the builder's one call (the guide's Derived/Test/ToyasCard.lean, 'card_holds'). Laid BY PROGRAM, IN A SANDBOX (cutbox-door.mjs). By AI agents, Wed Nov 11 2026. No macro, syntax, notation, axiom, sorry.
-/
import Derived.Test.YtccebdpjdpjgnaaGreatDoorRows
import GoSem.ClaimSeven
namespace Go.Proofs.YtccebdpjdpjgnaaGreatDoor
namespace Rows

/-- THE TIED CARD OF 'schismalaw12.MonzoChecks'. -/
def monzoChecksCard : Claim7 := { stood := { row := monzoChecksRow, standIns := [], harness := (true, "f57e5dc9ce9f0a8485cfc4c3a0b0a03292939c15d71d60950981aa626424c6ed"), looks := true }, kinds := [], alts := [], laidByText := true, laidKinds := [.data, .data, .data, .sentinel, .sentinel], laidTests := true, laidLooks := .later }
def MonzoChecksCardSaid : Prop := Claim7.holds Tryz.pinned (.plain (OpenSpec.ofChange monzoChecksSpec)) monzoChecksCard

/-- THE TIED CARD OF 'schismalaw12.MonzoOf'. -/
def monzoOfCard : Claim7 := { stood := { row := monzoOfRow, standIns := [], harness := (true, "f57e5dc9ce9f0a8485cfc4c3a0b0a03292939c15d71d60950981aa626424c6ed"), looks := true }, kinds := [], alts := [], laidByText := true, laidKinds := [.data, .data, .data, .sentinel, .sentinel], laidTests := true, laidLooks := .later }
def MonzoOfCardSaid : Prop := Claim7.holds Tryz.pinned (.plain (OpenSpec.ofChange monzoOfSpec)) monzoOfCard

/-- THE TIED CARD OF 'schismalaw12.MonzoFractions'. -/
def monzoFractionsCard : Claim7 := { stood := { row := monzoFractionsRow, standIns := [], harness := (true, "f57e5dc9ce9f0a8485cfc4c3a0b0a03292939c15d71d60950981aa626424c6ed"), looks := true }, kinds := [], alts := [], laidByText := true, laidKinds := [.data, .data, .data, .sentinel, .sentinel], laidTests := true, laidLooks := .later }
def MonzoFractionsCardSaid : Prop := Claim7.holds Tryz.pinned (.plain (OpenSpec.ofChange monzoFractionsSpec)) monzoFractionsCard

/-- THE TIED CARD OF 'schismalaw12.MonzoLong'. -/
def monzoLongCard : Claim7 := { stood := { row := monzoLongRow, standIns := [], harness := (true, "f57e5dc9ce9f0a8485cfc4c3a0b0a03292939c15d71d60950981aa626424c6ed"), looks := true }, kinds := [], alts := [], laidByText := true, laidKinds := [.data, .data, .data, .sentinel, .sentinel], laidTests := true, laidLooks := .later }
def MonzoLongCardSaid : Prop := Claim7.holds Tryz.pinned (.plain (OpenSpec.ofChange monzoLongSpec)) monzoLongCard

/-- THE TIED CARD OF 'schismalaw12.MonzoAdds'. -/
def monzoAddsCard : Claim7 := { stood := { row := monzoAddsRow, standIns := [], harness := (true, "f57e5dc9ce9f0a8485cfc4c3a0b0a03292939c15d71d60950981aa626424c6ed"), looks := true }, kinds := [], alts := [], laidByText := true, laidKinds := [.data, .data, .data, .sentinel, .sentinel], laidTests := true, laidLooks := .later }
def MonzoAddsCardSaid : Prop := Claim7.holds Tryz.pinned (.plain (OpenSpec.ofChange monzoAddsSpec)) monzoAddsCard

/-- THE TIED CARD OF 'schismalaw12.MonzoLaws'. -/
def monzoLawsCard : Claim7 := { stood := { row := monzoLawsRow, standIns := [], harness := (true, "f57e5dc9ce9f0a8485cfc4c3a0b0a03292939c15d71d60950981aa626424c6ed"), looks := true }, kinds := [], alts := [], laidByText := true, laidKinds := [.data, .data, .data, .sentinel, .sentinel], laidTests := true, laidLooks := .later }
def MonzoLawsCardSaid : Prop := Claim7.holds Tryz.pinned (.plain (OpenSpec.ofChange monzoLawsSpec)) monzoLawsCard

/-- THE TIED CARD OF 'schismalaw12.MonzoOrders'. -/
def monzoOrdersCard : Claim7 := { stood := { row := monzoOrdersRow, standIns := [], harness := (true, "f57e5dc9ce9f0a8485cfc4c3a0b0a03292939c15d71d60950981aa626424c6ed"), looks := true }, kinds := [], alts := [], laidByText := true, laidKinds := [.data, .data, .data, .sentinel, .sentinel], laidTests := true, laidLooks := .later }
def MonzoOrdersCardSaid : Prop := Claim7.holds Tryz.pinned (.plain (OpenSpec.ofChange monzoOrdersSpec)) monzoOrdersCard

/-- THE TIED CARD OF 'schismalaw12.MonzoErrors'. -/
def monzoErrorsCard : Claim7 := { stood := { row := monzoErrorsRow, standIns := [], harness := (true, "f57e5dc9ce9f0a8485cfc4c3a0b0a03292939c15d71d60950981aa626424c6ed"), looks := true }, kinds := [], alts := [], laidByText := true, laidKinds := [.data, .data, .data, .sentinel, .sentinel], laidTests := true, laidLooks := .later }
def MonzoErrorsCardSaid : Prop := Claim7.holds Tryz.pinned (.plain (OpenSpec.ofChange monzoErrorsSpec)) monzoErrorsCard

/-- THE TIED CARD OF 'schismalaw12.MonzoHeights'. -/
def monzoHeightsCard : Claim7 := { stood := { row := monzoHeightsRow, standIns := [], harness := (true, "f57e5dc9ce9f0a8485cfc4c3a0b0a03292939c15d71d60950981aa626424c6ed"), looks := true }, kinds := [], alts := [], laidByText := true, laidKinds := [.data, .data, .data, .sentinel, .sentinel], laidTests := true, laidLooks := .later }
def MonzoHeightsCardSaid : Prop := Claim7.holds Tryz.pinned (.plain (OpenSpec.ofChange monzoHeightsSpec)) monzoHeightsCard

/-- THE TIED CARD OF 'schismalaw11.PrimeLists'. -/
def primeListsCard : Claim7 := { stood := { row := primeListsRow, standIns := [], harness := (true, "f57e5dc9ce9f0a8485cfc4c3a0b0a03292939c15d71d60950981aa626424c6ed"), looks := true }, kinds := [], alts := [], laidByText := true, laidKinds := [.data, .data, .data, .data, .sentinel, .sentinel, .pinned], laidTests := true, laidLooks := .later }
def PrimeListsCardSaid : Prop := Claim7.holds Tryz.pinned (.plain (OpenSpec.ofChange primeListsSpec)) primeListsCard

/-- THE TIED CARD OF 'schismalaw11.PrimeEmbeds'. -/
def primeEmbedsCard : Claim7 := { stood := { row := primeEmbedsRow, standIns := [], harness := (true, "f57e5dc9ce9f0a8485cfc4c3a0b0a03292939c15d71d60950981aa626424c6ed"), looks := true }, kinds := [], alts := [], laidByText := true, laidKinds := [.data, .data, .data, .data, .sentinel, .sentinel, .pinned], laidTests := true, laidLooks := .later }
def PrimeEmbedsCardSaid : Prop := Claim7.holds Tryz.pinned (.plain (OpenSpec.ofChange primeEmbedsSpec)) primeEmbedsCard

/-- THE TIED CARD OF 'schismalaw11.PrimeTexts'. -/
def primeTextsCard : Claim7 := { stood := { row := primeTextsRow, standIns := [], harness := (true, "f57e5dc9ce9f0a8485cfc4c3a0b0a03292939c15d71d60950981aa626424c6ed"), looks := true }, kinds := [], alts := [], laidByText := true, laidKinds := [.data, .data, .data, .data, .sentinel, .sentinel, .pinned], laidTests := true, laidLooks := .later }
def PrimeTextsCardSaid : Prop := Claim7.holds Tryz.pinned (.plain (OpenSpec.ofChange primeTextsSpec)) primeTextsCard

/-- THE TIED CARD OF 'schismalaw11.PrimeExponents'. -/
def primeExponentsCard : Claim7 := { stood := { row := primeExponentsRow, standIns := [], harness := (true, "f57e5dc9ce9f0a8485cfc4c3a0b0a03292939c15d71d60950981aa626424c6ed"), looks := true }, kinds := [], alts := [], laidByText := true, laidKinds := [.data, .data, .data, .data, .sentinel, .sentinel, .pinned], laidTests := true, laidLooks := .later }
def PrimeExponentsCardSaid : Prop := Claim7.holds Tryz.pinned (.plain (OpenSpec.ofChange primeExponentsSpec)) primeExponentsCard

/-- THE TIED CARD OF 'schismalaw11.PrimeValues'. -/
def primeValuesCard : Claim7 := { stood := { row := primeValuesRow, standIns := [], harness := (true, "f57e5dc9ce9f0a8485cfc4c3a0b0a03292939c15d71d60950981aa626424c6ed"), looks := true }, kinds := [], alts := [], laidByText := true, laidKinds := [.data, .data, .data, .data, .sentinel, .sentinel, .pinned], laidTests := true, laidLooks := .later }
def PrimeValuesCardSaid : Prop := Claim7.holds Tryz.pinned (.plain (OpenSpec.ofChange primeValuesSpec)) primeValuesCard

/-- THE TIED CARD OF 'schismalaw11.PrimeFactors'. -/
def primeFactorsCard : Claim7 := { stood := { row := primeFactorsRow, standIns := [], harness := (true, "f57e5dc9ce9f0a8485cfc4c3a0b0a03292939c15d71d60950981aa626424c6ed"), looks := true }, kinds := [], alts := [], laidByText := true, laidKinds := [.data, .data, .data, .data, .sentinel, .sentinel, .pinned], laidTests := true, laidLooks := .later }
def PrimeFactorsCardSaid : Prop := Claim7.holds Tryz.pinned (.plain (OpenSpec.ofChange primeFactorsSpec)) primeFactorsCard

/-- THE TIED CARD OF 'schismalaw11.PrimeJoins'. -/
def primeJoinsCard : Claim7 := { stood := { row := primeJoinsRow, standIns := [], harness := (true, "f57e5dc9ce9f0a8485cfc4c3a0b0a03292939c15d71d60950981aa626424c6ed"), looks := true }, kinds := [], alts := [], laidByText := true, laidKinds := [.data, .data, .data, .data, .sentinel, .sentinel, .pinned], laidTests := true, laidLooks := .later }
def PrimeJoinsCardSaid : Prop := Claim7.holds Tryz.pinned (.plain (OpenSpec.ofChange primeJoinsSpec)) primeJoinsCard

/-- THE TIED CARD OF 'schismalaw11.PrimeRefuses'. -/
def primeRefusesCard : Claim7 := { stood := { row := primeRefusesRow, standIns := [], harness := (true, "f57e5dc9ce9f0a8485cfc4c3a0b0a03292939c15d71d60950981aa626424c6ed"), looks := true }, kinds := [], alts := [], laidByText := true, laidKinds := [.data, .data, .data, .data, .sentinel, .sentinel, .pinned], laidTests := true, laidLooks := .later }
def PrimeRefusesCardSaid : Prop := Claim7.holds Tryz.pinned (.plain (OpenSpec.ofChange primeRefusesSpec)) primeRefusesCard

/-- THE TIED CARD OF 'schismalaw12.MonzoParses'. -/
def monzoParsesCard : Claim7 := { stood := { row := monzoParsesRow, standIns := [], harness := (true, "f57e5dc9ce9f0a8485cfc4c3a0b0a03292939c15d71d60950981aa626424c6ed"), looks := true }, kinds := [], alts := [], laidByText := true, laidKinds := [.data, .data, .data, .data, .sentinel, .sentinel, .pinned], laidTests := true, laidLooks := .later }
def MonzoParsesCardSaid : Prop := Claim7.holds Tryz.pinned (.plain (OpenSpec.ofChange monzoParsesSpec)) monzoParsesCard

/-- THE TIED CARD OF 'schismalaw12.MonzoReads'. -/
def monzoReadsCard : Claim7 := { stood := { row := monzoReadsRow, standIns := [], harness := (true, "f57e5dc9ce9f0a8485cfc4c3a0b0a03292939c15d71d60950981aa626424c6ed"), looks := true }, kinds := [], alts := [], laidByText := true, laidKinds := [.data, .data, .data, .data, .sentinel, .sentinel, .pinned], laidTests := true, laidLooks := .later }
def MonzoReadsCardSaid : Prop := Claim7.holds Tryz.pinned (.plain (OpenSpec.ofChange monzoReadsSpec)) monzoReadsCard

/-- THE SECOND FORM's CARD OF 'schismalaw12.MonzoChecks'. -/
def monzoChecksUptoCard : Claim7 := { stood := { row := monzoChecksUptoRow, standIns := [], harness := (true, "f57e5dc9ce9f0a8485cfc4c3a0b0a03292939c15d71d60950981aa626424c6ed"), looks := true }, kinds := [], alts := [], laidByText := true, laidKinds := [.data, .data, .data, .sentinel, .sentinel], laidTests := true, laidLooks := .later }
def MonzoChecksUptoCardSaid : Prop := Claim7.holds Tryz.pinned (.plain (OpenSpec.upto monzoChecksSpec)) monzoChecksUptoCard

/-- THE SECOND FORM's CARD OF 'schismalaw12.MonzoOf'. -/
def monzoOfUptoCard : Claim7 := { stood := { row := monzoOfUptoRow, standIns := [], harness := (true, "f57e5dc9ce9f0a8485cfc4c3a0b0a03292939c15d71d60950981aa626424c6ed"), looks := true }, kinds := [], alts := [], laidByText := true, laidKinds := [.data, .data, .data, .sentinel, .sentinel], laidTests := true, laidLooks := .later }
def MonzoOfUptoCardSaid : Prop := Claim7.holds Tryz.pinned (.plain (OpenSpec.upto monzoOfSpec)) monzoOfUptoCard

/-- THE SECOND FORM's CARD OF 'schismalaw12.MonzoFractions'. -/
def monzoFractionsUptoCard : Claim7 := { stood := { row := monzoFractionsUptoRow, standIns := [], harness := (true, "f57e5dc9ce9f0a8485cfc4c3a0b0a03292939c15d71d60950981aa626424c6ed"), looks := true }, kinds := [], alts := [], laidByText := true, laidKinds := [.data, .data, .data, .sentinel, .sentinel], laidTests := true, laidLooks := .later }
def MonzoFractionsUptoCardSaid : Prop := Claim7.holds Tryz.pinned (.plain (OpenSpec.upto monzoFractionsSpec)) monzoFractionsUptoCard

/-- THE SECOND FORM's CARD OF 'schismalaw12.MonzoLong'. -/
def monzoLongUptoCard : Claim7 := { stood := { row := monzoLongUptoRow, standIns := [], harness := (true, "f57e5dc9ce9f0a8485cfc4c3a0b0a03292939c15d71d60950981aa626424c6ed"), looks := true }, kinds := [], alts := [], laidByText := true, laidKinds := [.data, .data, .data, .sentinel, .sentinel], laidTests := true, laidLooks := .later }
def MonzoLongUptoCardSaid : Prop := Claim7.holds Tryz.pinned (.plain (OpenSpec.upto monzoLongSpec)) monzoLongUptoCard

/-- THE SECOND FORM's CARD OF 'schismalaw12.MonzoAdds'. -/
def monzoAddsUptoCard : Claim7 := { stood := { row := monzoAddsUptoRow, standIns := [], harness := (true, "f57e5dc9ce9f0a8485cfc4c3a0b0a03292939c15d71d60950981aa626424c6ed"), looks := true }, kinds := [], alts := [], laidByText := true, laidKinds := [.data, .data, .data, .sentinel, .sentinel], laidTests := true, laidLooks := .later }
def MonzoAddsUptoCardSaid : Prop := Claim7.holds Tryz.pinned (.plain (OpenSpec.upto monzoAddsSpec)) monzoAddsUptoCard

/-- THE SECOND FORM's CARD OF 'schismalaw12.MonzoLaws'. -/
def monzoLawsUptoCard : Claim7 := { stood := { row := monzoLawsUptoRow, standIns := [], harness := (true, "f57e5dc9ce9f0a8485cfc4c3a0b0a03292939c15d71d60950981aa626424c6ed"), looks := true }, kinds := [], alts := [], laidByText := true, laidKinds := [.data, .data, .data, .sentinel, .sentinel], laidTests := true, laidLooks := .later }
def MonzoLawsUptoCardSaid : Prop := Claim7.holds Tryz.pinned (.plain (OpenSpec.upto monzoLawsSpec)) monzoLawsUptoCard

/-- THE SECOND FORM's CARD OF 'schismalaw12.MonzoOrders'. -/
def monzoOrdersUptoCard : Claim7 := { stood := { row := monzoOrdersUptoRow, standIns := [], harness := (true, "f57e5dc9ce9f0a8485cfc4c3a0b0a03292939c15d71d60950981aa626424c6ed"), looks := true }, kinds := [], alts := [], laidByText := true, laidKinds := [.data, .data, .data, .sentinel, .sentinel], laidTests := true, laidLooks := .later }
def MonzoOrdersUptoCardSaid : Prop := Claim7.holds Tryz.pinned (.plain (OpenSpec.upto monzoOrdersSpec)) monzoOrdersUptoCard

/-- THE SECOND FORM's CARD OF 'schismalaw12.MonzoErrors'. -/
def monzoErrorsUptoCard : Claim7 := { stood := { row := monzoErrorsUptoRow, standIns := [], harness := (true, "f57e5dc9ce9f0a8485cfc4c3a0b0a03292939c15d71d60950981aa626424c6ed"), looks := true }, kinds := [], alts := [], laidByText := true, laidKinds := [.data, .data, .data, .sentinel, .sentinel], laidTests := true, laidLooks := .later }
def MonzoErrorsUptoCardSaid : Prop := Claim7.holds Tryz.pinned (.plain (OpenSpec.upto monzoErrorsSpec)) monzoErrorsUptoCard

/-- THE SECOND FORM's CARD OF 'schismalaw12.MonzoHeights'. -/
def monzoHeightsUptoCard : Claim7 := { stood := { row := monzoHeightsUptoRow, standIns := [], harness := (true, "f57e5dc9ce9f0a8485cfc4c3a0b0a03292939c15d71d60950981aa626424c6ed"), looks := true }, kinds := [], alts := [], laidByText := true, laidKinds := [.data, .data, .data, .sentinel, .sentinel], laidTests := true, laidLooks := .later }
def MonzoHeightsUptoCardSaid : Prop := Claim7.holds Tryz.pinned (.plain (OpenSpec.upto monzoHeightsSpec)) monzoHeightsUptoCard

/-- THE SECOND FORM's CARD OF 'schismalaw11.PrimeLists'. -/
def primeListsUptoCard : Claim7 := { stood := { row := primeListsUptoRow, standIns := [], harness := (true, "f57e5dc9ce9f0a8485cfc4c3a0b0a03292939c15d71d60950981aa626424c6ed"), looks := true }, kinds := [], alts := [], laidByText := true, laidKinds := [.data, .data, .data, .data, .sentinel, .sentinel, .pinned], laidTests := true, laidLooks := .later }
def PrimeListsUptoCardSaid : Prop := Claim7.holds Tryz.pinned (.plain (OpenSpec.upto primeListsSpec)) primeListsUptoCard

/-- THE SECOND FORM's CARD OF 'schismalaw11.PrimeEmbeds'. -/
def primeEmbedsUptoCard : Claim7 := { stood := { row := primeEmbedsUptoRow, standIns := [], harness := (true, "f57e5dc9ce9f0a8485cfc4c3a0b0a03292939c15d71d60950981aa626424c6ed"), looks := true }, kinds := [], alts := [], laidByText := true, laidKinds := [.data, .data, .data, .data, .sentinel, .sentinel, .pinned], laidTests := true, laidLooks := .later }
def PrimeEmbedsUptoCardSaid : Prop := Claim7.holds Tryz.pinned (.plain (OpenSpec.upto primeEmbedsSpec)) primeEmbedsUptoCard

/-- THE SECOND FORM's CARD OF 'schismalaw11.PrimeTexts'. -/
def primeTextsUptoCard : Claim7 := { stood := { row := primeTextsUptoRow, standIns := [], harness := (true, "f57e5dc9ce9f0a8485cfc4c3a0b0a03292939c15d71d60950981aa626424c6ed"), looks := true }, kinds := [], alts := [], laidByText := true, laidKinds := [.data, .data, .data, .data, .sentinel, .sentinel, .pinned], laidTests := true, laidLooks := .later }
def PrimeTextsUptoCardSaid : Prop := Claim7.holds Tryz.pinned (.plain (OpenSpec.upto primeTextsSpec)) primeTextsUptoCard

/-- THE SECOND FORM's CARD OF 'schismalaw11.PrimeExponents'. -/
def primeExponentsUptoCard : Claim7 := { stood := { row := primeExponentsUptoRow, standIns := [], harness := (true, "f57e5dc9ce9f0a8485cfc4c3a0b0a03292939c15d71d60950981aa626424c6ed"), looks := true }, kinds := [], alts := [], laidByText := true, laidKinds := [.data, .data, .data, .data, .sentinel, .sentinel, .pinned], laidTests := true, laidLooks := .later }
def PrimeExponentsUptoCardSaid : Prop := Claim7.holds Tryz.pinned (.plain (OpenSpec.upto primeExponentsSpec)) primeExponentsUptoCard

/-- THE SECOND FORM's CARD OF 'schismalaw11.PrimeValues'. -/
def primeValuesUptoCard : Claim7 := { stood := { row := primeValuesUptoRow, standIns := [], harness := (true, "f57e5dc9ce9f0a8485cfc4c3a0b0a03292939c15d71d60950981aa626424c6ed"), looks := true }, kinds := [], alts := [], laidByText := true, laidKinds := [.data, .data, .data, .data, .sentinel, .sentinel, .pinned], laidTests := true, laidLooks := .later }
def PrimeValuesUptoCardSaid : Prop := Claim7.holds Tryz.pinned (.plain (OpenSpec.upto primeValuesSpec)) primeValuesUptoCard

/-- THE SECOND FORM's CARD OF 'schismalaw11.PrimeFactors'. -/
def primeFactorsUptoCard : Claim7 := { stood := { row := primeFactorsUptoRow, standIns := [], harness := (true, "f57e5dc9ce9f0a8485cfc4c3a0b0a03292939c15d71d60950981aa626424c6ed"), looks := true }, kinds := [], alts := [], laidByText := true, laidKinds := [.data, .data, .data, .data, .sentinel, .sentinel, .pinned], laidTests := true, laidLooks := .later }
def PrimeFactorsUptoCardSaid : Prop := Claim7.holds Tryz.pinned (.plain (OpenSpec.upto primeFactorsSpec)) primeFactorsUptoCard

/-- THE SECOND FORM's CARD OF 'schismalaw11.PrimeJoins'. -/
def primeJoinsUptoCard : Claim7 := { stood := { row := primeJoinsUptoRow, standIns := [], harness := (true, "f57e5dc9ce9f0a8485cfc4c3a0b0a03292939c15d71d60950981aa626424c6ed"), looks := true }, kinds := [], alts := [], laidByText := true, laidKinds := [.data, .data, .data, .data, .sentinel, .sentinel, .pinned], laidTests := true, laidLooks := .later }
def PrimeJoinsUptoCardSaid : Prop := Claim7.holds Tryz.pinned (.plain (OpenSpec.upto primeJoinsSpec)) primeJoinsUptoCard

/-- THE SECOND FORM's CARD OF 'schismalaw11.PrimeRefuses'. -/
def primeRefusesUptoCard : Claim7 := { stood := { row := primeRefusesUptoRow, standIns := [], harness := (true, "f57e5dc9ce9f0a8485cfc4c3a0b0a03292939c15d71d60950981aa626424c6ed"), looks := true }, kinds := [], alts := [], laidByText := true, laidKinds := [.data, .data, .data, .data, .sentinel, .sentinel, .pinned], laidTests := true, laidLooks := .later }
def PrimeRefusesUptoCardSaid : Prop := Claim7.holds Tryz.pinned (.plain (OpenSpec.upto primeRefusesSpec)) primeRefusesUptoCard

/-- THE SECOND FORM's CARD OF 'schismalaw12.MonzoParses'. -/
def monzoParsesUptoCard : Claim7 := { stood := { row := monzoParsesUptoRow, standIns := [], harness := (true, "f57e5dc9ce9f0a8485cfc4c3a0b0a03292939c15d71d60950981aa626424c6ed"), looks := true }, kinds := [], alts := [], laidByText := true, laidKinds := [.data, .data, .data, .data, .sentinel, .sentinel, .pinned], laidTests := true, laidLooks := .later }
def MonzoParsesUptoCardSaid : Prop := Claim7.holds Tryz.pinned (.plain (OpenSpec.upto monzoParsesSpec)) monzoParsesUptoCard

/-- THE SECOND FORM's CARD OF 'schismalaw12.MonzoReads'. -/
def monzoReadsUptoCard : Claim7 := { stood := { row := monzoReadsUptoRow, standIns := [], harness := (true, "f57e5dc9ce9f0a8485cfc4c3a0b0a03292939c15d71d60950981aa626424c6ed"), looks := true }, kinds := [], alts := [], laidByText := true, laidKinds := [.data, .data, .data, .data, .sentinel, .sentinel, .pinned], laidTests := true, laidLooks := .later }
def MonzoReadsUptoCardSaid : Prop := Claim7.holds Tryz.pinned (.plain (OpenSpec.upto monzoReadsSpec)) monzoReadsUptoCard
end Rows
end Go.Proofs.YtccebdpjdpjgnaaGreatDoor
