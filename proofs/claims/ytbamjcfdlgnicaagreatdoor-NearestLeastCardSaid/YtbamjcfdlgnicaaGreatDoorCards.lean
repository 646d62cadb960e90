/-
  DERIVED. GIVEN WITH THE SEED: THE CARDS: each row of YtbamjcfdlgnicaaGreatDoorRows.lean that lists a variable, with what it lists TIED to the program's text (the seventh form; the later family's looks); each row that meets fmt, with fmt's text TOLD by the authors' own Lean function (tested against real Go, not proved from fmt's source: count such statements apart). THE CARD IS WHAT COUNTS. Prove the row's statement (the work); the ties are given (YtbamjcfdlgnicaaGreatDoorTie.lean); close each card by the builder's one call (the guide's Derived/Test/ToyasCard.lean, 'card_holds'). Laid BY PROGRAM, IN A SANDBOX (cutbox-door.mjs). By AI agents, Wed Nov 11 2026. No macro, syntax, notation, axiom, sorry.
-/
import Derived.Test.YtbamjcfdlgnicaaGreatDoorRows
import GoSem.ClaimSeven
namespace Go.Proofs.YtbamjcfdlgnicaaGreatDoor
namespace Rows

/-- THE TIED CARD OF 'sosoptlaw28.NearestSimplest'. -/
def nearestSimplestCard : Claim7 := { stood := { row := nearestSimplestRow, standIns := [], harness := (true, "7b2563da934b634758c4a316496b0e640c6e2e18bf3c7144eea193bc381a2189"), looks := false }, kinds := [], alts := [], laidByText := true, laidKinds := [.data, .data, .data, .data, .pinned], laidTests := true, laidLooks := .later }
def NearestSimplestCardSaid : Prop := Claim7.holds Tryz.pinned (.plain (OpenSpec.ofChange nearestSimplestSpec)) nearestSimplestCard

/-- THE TIED CARD OF 'sosoptlaw28.NearestLeast'. -/
def nearestLeastCard : Claim7 := { stood := { row := nearestLeastRow, standIns := [], harness := (true, "7b2563da934b634758c4a316496b0e640c6e2e18bf3c7144eea193bc381a2189"), looks := false }, kinds := [], alts := [], laidByText := true, laidKinds := [.data, .data, .data, .data, .pinned], laidTests := true, laidLooks := .later }
def NearestLeastCardSaid : Prop := Claim7.holds Tryz.pinned (.plain (OpenSpec.ofChange nearestLeastSpec)) nearestLeastCard

/-- THE TIED CARD OF 'sosoptlaw28.NearestDyadic'. -/
def nearestDyadicCard : Claim7 := { stood := { row := nearestDyadicRow, standIns := [], harness := (true, "7b2563da934b634758c4a316496b0e640c6e2e18bf3c7144eea193bc381a2189"), looks := false }, kinds := [], alts := [], laidByText := true, laidKinds := [.data, .data, .data, .data, .pinned], laidTests := true, laidLooks := .later }
def NearestDyadicCardSaid : Prop := Claim7.holds Tryz.pinned (.plain (OpenSpec.ofChange nearestDyadicSpec)) nearestDyadicCard

/-- THE TIED CARD OF 'sosoptlaw28.NearestConverges'. -/
def nearestConvergesCard : Claim7 := { stood := { row := nearestConvergesRow, standIns := [], harness := (true, "7b2563da934b634758c4a316496b0e640c6e2e18bf3c7144eea193bc381a2189"), looks := false }, kinds := [], alts := [], laidByText := true, laidKinds := [.data, .data, .data, .data, .pinned], laidTests := true, laidLooks := .later }
def NearestConvergesCardSaid : Prop := Claim7.holds Tryz.pinned (.plain (OpenSpec.ofChange nearestConvergesSpec)) nearestConvergesCard

/-- THE TIED CARD OF 'sosoptlaw28.NearestQuotients'. -/
def nearestQuotientsCard : Claim7 := { stood := { row := nearestQuotientsRow, standIns := [], harness := (true, "7b2563da934b634758c4a316496b0e640c6e2e18bf3c7144eea193bc381a2189"), looks := false }, kinds := [], alts := [], laidByText := true, laidKinds := [.data, .data, .data, .data, .pinned], laidTests := true, laidLooks := .later }
def NearestQuotientsCardSaid : Prop := Claim7.holds Tryz.pinned (.plain (OpenSpec.ofChange nearestQuotientsSpec)) nearestQuotientsCard

/-- THE TIED CARD OF 'sosoptlaw28.NearestBest'. -/
def nearestBestCard : Claim7 := { stood := { row := nearestBestRow, standIns := [], harness := (true, "7b2563da934b634758c4a316496b0e640c6e2e18bf3c7144eea193bc381a2189"), looks := false }, kinds := [], alts := [], laidByText := true, laidKinds := [.data, .data, .data, .data, .pinned], laidTests := true, laidLooks := .later }
def NearestBestCardSaid : Prop := Claim7.holds Tryz.pinned (.plain (OpenSpec.ofChange nearestBestSpec)) nearestBestCard

/-- THE TIED CARD OF 'sosoptlaw28.NearestOwn'. -/
def nearestOwnCard : Claim7 := { stood := { row := nearestOwnRow, standIns := [], harness := (true, "7b2563da934b634758c4a316496b0e640c6e2e18bf3c7144eea193bc381a2189"), looks := false }, kinds := [], alts := [], laidByText := true, laidKinds := [.data, .data, .data, .data, .pinned], laidTests := true, laidLooks := .later }
def NearestOwnCardSaid : Prop := Claim7.holds Tryz.pinned (.plain (OpenSpec.ofChange nearestOwnSpec)) nearestOwnCard

/-- THE TIED CARD OF 'sosoptlaw01.RationalParse'. -/
def rationalParseCard : Claim7 := { stood := { row := rationalParseRow, standIns := [], harness := (true, "7b2563da934b634758c4a316496b0e640c6e2e18bf3c7144eea193bc381a2189"), looks := false }, kinds := [], alts := [], laidByText := true, laidKinds := [.data, .data, .data, .data, .pinned], laidTests := true, laidLooks := .later }
def RationalParseCardSaid : Prop := Claim7.holds Tryz.pinned (.plain (OpenSpec.ofChange rationalParseSpec)) rationalParseCard

/-- THE TIED CARD OF 'sosoptlaw01.RationalArithmetic'. -/
def rationalArithmeticCard : Claim7 := { stood := { row := rationalArithmeticRow, standIns := [], harness := (true, "7b2563da934b634758c4a316496b0e640c6e2e18bf3c7144eea193bc381a2189"), looks := false }, kinds := [], alts := [], laidByText := true, laidKinds := [.data, .data, .data, .data, .pinned], laidTests := true, laidLooks := .later }
def RationalArithmeticCardSaid : Prop := Claim7.holds Tryz.pinned (.plain (OpenSpec.ofChange rationalArithmeticSpec)) rationalArithmeticCard

/-- THE TIED CARD OF 'sosoptlaw01.RationalPow'. -/
def rationalPowCard : Claim7 := { stood := { row := rationalPowRow, standIns := [], harness := (true, "7b2563da934b634758c4a316496b0e640c6e2e18bf3c7144eea193bc381a2189"), looks := false }, kinds := [], alts := [], laidByText := true, laidKinds := [.data, .data, .data, .data, .pinned], laidTests := true, laidLooks := .later }
def RationalPowCardSaid : Prop := Claim7.holds Tryz.pinned (.plain (OpenSpec.ofChange rationalPowSpec)) rationalPowCard

/-- THE TIED CARD OF 'sosoptlaw01.RationalParts'. -/
def rationalPartsCard : Claim7 := { stood := { row := rationalPartsRow, standIns := [], harness := (true, "7b2563da934b634758c4a316496b0e640c6e2e18bf3c7144eea193bc381a2189"), looks := false }, kinds := [], alts := [], laidByText := true, laidKinds := [.data, .data, .data, .data, .pinned], laidTests := true, laidLooks := .later }
def RationalPartsCardSaid : Prop := Claim7.holds Tryz.pinned (.plain (OpenSpec.ofChange rationalPartsSpec)) rationalPartsCard

/-- THE TIED CARD OF 'sosoptlaw01.RationalValid'. -/
def rationalValidCard : Claim7 := { stood := { row := rationalValidRow, standIns := [], harness := (true, "7b2563da934b634758c4a316496b0e640c6e2e18bf3c7144eea193bc381a2189"), looks := false }, kinds := [], alts := [], laidByText := true, laidKinds := [.data, .data, .data, .data, .pinned], laidTests := true, laidLooks := .later }
def RationalValidCardSaid : Prop := Claim7.holds Tryz.pinned (.plain (OpenSpec.ofChange rationalValidSpec)) rationalValidCard

/-- THE TIED CARD OF 'sosoptlaw01.RationalRoots'. -/
def rationalRootsCard : Claim7 := { stood := { row := rationalRootsRow, standIns := [], harness := (true, "7b2563da934b634758c4a316496b0e640c6e2e18bf3c7144eea193bc381a2189"), looks := false }, kinds := [], alts := [], laidByText := true, laidKinds := [.data, .data, .data, .data, .pinned], laidTests := true, laidLooks := .later }
def RationalRootsCardSaid : Prop := Claim7.holds Tryz.pinned (.plain (OpenSpec.ofChange rationalRootsSpec)) rationalRootsCard

/-- THE TIED CARD OF 'sosoptlaw01.RationalRounding'. -/
def rationalRoundingCard : Claim7 := { stood := { row := rationalRoundingRow, standIns := [], harness := (true, "7b2563da934b634758c4a316496b0e640c6e2e18bf3c7144eea193bc381a2189"), looks := false }, kinds := [], alts := [], laidByText := true, laidKinds := [.data, .data, .data, .data, .pinned], laidTests := true, laidLooks := .later }
def RationalRoundingCardSaid : Prop := Claim7.holds Tryz.pinned (.plain (OpenSpec.ofChange rationalRoundingSpec)) rationalRoundingCard

/-- THE SECOND FORM's CARD OF 'sosoptlaw28.NearestSimplest'. -/
def nearestSimplestUptoCard : Claim7 := { stood := { row := nearestSimplestUptoRow, standIns := [], harness := (true, "7b2563da934b634758c4a316496b0e640c6e2e18bf3c7144eea193bc381a2189"), looks := false }, kinds := [], alts := [], laidByText := true, laidKinds := [.data, .data, .data, .data, .pinned], laidTests := true, laidLooks := .later }
def NearestSimplestUptoCardSaid : Prop := Claim7.holds Tryz.pinned (.plain (OpenSpec.upto nearestSimplestSpec)) nearestSimplestUptoCard

/-- THE SECOND FORM's CARD OF 'sosoptlaw28.NearestLeast'. -/
def nearestLeastUptoCard : Claim7 := { stood := { row := nearestLeastUptoRow, standIns := [], harness := (true, "7b2563da934b634758c4a316496b0e640c6e2e18bf3c7144eea193bc381a2189"), looks := false }, kinds := [], alts := [], laidByText := true, laidKinds := [.data, .data, .data, .data, .pinned], laidTests := true, laidLooks := .later }
def NearestLeastUptoCardSaid : Prop := Claim7.holds Tryz.pinned (.plain (OpenSpec.upto nearestLeastSpec)) nearestLeastUptoCard

/-- THE SECOND FORM's CARD OF 'sosoptlaw28.NearestDyadic'. -/
def nearestDyadicUptoCard : Claim7 := { stood := { row := nearestDyadicUptoRow, standIns := [], harness := (true, "7b2563da934b634758c4a316496b0e640c6e2e18bf3c7144eea193bc381a2189"), looks := false }, kinds := [], alts := [], laidByText := true, laidKinds := [.data, .data, .data, .data, .pinned], laidTests := true, laidLooks := .later }
def NearestDyadicUptoCardSaid : Prop := Claim7.holds Tryz.pinned (.plain (OpenSpec.upto nearestDyadicSpec)) nearestDyadicUptoCard

/-- THE SECOND FORM's CARD OF 'sosoptlaw28.NearestConverges'. -/
def nearestConvergesUptoCard : Claim7 := { stood := { row := nearestConvergesUptoRow, standIns := [], harness := (true, "7b2563da934b634758c4a316496b0e640c6e2e18bf3c7144eea193bc381a2189"), looks := false }, kinds := [], alts := [], laidByText := true, laidKinds := [.data, .data, .data, .data, .pinned], laidTests := true, laidLooks := .later }
def NearestConvergesUptoCardSaid : Prop := Claim7.holds Tryz.pinned (.plain (OpenSpec.upto nearestConvergesSpec)) nearestConvergesUptoCard

/-- THE SECOND FORM's CARD OF 'sosoptlaw28.NearestQuotients'. -/
def nearestQuotientsUptoCard : Claim7 := { stood := { row := nearestQuotientsUptoRow, standIns := [], harness := (true, "7b2563da934b634758c4a316496b0e640c6e2e18bf3c7144eea193bc381a2189"), looks := false }, kinds := [], alts := [], laidByText := true, laidKinds := [.data, .data, .data, .data, .pinned], laidTests := true, laidLooks := .later }
def NearestQuotientsUptoCardSaid : Prop := Claim7.holds Tryz.pinned (.plain (OpenSpec.upto nearestQuotientsSpec)) nearestQuotientsUptoCard

/-- THE SECOND FORM's CARD OF 'sosoptlaw28.NearestBest'. -/
def nearestBestUptoCard : Claim7 := { stood := { row := nearestBestUptoRow, standIns := [], harness := (true, "7b2563da934b634758c4a316496b0e640c6e2e18bf3c7144eea193bc381a2189"), looks := false }, kinds := [], alts := [], laidByText := true, laidKinds := [.data, .data, .data, .data, .pinned], laidTests := true, laidLooks := .later }
def NearestBestUptoCardSaid : Prop := Claim7.holds Tryz.pinned (.plain (OpenSpec.upto nearestBestSpec)) nearestBestUptoCard

/-- THE SECOND FORM's CARD OF 'sosoptlaw28.NearestOwn'. -/
def nearestOwnUptoCard : Claim7 := { stood := { row := nearestOwnUptoRow, standIns := [], harness := (true, "7b2563da934b634758c4a316496b0e640c6e2e18bf3c7144eea193bc381a2189"), looks := false }, kinds := [], alts := [], laidByText := true, laidKinds := [.data, .data, .data, .data, .pinned], laidTests := true, laidLooks := .later }
def NearestOwnUptoCardSaid : Prop := Claim7.holds Tryz.pinned (.plain (OpenSpec.upto nearestOwnSpec)) nearestOwnUptoCard

/-- THE SECOND FORM's CARD OF 'sosoptlaw01.RationalParse'. -/
def rationalParseUptoCard : Claim7 := { stood := { row := rationalParseUptoRow, standIns := [], harness := (true, "7b2563da934b634758c4a316496b0e640c6e2e18bf3c7144eea193bc381a2189"), looks := false }, kinds := [], alts := [], laidByText := true, laidKinds := [.data, .data, .data, .data, .pinned], laidTests := true, laidLooks := .later }
def RationalParseUptoCardSaid : Prop := Claim7.holds Tryz.pinned (.plain (OpenSpec.upto rationalParseSpec)) rationalParseUptoCard

/-- THE SECOND FORM's CARD OF 'sosoptlaw01.RationalArithmetic'. -/
def rationalArithmeticUptoCard : Claim7 := { stood := { row := rationalArithmeticUptoRow, standIns := [], harness := (true, "7b2563da934b634758c4a316496b0e640c6e2e18bf3c7144eea193bc381a2189"), looks := false }, kinds := [], alts := [], laidByText := true, laidKinds := [.data, .data, .data, .data, .pinned], laidTests := true, laidLooks := .later }
def RationalArithmeticUptoCardSaid : Prop := Claim7.holds Tryz.pinned (.plain (OpenSpec.upto rationalArithmeticSpec)) rationalArithmeticUptoCard

/-- THE SECOND FORM's CARD OF 'sosoptlaw01.RationalPow'. -/
def rationalPowUptoCard : Claim7 := { stood := { row := rationalPowUptoRow, standIns := [], harness := (true, "7b2563da934b634758c4a316496b0e640c6e2e18bf3c7144eea193bc381a2189"), looks := false }, kinds := [], alts := [], laidByText := true, laidKinds := [.data, .data, .data, .data, .pinned], laidTests := true, laidLooks := .later }
def RationalPowUptoCardSaid : Prop := Claim7.holds Tryz.pinned (.plain (OpenSpec.upto rationalPowSpec)) rationalPowUptoCard

/-- THE SECOND FORM's CARD OF 'sosoptlaw01.RationalParts'. -/
def rationalPartsUptoCard : Claim7 := { stood := { row := rationalPartsUptoRow, standIns := [], harness := (true, "7b2563da934b634758c4a316496b0e640c6e2e18bf3c7144eea193bc381a2189"), looks := false }, kinds := [], alts := [], laidByText := true, laidKinds := [.data, .data, .data, .data, .pinned], laidTests := true, laidLooks := .later }
def RationalPartsUptoCardSaid : Prop := Claim7.holds Tryz.pinned (.plain (OpenSpec.upto rationalPartsSpec)) rationalPartsUptoCard

/-- THE SECOND FORM's CARD OF 'sosoptlaw01.RationalValid'. -/
def rationalValidUptoCard : Claim7 := { stood := { row := rationalValidUptoRow, standIns := [], harness := (true, "7b2563da934b634758c4a316496b0e640c6e2e18bf3c7144eea193bc381a2189"), looks := false }, kinds := [], alts := [], laidByText := true, laidKinds := [.data, .data, .data, .data, .pinned], laidTests := true, laidLooks := .later }
def RationalValidUptoCardSaid : Prop := Claim7.holds Tryz.pinned (.plain (OpenSpec.upto rationalValidSpec)) rationalValidUptoCard

/-- THE SECOND FORM's CARD OF 'sosoptlaw01.RationalRoots'. -/
def rationalRootsUptoCard : Claim7 := { stood := { row := rationalRootsUptoRow, standIns := [], harness := (true, "7b2563da934b634758c4a316496b0e640c6e2e18bf3c7144eea193bc381a2189"), looks := false }, kinds := [], alts := [], laidByText := true, laidKinds := [.data, .data, .data, .data, .pinned], laidTests := true, laidLooks := .later }
def RationalRootsUptoCardSaid : Prop := Claim7.holds Tryz.pinned (.plain (OpenSpec.upto rationalRootsSpec)) rationalRootsUptoCard

/-- THE SECOND FORM's CARD OF 'sosoptlaw01.RationalRounding'. -/
def rationalRoundingUptoCard : Claim7 := { stood := { row := rationalRoundingUptoRow, standIns := [], harness := (true, "7b2563da934b634758c4a316496b0e640c6e2e18bf3c7144eea193bc381a2189"), looks := false }, kinds := [], alts := [], laidByText := true, laidKinds := [.data, .data, .data, .data, .pinned], laidTests := true, laidLooks := .later }
def RationalRoundingUptoCardSaid : Prop := Claim7.holds Tryz.pinned (.plain (OpenSpec.upto rationalRoundingSpec)) rationalRoundingUptoCard
end Rows
end Go.Proofs.YtbamjcfdlgnicaaGreatDoor
