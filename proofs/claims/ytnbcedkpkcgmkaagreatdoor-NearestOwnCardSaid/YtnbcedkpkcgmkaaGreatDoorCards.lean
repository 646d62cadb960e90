/-
  DERIVED. GIVEN WITH THE SEED: THE CARDS: each row of YtnbcedkpkcgmkaaGreatDoorRows.lean that lists a variable, with what it lists TIED to the program's text (the seventh form; the later family's looks); each row that meets fmt, with fmt's text TOLD by the authors' own Lean function (tested against real Go, not proved from fmt's source: count such statements apart). THE CARD IS WHAT COUNTS. Prove the row's statement (the work); the ties are given (YtnbcedkpkcgmkaaGreatDoorTie.lean); close each card by the builder's one call (the guide's Derived/Test/ToyasCard.lean, 'card_holds'). Laid BY PROGRAM, IN A SANDBOX (cutbox-door.mjs). By AI agents, Wed Nov 11 2026. No macro, syntax, notation, axiom, sorry.
-/
import Derived.Test.YtnbcedkpkcgmkaaGreatDoorRows
import GoSem.ClaimSeven
namespace Go.Proofs.YtnbcedkpkcgmkaaGreatDoor
namespace Rows

/-- THE TIED CARD OF 'sosoptlaw28.NearestDyadic'. -/
def nearestDyadicCard : Claim7 := { stood := { row := nearestDyadicRow, standIns := [], harness := (true, "62a7f11d6e76e26ba9297c0369bb2e207de905a7969b5b191a3e4a957e4542fe"), looks := false }, kinds := [], alts := [], laidByText := true, laidKinds := [.data, .data, .data, .data, .pinned], laidTests := true, laidLooks := .later }
def NearestDyadicCardSaid : Prop := Claim7.holds Tryz.pinned (.plain (OpenSpec.ofChange nearestDyadicSpec)) nearestDyadicCard

/-- THE TIED CARD OF 'sosoptlaw28.NearestConverges'. -/
def nearestConvergesCard : Claim7 := { stood := { row := nearestConvergesRow, standIns := [], harness := (true, "62a7f11d6e76e26ba9297c0369bb2e207de905a7969b5b191a3e4a957e4542fe"), looks := false }, kinds := [], alts := [], laidByText := true, laidKinds := [.data, .data, .data, .data, .pinned], laidTests := true, laidLooks := .later }
def NearestConvergesCardSaid : Prop := Claim7.holds Tryz.pinned (.plain (OpenSpec.ofChange nearestConvergesSpec)) nearestConvergesCard

/-- THE TIED CARD OF 'sosoptlaw28.NearestQuotients'. -/
def nearestQuotientsCard : Claim7 := { stood := { row := nearestQuotientsRow, standIns := [], harness := (true, "62a7f11d6e76e26ba9297c0369bb2e207de905a7969b5b191a3e4a957e4542fe"), looks := false }, kinds := [], alts := [], laidByText := true, laidKinds := [.data, .data, .data, .data, .pinned], laidTests := true, laidLooks := .later }
def NearestQuotientsCardSaid : Prop := Claim7.holds Tryz.pinned (.plain (OpenSpec.ofChange nearestQuotientsSpec)) nearestQuotientsCard

/-- THE TIED CARD OF 'sosoptlaw28.NearestBest'. -/
def nearestBestCard : Claim7 := { stood := { row := nearestBestRow, standIns := [], harness := (true, "62a7f11d6e76e26ba9297c0369bb2e207de905a7969b5b191a3e4a957e4542fe"), looks := false }, kinds := [], alts := [], laidByText := true, laidKinds := [.data, .data, .data, .data, .pinned], laidTests := true, laidLooks := .later }
def NearestBestCardSaid : Prop := Claim7.holds Tryz.pinned (.plain (OpenSpec.ofChange nearestBestSpec)) nearestBestCard

/-- THE TIED CARD OF 'sosoptlaw28.NearestOwn'. -/
def nearestOwnCard : Claim7 := { stood := { row := nearestOwnRow, standIns := [], harness := (true, "62a7f11d6e76e26ba9297c0369bb2e207de905a7969b5b191a3e4a957e4542fe"), looks := false }, kinds := [], alts := [], laidByText := true, laidKinds := [.data, .data, .data, .data, .pinned], laidTests := true, laidLooks := .later }
def NearestOwnCardSaid : Prop := Claim7.holds Tryz.pinned (.plain (OpenSpec.ofChange nearestOwnSpec)) nearestOwnCard

/-- THE TIED CARD OF 'sosoptlaw01.RationalParse'. -/
def rationalParseCard : Claim7 := { stood := { row := rationalParseRow, standIns := [], harness := (true, "62a7f11d6e76e26ba9297c0369bb2e207de905a7969b5b191a3e4a957e4542fe"), looks := false }, kinds := [], alts := [], laidByText := true, laidKinds := [.data, .data, .data, .data, .pinned], laidTests := true, laidLooks := .later }
def RationalParseCardSaid : Prop := Claim7.holds Tryz.pinned (.plain (OpenSpec.ofChange rationalParseSpec)) rationalParseCard

/-- THE SECOND FORM's CARD OF 'sosoptlaw28.NearestDyadic'. -/
def nearestDyadicUptoCard : Claim7 := { stood := { row := nearestDyadicUptoRow, standIns := [], harness := (true, "62a7f11d6e76e26ba9297c0369bb2e207de905a7969b5b191a3e4a957e4542fe"), looks := false }, kinds := [], alts := [], laidByText := true, laidKinds := [.data, .data, .data, .data, .pinned], laidTests := true, laidLooks := .later }
def NearestDyadicUptoCardSaid : Prop := Claim7.holds Tryz.pinned (.plain (OpenSpec.upto nearestDyadicSpec)) nearestDyadicUptoCard

/-- THE SECOND FORM's CARD OF 'sosoptlaw28.NearestConverges'. -/
def nearestConvergesUptoCard : Claim7 := { stood := { row := nearestConvergesUptoRow, standIns := [], harness := (true, "62a7f11d6e76e26ba9297c0369bb2e207de905a7969b5b191a3e4a957e4542fe"), looks := false }, kinds := [], alts := [], laidByText := true, laidKinds := [.data, .data, .data, .data, .pinned], laidTests := true, laidLooks := .later }
def NearestConvergesUptoCardSaid : Prop := Claim7.holds Tryz.pinned (.plain (OpenSpec.upto nearestConvergesSpec)) nearestConvergesUptoCard

/-- THE SECOND FORM's CARD OF 'sosoptlaw28.NearestQuotients'. -/
def nearestQuotientsUptoCard : Claim7 := { stood := { row := nearestQuotientsUptoRow, standIns := [], harness := (true, "62a7f11d6e76e26ba9297c0369bb2e207de905a7969b5b191a3e4a957e4542fe"), looks := false }, kinds := [], alts := [], laidByText := true, laidKinds := [.data, .data, .data, .data, .pinned], laidTests := true, laidLooks := .later }
def NearestQuotientsUptoCardSaid : Prop := Claim7.holds Tryz.pinned (.plain (OpenSpec.upto nearestQuotientsSpec)) nearestQuotientsUptoCard

/-- THE SECOND FORM's CARD OF 'sosoptlaw28.NearestBest'. -/
def nearestBestUptoCard : Claim7 := { stood := { row := nearestBestUptoRow, standIns := [], harness := (true, "62a7f11d6e76e26ba9297c0369bb2e207de905a7969b5b191a3e4a957e4542fe"), looks := false }, kinds := [], alts := [], laidByText := true, laidKinds := [.data, .data, .data, .data, .pinned], laidTests := true, laidLooks := .later }
def NearestBestUptoCardSaid : Prop := Claim7.holds Tryz.pinned (.plain (OpenSpec.upto nearestBestSpec)) nearestBestUptoCard

/-- THE SECOND FORM's CARD OF 'sosoptlaw28.NearestOwn'. -/
def nearestOwnUptoCard : Claim7 := { stood := { row := nearestOwnUptoRow, standIns := [], harness := (true, "62a7f11d6e76e26ba9297c0369bb2e207de905a7969b5b191a3e4a957e4542fe"), looks := false }, kinds := [], alts := [], laidByText := true, laidKinds := [.data, .data, .data, .data, .pinned], laidTests := true, laidLooks := .later }
def NearestOwnUptoCardSaid : Prop := Claim7.holds Tryz.pinned (.plain (OpenSpec.upto nearestOwnSpec)) nearestOwnUptoCard

/-- THE SECOND FORM's CARD OF 'sosoptlaw01.RationalParse'. -/
def rationalParseUptoCard : Claim7 := { stood := { row := rationalParseUptoRow, standIns := [], harness := (true, "62a7f11d6e76e26ba9297c0369bb2e207de905a7969b5b191a3e4a957e4542fe"), looks := false }, kinds := [], alts := [], laidByText := true, laidKinds := [.data, .data, .data, .data, .pinned], laidTests := true, laidLooks := .later }
def RationalParseUptoCardSaid : Prop := Claim7.holds Tryz.pinned (.plain (OpenSpec.upto rationalParseSpec)) rationalParseUptoCard
end Rows
end Go.Proofs.YtnbcedkpkcgmkaaGreatDoor
