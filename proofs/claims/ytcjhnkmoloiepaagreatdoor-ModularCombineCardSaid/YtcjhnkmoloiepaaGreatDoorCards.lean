/-
  DERIVED. GIVEN WITH THE SEED: THE CARDS: each row of YtcjhnkmoloiepaaGreatDoorRows.lean that lists a variable, with what it lists TIED to the program's text (the seventh form; the later family's looks); each row that meets fmt, with fmt's text TOLD by the authors' own Lean function (tested against real Go, not proved from fmt's source: count such statements apart). THE CARD IS WHAT COUNTS. Prove the row's statement (the work); the ties are given (YtcjhnkmoloiepaaGreatDoorTie.lean); close each card by the builder's one call (the guide's Derived/Test/ToyasCard.lean, 'card_holds'). Laid BY PROGRAM, IN A SANDBOX (cutbox-door.mjs). By AI agents, Wed Nov 11 2026. No macro, syntax, notation, axiom, sorry.
-/
import Derived.Test.YtcjhnkmoloiepaaGreatDoorRows
import GoSem.ClaimSeven
namespace Go.Proofs.YtcjhnkmoloiepaaGreatDoor
namespace Rows

/-- THE TIED CARD OF 'sosoptlaw02.ModularInverse'. -/
def modularInverseCard : Claim7 := { stood := { row := modularInverseRow, standIns := [], harness := (true, "9867d4abc8c7e4391ef89fccfb7aee26fd16d5ae6a80eaff965be7fff48c74cc"), looks := false }, kinds := [], alts := [], laidByText := true, laidKinds := [.data, .data, .data, .data, .pinned], laidTests := true, laidLooks := .later }
def ModularInverseCardSaid : Prop := Claim7.holds Tryz.pinned (.plain (OpenSpec.ofChange modularInverseSpec)) modularInverseCard

/-- THE TIED CARD OF 'sosoptlaw02.ModularNumbers'. -/
def modularNumbersCard : Claim7 := { stood := { row := modularNumbersRow, standIns := [], harness := (true, "9867d4abc8c7e4391ef89fccfb7aee26fd16d5ae6a80eaff965be7fff48c74cc"), looks := false }, kinds := [], alts := [], laidByText := true, laidKinds := [.data, .data, .data, .data, .pinned], laidTests := true, laidLooks := .later }
def ModularNumbersCardSaid : Prop := Claim7.holds Tryz.pinned (.plain (OpenSpec.ofChange modularNumbersSpec)) modularNumbersCard

/-- THE TIED CARD OF 'sosoptlaw02.ModularReduceField'. -/
def modularReduceFieldCard : Claim7 := { stood := { row := modularReduceFieldRow, standIns := [], harness := (true, "9867d4abc8c7e4391ef89fccfb7aee26fd16d5ae6a80eaff965be7fff48c74cc"), looks := false }, kinds := [], alts := [], laidByText := true, laidKinds := [.data, .data, .data, .data, .pinned], laidTests := true, laidLooks := .later }
def ModularReduceFieldCardSaid : Prop := Claim7.holds Tryz.pinned (.plain (OpenSpec.ofChange modularReduceFieldSpec)) modularReduceFieldCard

/-- THE TIED CARD OF 'sosoptlaw02.ModularCombine'. -/
def modularCombineCard : Claim7 := { stood := { row := modularCombineRow, standIns := [], harness := (true, "9867d4abc8c7e4391ef89fccfb7aee26fd16d5ae6a80eaff965be7fff48c74cc"), looks := false }, kinds := [], alts := [], laidByText := true, laidKinds := [.data, .data, .data, .data, .pinned], laidTests := true, laidLooks := .later }
def ModularCombineCardSaid : Prop := Claim7.holds Tryz.pinned (.plain (OpenSpec.ofChange modularCombineSpec)) modularCombineCard

/-- THE TIED CARD OF 'sosoptlaw02.ModularReconstruct'. -/
def modularReconstructCard : Claim7 := { stood := { row := modularReconstructRow, standIns := [], harness := (true, "9867d4abc8c7e4391ef89fccfb7aee26fd16d5ae6a80eaff965be7fff48c74cc"), looks := false }, kinds := [], alts := [], laidByText := true, laidKinds := [.data, .data, .data, .data, .pinned], laidTests := true, laidLooks := .later }
def ModularReconstructCardSaid : Prop := Claim7.holds Tryz.pinned (.plain (OpenSpec.ofChange modularReconstructSpec)) modularReconstructCard

/-- THE TIED CARD OF 'sosoptlaw02.ModularRoundTrip'. -/
def modularRoundTripCard : Claim7 := { stood := { row := modularRoundTripRow, standIns := [], harness := (true, "9867d4abc8c7e4391ef89fccfb7aee26fd16d5ae6a80eaff965be7fff48c74cc"), looks := false }, kinds := [], alts := [], laidByText := true, laidKinds := [.data, .data, .data, .data, .pinned], laidTests := true, laidLooks := .later }
def ModularRoundTripCardSaid : Prop := Claim7.holds Tryz.pinned (.plain (OpenSpec.ofChange modularRoundTripSpec)) modularRoundTripCard

/-- THE TIED CARD OF 'sosoptlaw02.ModularMatrices'. -/
def modularMatricesCard : Claim7 := { stood := { row := modularMatricesRow, standIns := [], harness := (true, "9867d4abc8c7e4391ef89fccfb7aee26fd16d5ae6a80eaff965be7fff48c74cc"), looks := false }, kinds := [], alts := [], laidByText := true, laidKinds := [.data, .data, .data, .data, .pinned], laidTests := true, laidLooks := .later }
def ModularMatricesCardSaid : Prop := Claim7.holds Tryz.pinned (.plain (OpenSpec.ofChange modularMatricesSpec)) modularMatricesCard

/-- THE SECOND FORM's CARD OF 'sosoptlaw02.ModularInverse'. -/
def modularInverseUptoCard : Claim7 := { stood := { row := modularInverseUptoRow, standIns := [], harness := (true, "9867d4abc8c7e4391ef89fccfb7aee26fd16d5ae6a80eaff965be7fff48c74cc"), looks := false }, kinds := [], alts := [], laidByText := true, laidKinds := [.data, .data, .data, .data, .pinned], laidTests := true, laidLooks := .later }
def ModularInverseUptoCardSaid : Prop := Claim7.holds Tryz.pinned (.plain (OpenSpec.upto modularInverseSpec)) modularInverseUptoCard

/-- THE SECOND FORM's CARD OF 'sosoptlaw02.ModularNumbers'. -/
def modularNumbersUptoCard : Claim7 := { stood := { row := modularNumbersUptoRow, standIns := [], harness := (true, "9867d4abc8c7e4391ef89fccfb7aee26fd16d5ae6a80eaff965be7fff48c74cc"), looks := false }, kinds := [], alts := [], laidByText := true, laidKinds := [.data, .data, .data, .data, .pinned], laidTests := true, laidLooks := .later }
def ModularNumbersUptoCardSaid : Prop := Claim7.holds Tryz.pinned (.plain (OpenSpec.upto modularNumbersSpec)) modularNumbersUptoCard

/-- THE SECOND FORM's CARD OF 'sosoptlaw02.ModularReduceField'. -/
def modularReduceFieldUptoCard : Claim7 := { stood := { row := modularReduceFieldUptoRow, standIns := [], harness := (true, "9867d4abc8c7e4391ef89fccfb7aee26fd16d5ae6a80eaff965be7fff48c74cc"), looks := false }, kinds := [], alts := [], laidByText := true, laidKinds := [.data, .data, .data, .data, .pinned], laidTests := true, laidLooks := .later }
def ModularReduceFieldUptoCardSaid : Prop := Claim7.holds Tryz.pinned (.plain (OpenSpec.upto modularReduceFieldSpec)) modularReduceFieldUptoCard

/-- THE SECOND FORM's CARD OF 'sosoptlaw02.ModularCombine'. -/
def modularCombineUptoCard : Claim7 := { stood := { row := modularCombineUptoRow, standIns := [], harness := (true, "9867d4abc8c7e4391ef89fccfb7aee26fd16d5ae6a80eaff965be7fff48c74cc"), looks := false }, kinds := [], alts := [], laidByText := true, laidKinds := [.data, .data, .data, .data, .pinned], laidTests := true, laidLooks := .later }
def ModularCombineUptoCardSaid : Prop := Claim7.holds Tryz.pinned (.plain (OpenSpec.upto modularCombineSpec)) modularCombineUptoCard

/-- THE SECOND FORM's CARD OF 'sosoptlaw02.ModularReconstruct'. -/
def modularReconstructUptoCard : Claim7 := { stood := { row := modularReconstructUptoRow, standIns := [], harness := (true, "9867d4abc8c7e4391ef89fccfb7aee26fd16d5ae6a80eaff965be7fff48c74cc"), looks := false }, kinds := [], alts := [], laidByText := true, laidKinds := [.data, .data, .data, .data, .pinned], laidTests := true, laidLooks := .later }
def ModularReconstructUptoCardSaid : Prop := Claim7.holds Tryz.pinned (.plain (OpenSpec.upto modularReconstructSpec)) modularReconstructUptoCard

/-- THE SECOND FORM's CARD OF 'sosoptlaw02.ModularRoundTrip'. -/
def modularRoundTripUptoCard : Claim7 := { stood := { row := modularRoundTripUptoRow, standIns := [], harness := (true, "9867d4abc8c7e4391ef89fccfb7aee26fd16d5ae6a80eaff965be7fff48c74cc"), looks := false }, kinds := [], alts := [], laidByText := true, laidKinds := [.data, .data, .data, .data, .pinned], laidTests := true, laidLooks := .later }
def ModularRoundTripUptoCardSaid : Prop := Claim7.holds Tryz.pinned (.plain (OpenSpec.upto modularRoundTripSpec)) modularRoundTripUptoCard

/-- THE SECOND FORM's CARD OF 'sosoptlaw02.ModularMatrices'. -/
def modularMatricesUptoCard : Claim7 := { stood := { row := modularMatricesUptoRow, standIns := [], harness := (true, "9867d4abc8c7e4391ef89fccfb7aee26fd16d5ae6a80eaff965be7fff48c74cc"), looks := false }, kinds := [], alts := [], laidByText := true, laidKinds := [.data, .data, .data, .data, .pinned], laidTests := true, laidLooks := .later }
def ModularMatricesUptoCardSaid : Prop := Claim7.holds Tryz.pinned (.plain (OpenSpec.upto modularMatricesSpec)) modularMatricesUptoCard
end Rows
end Go.Proofs.YtcjhnkmoloiepaaGreatDoor
