/-
  DERIVED. GIVEN WITH THE SEED: THE CARDS: each row of YtbamjcfdlgnicaaDoorRows.lean that lists a variable, with what it lists TIED to the program's text (the seventh form; the later family's looks); each row that meets fmt, with fmt's text TOLD by the authors' own Lean function (tested against real Go, not proved from fmt's source: count such statements apart). THE CARD IS WHAT COUNTS. Prove the row's statement (the work); the ties are given (YtbamjcfdlgnicaaDoorTie.lean); close each card by the builder's one call (the guide's Derived/Test/ToyasCard.lean, 'card_holds'). Laid BY PROGRAM, IN A SANDBOX (cutbox-door.mjs). By AI agents, Wed Nov 11 2026. No macro, syntax, notation, axiom, sorry.
-/
import Derived.Test.YtbamjcfdlgnicaaDoorRows
import GoSem.ClaimSeven
namespace Go.Proofs.YtbamjcfdlgnicaaDoor
namespace Rows

/-- THE TIED CARD OF 'sosoptlaw01.RationalLong'. -/
def rationalLongCard : Claim7 := { stood := { row := rationalLongRow, standIns := [], harness := (true, "5f93413dd4df8c84d781d21756271a38681ce66d8542c9334634fe4d529e7e54"), looks := false }, kinds := [], alts := [], laidByText := true, laidKinds := [.data, .data, .data, .data, .pinned], laidTests := true, laidLooks := .later }
def RationalLongCardSaid : Prop := Claim7.holds Tryd.pinned (.plain (OpenSpec.ofChange rationalLongSpec)) rationalLongCard

/-- THE TIED CARD OF 'sosoptlaw01.RationalField'. -/
def rationalFieldCard : Claim7 := { stood := { row := rationalFieldRow, standIns := [], harness := (true, "5f93413dd4df8c84d781d21756271a38681ce66d8542c9334634fe4d529e7e54"), looks := false }, kinds := [], alts := [], laidByText := true, laidKinds := [.data, .data, .data, .data, .pinned], laidTests := true, laidLooks := .later }
def RationalFieldCardSaid : Prop := Claim7.holds Tryd.pinned (.plain (OpenSpec.ofChange rationalFieldSpec)) rationalFieldCard

/-- THE TIED CARD OF 'sosoptlaw01.RationalGCD'. -/
def rationalGCDCard : Claim7 := { stood := { row := rationalGCDRow, standIns := [], harness := (true, "5f93413dd4df8c84d781d21756271a38681ce66d8542c9334634fe4d529e7e54"), looks := false }, kinds := [], alts := [], laidByText := true, laidKinds := [.data, .data, .data, .data, .pinned], laidTests := true, laidLooks := .later }
def RationalGCDCardSaid : Prop := Claim7.holds Tryd.pinned (.plain (OpenSpec.ofChange rationalGCDSpec)) rationalGCDCard

/-- THE SECOND FORM's CARD OF 'sosoptlaw01.RationalLong'. -/
def rationalLongUptoCard : Claim7 := { stood := { row := rationalLongUptoRow, standIns := [], harness := (true, "5f93413dd4df8c84d781d21756271a38681ce66d8542c9334634fe4d529e7e54"), looks := false }, kinds := [], alts := [], laidByText := true, laidKinds := [.data, .data, .data, .data, .pinned], laidTests := true, laidLooks := .later }
def RationalLongUptoCardSaid : Prop := Claim7.holds Tryd.pinned (.plain (OpenSpec.upto rationalLongSpec)) rationalLongUptoCard

/-- THE SECOND FORM's CARD OF 'sosoptlaw01.RationalField'. -/
def rationalFieldUptoCard : Claim7 := { stood := { row := rationalFieldUptoRow, standIns := [], harness := (true, "5f93413dd4df8c84d781d21756271a38681ce66d8542c9334634fe4d529e7e54"), looks := false }, kinds := [], alts := [], laidByText := true, laidKinds := [.data, .data, .data, .data, .pinned], laidTests := true, laidLooks := .later }
def RationalFieldUptoCardSaid : Prop := Claim7.holds Tryd.pinned (.plain (OpenSpec.upto rationalFieldSpec)) rationalFieldUptoCard

/-- THE SECOND FORM's CARD OF 'sosoptlaw01.RationalGCD'. -/
def rationalGCDUptoCard : Claim7 := { stood := { row := rationalGCDUptoRow, standIns := [], harness := (true, "5f93413dd4df8c84d781d21756271a38681ce66d8542c9334634fe4d529e7e54"), looks := false }, kinds := [], alts := [], laidByText := true, laidKinds := [.data, .data, .data, .data, .pinned], laidTests := true, laidLooks := .later }
def RationalGCDUptoCardSaid : Prop := Claim7.holds Tryd.pinned (.plain (OpenSpec.upto rationalGCDSpec)) rationalGCDUptoCard
end Rows
end Go.Proofs.YtbamjcfdlgnicaaDoor
