/-
  DERIVED. GIVEN WITH THE SEED: THE CARDS: each row of YtcjhnkmoloiepaaDoorRows.lean that lists a variable, with what it lists TIED to the program's text (the seventh form; the later family's looks); each row that meets fmt, with fmt's text TOLD by the authors' own Lean function (tested against real Go, not proved from fmt's source: count such statements apart). THE CARD IS WHAT COUNTS. Prove the row's statement (the work); the ties are given (YtcjhnkmoloiepaaDoorTie.lean); close each card by the builder's one call (the guide's Derived/Test/ToyasCard.lean, 'card_holds'). Laid BY PROGRAM, IN A SANDBOX (cutbox-door.mjs). By AI agents, Wed Nov 11 2026. No macro, syntax, notation, axiom, sorry.
-/
import Derived.Test.YtcjhnkmoloiepaaDoorRows
import GoSem.ClaimSeven
namespace Go.Proofs.YtcjhnkmoloiepaaDoor
namespace Rows

/-- THE TIED CARD OF 'sosoptlaw02.ModularPrimes'. -/
def modularPrimesCard : Claim7 := { stood := { row := modularPrimesRow, standIns := [], harness := (true, "51621fb6e90be647ab5f10dfd4da5c47e1b6c1d7b00a6b916b070147e1dbabcc"), looks := false }, kinds := [], alts := [], laidByText := true, laidKinds := [.data, .data, .data, .data, .pinned], laidTests := true, laidLooks := .later }
def ModularPrimesCardSaid : Prop := Claim7.holds Tryd.pinned (.plain (OpenSpec.ofChange modularPrimesSpec)) modularPrimesCard

/-- THE TIED CARD OF 'sosoptlaw02.ModularCombinePrimes'. -/
def modularCombinePrimesCard : Claim7 := { stood := { row := modularCombinePrimesRow, standIns := [], harness := (true, "51621fb6e90be647ab5f10dfd4da5c47e1b6c1d7b00a6b916b070147e1dbabcc"), looks := false }, kinds := [], alts := [], laidByText := true, laidKinds := [.data, .data, .data, .data, .pinned], laidTests := true, laidLooks := .later }
def ModularCombinePrimesCardSaid : Prop := Claim7.holds Tryd.pinned (.plain (OpenSpec.ofChange modularCombinePrimesSpec)) modularCombinePrimesCard

/-- THE TIED CARD OF 'sosoptlaw02.ModularSolution'. -/
def modularSolutionCard : Claim7 := { stood := { row := modularSolutionRow, standIns := [], harness := (true, "51621fb6e90be647ab5f10dfd4da5c47e1b6c1d7b00a6b916b070147e1dbabcc"), looks := false }, kinds := [], alts := [], laidByText := true, laidKinds := [.data, .data, .data, .data, .pinned], laidTests := true, laidLooks := .later }
def ModularSolutionCardSaid : Prop := Claim7.holds Tryd.pinned (.plain (OpenSpec.ofChange modularSolutionSpec)) modularSolutionCard

/-- THE SECOND FORM's CARD OF 'sosoptlaw02.ModularPrimes'. -/
def modularPrimesUptoCard : Claim7 := { stood := { row := modularPrimesUptoRow, standIns := [], harness := (true, "51621fb6e90be647ab5f10dfd4da5c47e1b6c1d7b00a6b916b070147e1dbabcc"), looks := false }, kinds := [], alts := [], laidByText := true, laidKinds := [.data, .data, .data, .data, .pinned], laidTests := true, laidLooks := .later }
def ModularPrimesUptoCardSaid : Prop := Claim7.holds Tryd.pinned (.plain (OpenSpec.upto modularPrimesSpec)) modularPrimesUptoCard

/-- THE SECOND FORM's CARD OF 'sosoptlaw02.ModularCombinePrimes'. -/
def modularCombinePrimesUptoCard : Claim7 := { stood := { row := modularCombinePrimesUptoRow, standIns := [], harness := (true, "51621fb6e90be647ab5f10dfd4da5c47e1b6c1d7b00a6b916b070147e1dbabcc"), looks := false }, kinds := [], alts := [], laidByText := true, laidKinds := [.data, .data, .data, .data, .pinned], laidTests := true, laidLooks := .later }
def ModularCombinePrimesUptoCardSaid : Prop := Claim7.holds Tryd.pinned (.plain (OpenSpec.upto modularCombinePrimesSpec)) modularCombinePrimesUptoCard

/-- THE SECOND FORM's CARD OF 'sosoptlaw02.ModularSolution'. -/
def modularSolutionUptoCard : Claim7 := { stood := { row := modularSolutionUptoRow, standIns := [], harness := (true, "51621fb6e90be647ab5f10dfd4da5c47e1b6c1d7b00a6b916b070147e1dbabcc"), looks := false }, kinds := [], alts := [], laidByText := true, laidKinds := [.data, .data, .data, .data, .pinned], laidTests := true, laidLooks := .later }
def ModularSolutionUptoCardSaid : Prop := Claim7.holds Tryd.pinned (.plain (OpenSpec.upto modularSolutionSpec)) modularSolutionUptoCard
end Rows
end Go.Proofs.YtcjhnkmoloiepaaDoor
