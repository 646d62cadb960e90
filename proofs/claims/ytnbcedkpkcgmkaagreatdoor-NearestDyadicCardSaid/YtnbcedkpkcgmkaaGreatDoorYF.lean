/- The table of TrailingZeros64 out of a row's condition. -/
import Derived.Test.YtnbcedkpkcgmkaaGreatDoorQ3
import Derived.Test.YtnbcedkpkcgmkaaGreatDoorFZ
namespace Go.Proofs.Vc
open Go Go.RowKit
set_option linter.unusedVariables false
def tz64I : List Int := [0, 1, 56, 2, 57, 49, 28, 3, 61, 58, 42, 50, 38, 29, 17, 4, 62, 47, 59, 36, 45, 43, 51, 22, 53, 39, 33, 30, 24, 18, 12, 5, 63, 55, 48, 27, 60, 41, 37, 16, 46, 35, 44, 21, 52, 32, 23, 11, 54, 26, 40, 15, 34, 20, 31, 10, 25, 14, 19, 9, 13, 8, 7, 6]
theorem tz64_at : ∀ j, j < 64 → tz64I.getD j 0 = ((Lib.deBruijn64tab.getD j 0 : Nat) : Int) := by decide +kernel
theorem gAll_tz {P : Program} {W : World} (hg : P.globalNamed "math/bits.deBruijn64tab" = some 0) (h : Lib.TabIs P W "math/bits.deBruijn64tab" .u8 tz64I) : TzG (gAll W) := by
  intro w hw j hj
  have hj64 : j < 64 := hj
  have h1 := h.cell hg j hj64
  rw [tz64_at j hj64] at h1
  exact hw.cell (gAll_cell h1)
end Go.Proofs.Vc
