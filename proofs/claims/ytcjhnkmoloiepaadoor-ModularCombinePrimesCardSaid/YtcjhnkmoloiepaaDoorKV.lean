/- Slices of int in memory; the tape. No program occurs here. -/
import Derived.Test.YtcjhnkmoloiepaaDoorQ2
import Derived.Test.YtcjhnkmoloiepaaDoorQ3
namespace Go.Proofs.Vc
open Go Go.RowKit
set_option linter.unusedVariables false
/-- a slice of n ints whose cells are kept -/
def IntS (g : Mem) (A : Option Addr) (n : Nat) : Prop := n = 0 ∨ ∃ b off, A = some ⟨b, off, none⟩ ∧ ∀ j, j < n → ∃ z, gcell g b (off + j) = some (.int .i64 z) ∧ -9223372036854775808 ≤ z ∧ z ≤ 9223372036854775807
theorem IntS.mono {g g' : Mem} {A : Option Addr} {n : Nat} (h : IntS g A n) (hle : g.le g') : IntS g' A n :=
  h.imp id fun ⟨b, off, e, hc⟩ => ⟨b, off, e, fun j hj => by
    obtain ⟨z, h1, h2⟩ := hc j hj
    exact ⟨z, gcell_le hle h1, h2⟩⟩
theorem IntS.less {g : Mem} {A : Option Addr} {n m : Nat} (h : IntS g A n) (hm : m ≤ n) : IntS g A m := by
  rcases h with h | ⟨b, off, e, hc⟩
  · exact .inl (by omega)
  · exact .inr ⟨b, off, e, fun j hj => hc j (by omega)⟩
theorem IntS.cell {g : Mem} {A : Option Addr} {n j : Nat} (h : IntS g A n) (hj : j < n) : ∃ b off z, A = some ⟨b, off, none⟩ ∧ gcell g b (off + j) = some (.int .i64 z) ∧ -9223372036854775808 ≤ z ∧ z ≤ 9223372036854775807 := by
  rcases h with h | ⟨b, off, e, hc⟩
  · omega
  · obtain ⟨z, h1, h2⟩ := hc j hj
    exact ⟨b, off, z, e, h1, h2⟩
theorem tmod_bounds {z : Int} {m : Nat} (hm : 0 < m) : -(m : Int) < z.tmod (m : Int) ∧ z.tmod (m : Int) < (m : Int) := by
  have h5 := Int.emod_nonneg z (show (m : Int) ≠ 0 by omega)
  have h6 := Int.emod_lt_of_pos z (show (0 : Int) < (m : Int) by omega)
  rw [Int.tmod_eq_emod]
  split
  · exact ⟨by omega, by omega⟩
  · exact ⟨by omega, by omega⟩
end Go.Proofs.Vc
