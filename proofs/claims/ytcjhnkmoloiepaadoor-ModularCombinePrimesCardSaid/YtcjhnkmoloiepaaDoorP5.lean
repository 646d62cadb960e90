/- Rows of ints that grow; thirteen prime numbers. No program occurs here. -/
import Derived.Test.YtcjhnkmoloiepaaDoorP4
import Derived.Test.YtcjhnkmoloiepaaDoorCY
namespace Go.Proofs.Vc
open Go Go.RowKit
set_option linter.unusedVariables false
def IntC (g : Mem) (c : List Value) (z : Int) : Prop := c = [.int .i64 z] ∧ I64z z
theorem IntC.mono : MonoR IntC := fun _ _ _ _ _ h => h
theorem SlR.ints {g : Mem} {A : Option Addr} {n : Nat} {l : List Int} (h : SlR IntC 1 g A n l) : IntL g A n l := by
  have key : ∀ z ∈ l, I64z z := fun z hz => by
    obtain ⟨j, hj⟩ := List.mem_iff_getElem?.1 hz
    have hjl := (List.getElem?_eq_some_iff.1 hj).1
    rw [h.1] at hjl
    obtain ⟨_, _, x, c, _, hx, _, hR, _⟩ := h.cell hjl
    rw [hx] at hj
    rw [← Option.some.inj hj]
    exact hR.2
  refine ⟨h.1, key, h.2.imp id fun ⟨b, off, e, hc⟩ => ⟨b, off, e, fun j z hj => ?_⟩⟩
  obtain ⟨c, h1, ⟨h2, _⟩, h3⟩ := hc j z hj
  have := h3 0 (.int .i64 z) (by rw [h2]; rfl)
  rwa [Nat.mul_one, Nat.add_zero] at this
def PL : List Int := [1000003, 1000033, 1000037, 1000039, 1000081, 1000099, 1000117, 1000121, 1000133, 1000151, 1000159, 1000171, 1000183]
def PLf (i : Nat) : Int := PL.getD i 0
theorem PL_prm : ∀ i, i < 13 → Prm (PLf i) := by
  intro i hi
  have key : ∀ j, j < 13 → ∃ n : Nat, PLf j = (n : Int) ∧ 2 ≤ n ∧ n ≤ 2147483647 ∧ n < 1001 * 1001 ∧ noDiv n 1001 = true := by
    intro j hj
    refine ⟨(PLf j).toNat, ?_⟩
    have h : ∀ j, j < 13 → (PLf j = (((PLf j).toNat : Nat) : Int) ∧ 2 ≤ (PLf j).toNat ∧ (PLf j).toNat ≤ 2147483647 ∧ (PLf j).toNat < 1001 * 1001 ∧ noDiv (PLf j).toNat 1001 = true) := by decide +kernel
    exact h j hj
  obtain ⟨n, h1, h2, h3, h4, h5⟩ := key i hi
  rw [h1]
  exact prm_of h2 h3 h4 h5
theorem PL_up : ∀ i, i < 12 → PLf i < PLf (i + 1) := by decide +kernel
theorem PL_big : ∀ i, i < 13 → PLf i ≤ 1000183 := by decide +kernel
theorem next_le {n p q : Int} (h : NextIs n p) (hq : Prm q) (hn : n < q) : p ≤ q := by
  rcases Int.lt_or_le q p with h1 | h1
  · exact absurd hq (h.2.2 q hn h1)
  · exact h1
end Go.Proofs.Vc
