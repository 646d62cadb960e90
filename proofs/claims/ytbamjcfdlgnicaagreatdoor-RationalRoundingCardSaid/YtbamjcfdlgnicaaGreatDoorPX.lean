/- Roots and gcds of fractions, as the reference computes them. -/
import Derived.Test.YtbamjcfdlgnicaaGreatDoorQX
import Derived.Test.YtbamjcfdlgnicaaGreatDoorQ3
namespace Go.Proofs.Vc
open Go
theorem gcd_lenH {g : Mem} {ng : Bool} {A : Option Addr} {n : Nat} {r x : Rat} (h : IsZ g ng A n ((Nat.gcd (r.num * (x.den : Int)).natAbs (x.num * (r.den : Int)).natAbs : Nat) : Int)) (hr : FitH r) (hx : FitH x) : n ≤ 8796093022206 := by
  obtain ⟨k, hk⟩ : ∃ k, k = 1099511627776 := ⟨_, rfl⟩
  unfold FitH at hr hx
  rw [← hk] at hr hx
  have h9 : n ≤ k + k := h.len (by
    rw [Int.natAbs_natCast, Int.natAbs_mul, Int.natAbs_mul]
    rcases Nat.eq_zero_or_pos (r.num.natAbs * (x.den : Int).natAbs) with h0 | h0
    · rw [h0, Nat.gcd_zero_left]
      exact hprodLt hx.1 hr.2
    · exact Nat.lt_of_le_of_lt (Nat.gcd_le_left _ h0) (hprodLt hr.1 hx.2))
  omega
theorem gcd_frac (r x : Rat) : Rat.divInt ((Nat.gcd (r.num * (x.den : Int)).natAbs (x.num * (r.den : Int)).natAbs : Nat) : Int) ((r.den : Int) * (x.den : Int)) = gcdR r x := by
  rw [divInt_nat, Int.natAbs_mul, Int.natAbs_mul, Int.natAbs_natCast, Int.natAbs_natCast]
  rfl
theorem sqr_num {r : Rat} (h : SqR r) : (((isq r.num.natAbs : Nat) : Int) * ((isq r.num.natAbs : Nat) : Int) - r.num).sign = 0 := by
  have h1 := h.1
  have h2 := h.2.1
  rw [← Int.natCast_mul, h2, Int.natAbs_of_nonneg h1, Int.sub_self]
  rfl
theorem sqr_den {r : Rat} (h : SqR r) : (((isq r.den : Nat) : Int) * ((isq r.den : Nat) : Int) - (r.den : Int)).sign = 0 := by
  rw [← Int.natCast_mul, h.2.2, Int.sub_self]
  rfl
theorem sqr_mk {r : Rat} (h : 0 ≤ r.num) (h1 : (((isq r.num.natAbs : Nat) : Int) * ((isq r.num.natAbs : Nat) : Int) - r.num).sign = 0) (h2 : (((isq r.den : Nat) : Int) * ((isq r.den : Nat) : Int) - (r.den : Int)).sign = 0) : SqR r := by
  have e1 := Int.sign_eq_zero_iff_zero.1 h1
  have e2 := Int.sign_eq_zero_iff_zero.1 h2
  rw [← Int.natCast_mul] at e1 e2
  exact ⟨h, by omega, by omega⟩
theorem root_divInt {r : Rat} (h : SqR r) : Rat.divInt ((isq r.num.natAbs : Nat) : Int) ((isq r.den : Nat) : Int) = rootR r := by
  unfold rootR
  rw [if_pos h, ← Nat.mul_one (isq r.den), Int.natCast_mul, divInt_nat]
theorem rpow_add (r : Rat) (m n : Nat) : r ^ (m + n) = r ^ m * r ^ n := by
  induction n with
  | zero => rw [Nat.add_zero, Rat.pow_zero, Rat.mul_one]
  | succ n ih => rw [← Nat.add_assoc, Rat.pow_succ, Rat.pow_succ, ih, Rat.mul_assoc]
end Go.Proofs.Vc
