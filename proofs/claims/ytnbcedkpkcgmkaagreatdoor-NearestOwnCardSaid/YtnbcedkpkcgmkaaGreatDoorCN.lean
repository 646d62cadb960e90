/- Small limits. No program occurs here. -/
import Derived.Test.YtnbcedkpkcgmkaaGreatDoorCM
import Derived.Test.YtnbcedkpkcgmkaaGreatDoorKV
import Derived.Test.YtnbcedkpkcgmkaaGreatDoorKN
namespace Go.Proofs.Vc
open Go
set_option linter.unusedVariables false
theorem smallK (c m : Int) (hm : 0 < m) : ∃ K : Nat, 1 ≤ K ∧ (K : Int) ≤ m ∧ 1 + ((c.tmod m + m).tmod m) = (K : Int) ∧ -m < c.tmod m ∧ c.tmod m < m ∧ 0 ≤ (c.tmod m + m).tmod m ∧ (c.tmod m + m).tmod m < m := by
  obtain ⟨n, rfl⟩ : ∃ n : Nat, m = (n : Int) := ⟨m.toNat, by omega⟩
  obtain ⟨h1, h2⟩ := tmod_bounds (z := c) (m := n) (by omega)
  have h3 : 0 ≤ (c.tmod (n : Int) + (n : Int)).tmod (n : Int) := Int.tmod_nonneg _ (by omega)
  obtain ⟨h4, h5⟩ := tmod_bounds (z := c.tmod (n : Int) + (n : Int)) (m := n) (by omega)
  exact ⟨(1 + (c.tmod (n : Int) + (n : Int)).tmod (n : Int)).toNat, by omega, by omega, by omega, h1, h2, h3, h5⟩
theorem bitLen_is_one {x : Nat} (h0 : 0 < x) : bitLen x = 1 ↔ x = 1 := by
  constructor
  · intro h
    rcases Nat.lt_or_ge x 2 with h2 | h2
    · omega
    · have h3 := bitLen_half (x := x) (by omega)
      have h4 := bitLen_half (x := x / 2) (by omega)
      omega
  · intro h; subst h; decide
/-- what stands behind the choice of the limit -/
structure LimOk (b : ByteArray) (ok : Bool) (ρ : Rat) (K : Nat) : Prop where
  size : b.size ≤ 60
  yes : ok = true → readR b = some ρ
  no : ok = false → readR b = none
  val : ok = true → ρ.den = 1 → 0 < ρ → ρ = ((K : Int) : Rat)
theorem LimOk.getR {b : ByteArray} {ρ : Rat} {K : Nat} {ok : Bool} (h : LimOk b ok ρ K) (he : ok = true) : getR b = ρ := by
  unfold Vc.getR
  rw [h.yes he]
  rfl
theorem lim_K {K : Nat} (h1 : 1 ≤ K) (h2 : K ≤ 60) : LimOk (ratS ((K : Int) : Rat)) true ((K : Int) : Rat) K := by
  have hs : Sz 2 ((K : Int) : Rat) := intR_sz (by rw [Int.natAbs_natCast]; omega) (by decide)
  exact ⟨by have := ratS_size hs; omega, fun _ => readR_text _, fun h => (by cases h), fun _ _ _ => rfl⟩
theorem abs_le_of {x y : Rat} (h : absR x ≤ y) : x ≤ y ∧ -y ≤ x := by
  by_cases h0 : x < 0
  · rw [absR_neg' h0] at h
    have h1 := Rat.neg_le_neg h
    rw [Rat.neg_neg] at h1
    exact ⟨Rat.le_trans (Rat.le_of_lt h0) (Rat.le_trans (Rat.le_of_lt (rat_neg_pos h0)) h), h1⟩
  · have h0 := Rat.not_lt.1 h0
    rw [absR_pos' h0] at h
    have h1 : 0 ≤ y := Rat.le_trans h0 h
    have h2 := Rat.neg_le_neg h1
    exact ⟨h, Rat.le_trans (by simpa using h2) h0⟩
theorem BestIs.sz {k L : Nat} {r z : Rat} (h : BestIs r L z) (hz : Sz k r) (hL : L < 10 ^ k) (h0 : 0 < L) : Sz (2 * k + 1) z := by
  have h1 := (h.2 (r.floor : Rat) (by rw [Rat.den_intCast]; omega)).le
  have h2 : absR ((r.floor : Rat) - r) ≤ 1 := by
    have a1 := Rat.floor_le r
    have a2 := Rat.lt_floor_add_one r
    rw [Rat.intCast_add] at a2
    have a3 : ((1 : Int) : Rat) = 1 := rfl
    rw [a3] at a2
    unfold absR
    split <;> grind
  obtain ⟨b1, b2⟩ := abs_le_of (Rat.le_trans h1 h2)
  have hk : 0 < 10 ^ k := Nat.pow_pos (by decide)
  have hd := hz.1
  have hrd := r.den_nz
  obtain ⟨P, hP⟩ : ∃ P : Int, P = ((10 ^ k : Nat) : Int) := ⟨_, rfl⟩
  have c1 : r ≤ (P : Rat) := by
    rw [Rat.le_iff, Rat.num_intCast, Rat.den_intCast]
    have : P * 1 ≤ P * (r.den : Int) := Int.mul_le_mul_of_nonneg_left (by omega) (by omega)
    omega
  have c2 : -(P : Rat) ≤ r := by
    rw [← Rat.intCast_neg, Rat.le_iff, Rat.num_intCast, Rat.den_intCast]
    have : P * 1 ≤ P * (r.den : Int) := Int.mul_le_mul_of_nonneg_left (by omega) (by omega)
    rw [Int.neg_mul]
    omega
  have a3 : ((1 : Int) : Rat) = 1 := rfl
  have d1 : z ≤ ((P + 1 : Int) : Rat) := by rw [Rat.intCast_add, a3]; grind
  have d2 : ((-(P + 1) : Int) : Rat) ≤ z := by rw [Rat.intCast_neg, Rat.intCast_add, a3]; grind
  rw [Rat.le_iff, Rat.num_intCast, Rat.den_intCast] at d1 d2
  have e1 : (P + 1) * (z.den : Int) ≤ (P + 1) * P := Int.mul_le_mul_of_nonneg_left (by have := h.1; omega) (by omega)
  have e2 : 10 ^ (2 * k + 1) = 10 ^ k * 10 ^ k * 10 := by rw [Nat.pow_succ, Nat.two_mul, Nat.pow_add]
  have e3 : ((10 ^ (2 * k + 1) : Nat) : Int) = P * P * 10 := by rw [e2, hP]; simp
  rw [Int.neg_mul] at d2
  have e4 : (P + 1) * P = P * P + P := by rw [Int.add_mul, Int.one_mul]
  have e5 : P * 1 ≤ P * P := Int.mul_le_mul_of_nonneg_left (by omega) (by omega)
  refine ⟨by omega, ?_⟩
  have e6 : 10 ^ k * 1 ≤ 10 ^ k * 10 ^ k := Nat.mul_le_mul_left _ (by omega)
  have := h.1
  omega
theorem simpZ_self (q : Rat) : simpZ q q = q := by
  obtain ⟨h1, h2⟩ := simpZ_mem (lo := q) (hi := q) Rat.le_refl
  exact Rat.le_antisymm h2 h1
end Go.Proofs.Vc
