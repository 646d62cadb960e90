/- A helper of the claim: general lemmas and walks of functions, printed by a program of this session. Conditions: none. -/
import Derived.Test.YtcjhnkmoloiepaaDoorKS
import Derived.Test.YtcjhnkmoloiepaaDoorQ3
import Derived.Test.YtcjhnkmoloiepaaDoorQX
namespace Go.Proofs.Vc
open Go
theorem inv_anti {x y : Rat} (hx : 0 < x) (h : x ≤ y) : y⁻¹ ≤ x⁻¹ := by
  have hy : 0 < y := Std.lt_of_lt_of_le hx h
  obtain ⟨i1, i2⟩ := inv_parts (pos_num.1 hx)
  obtain ⟨j1, j2⟩ := inv_parts (pos_num.1 hy)
  have h1 := pos_num.1 hx
  have h2 := pos_num.1 hy
  rw [Rat.le_iff] at h
  rw [Rat.le_iff, i1, i2, j1, j2, Int.natAbs_of_nonneg (by omega), Int.natAbs_of_nonneg (by omega), Int.mul_comm, Int.mul_comm (x.den : Int)]
  exact h
theorem sub_mono {x y : Rat} (f : Rat) (h : x ≤ y) : x - f ≤ y - f := by
  rw [Rat.sub_eq_add_neg, Rat.sub_eq_add_neg]
  exact Rat.add_le_add_right.2 h
theorem add_back (f x : Rat) : f + (x - f) = x := by
  rw [Rat.sub_eq_add_neg, Rat.add_comm, Rat.add_assoc, Rat.neg_add_cancel, Rat.add_zero]
theorem simpF_mem : ∀ (n : Nat) (lo hi : Rat), 0 < lo → lo ≤ hi → lo.den + hi.den ≤ n → lo ≤ simpF n lo hi ∧ simpF n lo hi ≤ hi
  | 0, lo, hi, h0, h, hn => by have := lo.den_nz; omega
  | n + 1, lo, hi, h0, h, hn => by
    by_cases hc : ((ceilR lo : Int) : Rat) ≤ hi
    · rw [simpF_eq hc]
      exact ⟨ceilR_le.1 (Int.le_refl _), hc⟩
    · rw [simpF_more hc]
      obtain ⟨hf0, c1, c2, c4, c5, hle⟩ := simp_step h0 h hc
      obtain ⟨d1, d2, d3, d4⟩ := simp_den h0 h hc
      have hp := simp_pos h0 h hc
      obtain ⟨m1, m2⟩ := simpF_mem n _ _ hp hle (by omega)
      have hR := simpF_pos hp hle (n := n) (by omega)
      have k1 := inv_anti hp m1
      have k2 := inv_anti hR m2
      rw [Rat.inv_inv] at k1 k2
      have e1 := add_back (lo.floor : Rat) lo
      have e2 := add_back (lo.floor : Rat) hi
      constructor
      · conv => lhs; rw [← e1]
        exact Rat.add_le_add_left.2 k2
      · conv => rhs; rw [← e2]
        exact Rat.add_le_add_left.2 k1
theorem simpF_best : ∀ (n : Nat) (lo hi y : Rat), 0 < lo → lo ≤ y → y ≤ hi → lo.den + hi.den ≤ n → (simpF n lo hi).num ≤ y.num ∧ (simpF n lo hi).den ≤ y.den
  | 0, lo, hi, y, h0, h1, h2, hn => by have := lo.den_nz; omega
  | n + 1, lo, hi, y, h0, h1, h2, hn => by
    have h : lo ≤ hi := Rat.le_trans h1 h2
    have hy0 := pos_num.1 (Std.lt_of_lt_of_le h0 h1)
    have hyd := y.den_nz
    by_cases hc : ((ceilR lo : Int) : Rat) ≤ hi
    · rw [simpF_eq hc, Rat.num_intCast, Rat.den_intCast]
      refine ⟨ceilR_le.2 (Rat.le_trans h1 ?_), by omega⟩
      rw [Rat.le_iff, Rat.num_intCast, Rat.den_intCast]
      exact Int.mul_le_mul_of_nonneg_left (show ((1 : Nat) : Int) ≤ (y.den : Int) by omega) (by omega)
    · rw [simpF_more hc]
      obtain ⟨hf0, c1, c2, c4, c5, hle⟩ := simp_step h0 h hc
      obtain ⟨d1, d2, d3, d4⟩ := simp_den h0 h hc
      have hp := simp_pos h0 h hc
      have q1 : 0 < lo - (lo.floor : Rat) := pos_num.2 c1
      have q2 := sub_mono (lo.floor : Rat) h1
      have q3 := sub_mono (lo.floor : Rat) h2
      have q4 : 0 < y - (lo.floor : Rat) := Std.lt_of_lt_of_le q1 q2
      obtain ⟨r1, r2⟩ := simpF_best n _ _ (y - (lo.floor : Rat))⁻¹ hp (inv_anti q4 q3) (inv_anti q1 q2) (by omega)
      have hR := pos_num.1 (simpF_pos hp hle (n := n) (by omega))
      obtain ⟨i1, i2⟩ := inv_parts (pos_num.1 q4)
      obtain ⟨s1, s2⟩ := sub_parts y lo.floor
      have c3 := pos_num.1 q4
      rw [i1, s2] at r1
      rw [i2] at r2
      rw [s1] at r2 c3
      obtain ⟨R, hRe⟩ : ∃ R, R = simpF n (hi - (lo.floor : Rat))⁻¹ (lo - (lo.floor : Rat))⁻¹ := ⟨_, rfl⟩
      obtain ⟨f, hf⟩ : ∃ f, f = lo.floor := ⟨_, rfl⟩
      rw [← hRe] at r1 r2 hR ⊢
      rw [← hf] at hf0 r2 c3 ⊢
      obtain ⟨z1, z2⟩ := inv_parts hR
      obtain ⟨t1, t2⟩ := sub_parts R⁻¹ (-f)
      have e : R⁻¹ - ((-f : Int) : Rat) = (f : Rat) + R⁻¹ := by rw [Rat.intCast_neg, Rat.sub_eq_add_neg, Rat.neg_neg, Rat.add_comm]
      rw [e, z1, z2, Int.neg_mul, Int.natAbs_of_nonneg (by omega)] at t1
      rw [e, z2] at t2
      rw [t1, t2]
      have m1 := Int.mul_le_mul_of_nonneg_left r1 hf0
      exact ⟨by omega, by omega⟩
theorem simpZ_mem {lo hi : Rat} (h : lo ≤ hi) : lo ≤ simpZ lo hi ∧ simpZ lo hi ≤ hi := by
  by_cases h0 : 0 < lo
  · rw [simpZ_pos h0]
    exact simpF_mem _ _ _ h0 h (Nat.le_refl _)
  · by_cases h9 : hi < 0
    · rw [simpZ_neg h0 h9]
      obtain ⟨m1, m2⟩ := simpF_mem _ _ _ (rat_neg_pos h9) (Rat.neg_le_neg h) (Nat.le_refl _)
      have k1 := Rat.neg_le_neg m1
      have k2 := Rat.neg_le_neg m2
      rw [Rat.neg_neg] at k1 k2
      exact ⟨k2, k1⟩
    · rw [simpZ_zero h0 h9]
      exact ⟨Rat.not_lt.1 h0, Rat.not_lt.1 h9⟩
theorem simpZ_best {lo hi y : Rat} (h1 : lo ≤ y) (h2 : y ≤ hi) : (simpZ lo hi).den ≤ y.den := by
  have hyd := y.den_nz
  by_cases h0 : 0 < lo
  · rw [simpZ_pos h0]
    exact (simpF_best _ _ _ _ h0 h1 h2 (Nat.le_refl _)).2
  · by_cases h9 : hi < 0
    · rw [simpZ_neg h0 h9, Rat.neg_den]
      have := (simpF_best _ _ _ (-y) (rat_neg_pos h9) (Rat.neg_le_neg h2) (Rat.neg_le_neg h1) (Nat.le_refl _)).2
      rwa [Rat.neg_den] at this
    · rw [simpZ_zero h0 h9]
      show 1 ≤ y.den
      omega
theorem divInt_den_le {C : Int} {q : Nat} (hq : 0 < q) : (Rat.divInt C (q : Int)).den ≤ q := by
  rw [Rat.divInt_ofNat]
  have h := Rat.den_mkRat C q
  rw [h]
  split
  · omega
  · exact Nat.div_le_self _ _
/-- with a denominator below that of the simplest fraction, the least multiple above lo lies beyond hi -/
theorem simpZ_least {lo hi : Rat} {q : Nat} (hq : 0 < q) (hd : q < (simpZ lo hi).den) : ¬ Rat.divInt (ceilR (lo * ((q : Int) : Rat))) (q : Int) ≤ hi := by
  intro h
  have h1 : lo ≤ Rat.divInt (ceilR (lo * ((q : Int) : Rat))) (q : Int) := by
    have hp : (0 : Rat) < ((q : Int) : Rat) := Rat.intCast_lt_intCast.2 (show (0 : Int) < (q : Int) by omega)
    refine Rat.le_of_mul_le_mul_right ?_ hp
    rw [Rat.divInt_eq_div, Rat.div_mul_cancel (fun e => by rw [e] at hp; exact absurd hp Rat.lt_irrefl)]
    exact ceilR_le.1 (Int.le_refl _)
  have h2 := simpZ_best h1 h
  have h3 := divInt_den_le (C := ceilR (lo * ((q : Int) : Rat))) hq
  omega
end Go.Proofs.Vc

namespace Go.Proofs.Vc
open Go
theorem divInt_sz {x : Int} {D k : Nat} (hx : x.natAbs < 10 ^ k) (hD : D < 10 ^ k) (h0 : D ≠ 0) : Sz k (Rat.divInt x (D : Int)) := by
  have h := read_size (neg := decide (x < 0)) hx hD h0
  rwa [sg_int] at h
theorem divInt_nonneg' {x D : Nat} : 0 ≤ Rat.divInt (x : Int) (D : Int) := Rat.divInt_nonneg (Int.natCast_nonneg _) (Int.natCast_nonneg _)
theorem le_add_pos {x y : Rat} (h : 0 ≤ y) : x ≤ x + y := by
  have := (Rat.add_le_add_left (a := 0) (b := y) (c := x)).2 h
  rwa [Rat.add_zero] at this
end Go.Proofs.Vc
