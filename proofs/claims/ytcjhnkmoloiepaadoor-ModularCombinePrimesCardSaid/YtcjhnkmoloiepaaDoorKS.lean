/- The simplest fraction of an interval: plain. No program occurs here. -/
import Derived.Test.YtcjhnkmoloiepaaDoorQX
import Derived.Test.YtcjhnkmoloiepaaDoorQ3
namespace Go.Proofs.Vc
open Go
theorem pos_num {y : Rat} : 0 < y ↔ 0 < y.num := by
  rw [Rat.lt_iff]
  simp
theorem sub_parts (y : Rat) (f : Int) : (y - (f : Rat)).num = y.num - f * (y.den : Int) ∧ (y - (f : Rat)).den = y.den := by
  have h := add_frac y ((-f : Int) : Rat)
  rw [Rat.num_intCast, Rat.den_intCast, Rat.intCast_neg, ← Rat.sub_eq_add_neg] at h
  rw [show y.num * ((1 : Nat) : Int) + -f * (y.den : Int) = y.num - f * (y.den : Int) by rw [Int.neg_mul]; omega, show (y.den : Int) * ((1 : Nat) : Int) = (y.den : Int) by omega] at h
  have hd : (0 : Int) < (y.den : Int) := by have := y.den_nz; omega
  have hc : Nat.gcd (y.num - f * (y.den : Int)).natAbs (y.den : Int).natAbs = 1 := by
    have h1 : Int.gcd (y.num + (-f) * (y.den : Int)) (y.den : Int) = Int.gcd y.num (y.den : Int) := Int.gcd_add_mul_right_left (y.den : Int) y.num (-f)
    rw [Int.neg_mul, ← Int.sub_eq_add_neg] at h1
    have h2 : Int.gcd y.num (y.den : Int) = 1 := by
      have := y.reduced
      unfold Int.gcd
      rw [Int.natAbs_natCast]
      exact this
    exact h1.trans h2
  have h3 := frac_parts hd hc
  rw [h, Int.natAbs_natCast] at h3
  exact h3
theorem inv_parts {z : Rat} (h : 0 < z.num) : z⁻¹.num = (z.den : Int) ∧ z⁻¹.den = z.num.natAbs := by
  have h1 := mkRat_num (b := decide (z.num < 0)) (N := z.den) (M := z.num.natAbs) (by omega) (by rw [Nat.gcd_comm]; exact z.reduced)
  rw [rat_inv] at h1
  rw [decide_eq_false (show ¬ z.num < 0 by omega)] at h1
  exact ⟨h1.1, h1.2⟩
theorem sgn_le {x y : Rat} : (x - y).num.sign ≤ 0 ↔ x ≤ y := by
  have e : (x - y).num = -(y - x).num := by rw [← Rat.neg_sub, Rat.neg_num]
  rw [Rat.le_iff_sub_nonneg, ← Rat.num_nonneg]
  constructor
  · intro h
    rcases Int.lt_or_le 0 (x - y).num with h1 | h1
    · rw [Int.sign_eq_one_of_pos h1] at h
      omega
    · omega
  · intro h
    rcases Int.lt_or_le (x - y).num 0 with h1 | h1
    · rw [Int.sign_eq_neg_one_of_neg h1]
      decide
    · rw [show (x - y).num = 0 by omega]
      decide
theorem sgn_zero {x y : Rat} : (x - y).num.sign = 0 ↔ x = y := by
  rw [Int.sign_eq_zero_iff_zero, Rat.num_eq_zero]
  constructor
  · intro h
    have h1 : x - y + y = 0 + y := by rw [h]
    rw [Rat.sub_add_cancel, Rat.zero_add] at h1
    exact h1
  · rintro rfl
    exact Rat.sub_self
def ceilR (r : Rat) : Int := -(-r).floor
theorem ceilR_cast (r : Rat) : ((ceilR r : Int) : Rat) = -((-r).floor : Rat) := by
  unfold ceilR
  rw [Rat.intCast_neg]
theorem ceilR_le {r : Rat} {x : Int} : ceilR r ≤ x ↔ r ≤ (x : Rat) := by
  unfold ceilR
  rw [show -(-r).floor ≤ x ↔ -x ≤ (-r).floor by omega, Rat.le_floor_iff, Rat.intCast_neg]
  constructor
  · intro h
    have := Rat.neg_le_neg h
    rwa [Rat.neg_neg, Rat.neg_neg] at this
  · exact Rat.neg_le_neg
theorem ceilR_eq (r : Rat) : ceilR r = if (r.floor : Rat) = r then r.floor else r.floor + 1 := by
  have h1 : ceilR r ≤ r.floor + 1 := ceilR_le.2 (Rat.le_of_lt (Rat.lt_floor_add_one r))
  split
  · rename_i h
    have h2 : ceilR r ≤ r.floor := ceilR_le.2 (by rw [h]; exact Rat.le_refl)
    have h3 : r.floor ≤ ceilR r := Rat.intCast_le_intCast.1 (by rw [h]; exact ceilR_le.1 (Int.le_refl _))
    omega
  · rename_i h
    have h2 : ¬ ceilR r ≤ r.floor := fun e => h (Rat.le_antisymm (Rat.floor_le r) (ceilR_le.1 e))
    omega
def simpF : Nat → Rat → Rat → Rat
  | 0, _, _ => 0
  | n + 1, lo, hi => if ((ceilR lo : Int) : Rat) ≤ hi then ((ceilR lo : Int) : Rat) else (lo.floor : Rat) + (simpF n (hi - (lo.floor : Rat))⁻¹ (lo - (lo.floor : Rat))⁻¹)⁻¹
theorem simp_step {lo hi : Rat} (h0 : 0 < lo) (h : lo ≤ hi) (hc : ¬ ((ceilR lo : Int) : Rat) ≤ hi) :
    0 ≤ lo.floor ∧ 0 < (lo - (lo.floor : Rat)).num ∧ 0 < (hi - (lo.floor : Rat)).num ∧ (lo - (lo.floor : Rat)).num < (lo.den : Int) ∧ (hi - (lo.floor : Rat)).num < (hi.den : Int) ∧ (hi - (lo.floor : Rat))⁻¹ ≤ (lo - (lo.floor : Rat))⁻¹ := by
  have hf0 : 0 ≤ lo.floor := Rat.le_floor_iff.2 (Rat.le_of_lt h0)
  have hne : (lo.floor : Rat) ≠ lo := fun e => hc (by rw [ceilR_eq, if_pos e, e]; exact h)
  have hlt : (lo.floor : Rat) < lo := Rat.lt_of_le_of_ne (Rat.floor_le lo) hne
  have hh : hi < ((lo.floor + 1 : Int) : Rat) := by
    rw [ceilR_eq, if_neg hne] at hc
    exact Rat.not_le.1 hc
  have hl1 : lo < ((lo.floor + 1 : Int) : Rat) := Rat.lt_floor_add_one lo
  obtain ⟨f, hf⟩ : ∃ f, f = lo.floor := ⟨_, rfl⟩
  rw [← hf] at hf0 hlt hh hl1 ⊢
  obtain ⟨a1, a2⟩ := sub_parts lo f
  obtain ⟨b1, b2⟩ := sub_parts hi f
  rw [Rat.lt_iff, Rat.num_intCast, Rat.den_intCast] at hlt hh hl1
  rw [Rat.le_iff] at h
  have hld := lo.den_nz
  have hhd := hi.den_nz
  have c1 : 0 < (lo - (f : Rat)).num := by rw [a1]; omega
  have c4 : (lo - (f : Rat)).num < (lo.den : Int) := by rw [a1]; rw [Int.add_mul] at hl1; omega
  have c5 : (hi - (f : Rat)).num < (hi.den : Int) := by rw [b1]; rw [Int.add_mul] at hh; omega
  have key : (hi.den : Int) * (lo.num - f * (lo.den : Int)) ≤ (lo.den : Int) * (hi.num - f * (hi.den : Int)) := by grind
  have c2 : 0 < (hi - (f : Rat)).num := by
    rw [b1]
    rw [a1] at c1
    have k1 : 0 < (hi.den : Int) * (lo.num - f * (lo.den : Int)) := Int.mul_pos (by omega) c1
    have k2 : 0 < (lo.den : Int) * (hi.num - f * (hi.den : Int)) := Int.lt_of_lt_of_le k1 key
    rcases Int.lt_or_le 0 (hi.num - f * (hi.den : Int)) with h9 | h9
    · exact h9
    · have k3 := Int.mul_le_mul_of_nonneg_left h9 (show (0 : Int) ≤ (lo.den : Int) by omega)
      rw [Int.mul_zero] at k3
      omega
  refine ⟨hf0, c1, c2, c4, c5, ?_⟩
  obtain ⟨i1, i2⟩ := inv_parts c1
  obtain ⟨j1, j2⟩ := inv_parts c2
  rw [Rat.le_iff, i1, i2, j1, j2, a2, b2, Int.natAbs_of_nonneg (by omega), Int.natAbs_of_nonneg (by omega), a1, b1]
  exact key
theorem simp_pos {lo hi : Rat} (h0 : 0 < lo) (h : lo ≤ hi) (hc : ¬ ((ceilR lo : Int) : Rat) ≤ hi) : 0 < (hi - (lo.floor : Rat))⁻¹ := by
  obtain ⟨_, _, c2, _, _, _⟩ := simp_step h0 h hc
  exact Rat.inv_pos.2 (pos_num.2 c2)
theorem simp_den {lo hi : Rat} (h0 : 0 < lo) (h : lo ≤ hi) (hc : ¬ ((ceilR lo : Int) : Rat) ≤ hi) : (hi - (lo.floor : Rat))⁻¹.den < hi.den ∧ (lo - (lo.floor : Rat))⁻¹.den < lo.den ∧ (hi - (lo.floor : Rat))⁻¹.num = (hi.den : Int) ∧ (lo - (lo.floor : Rat))⁻¹.num = (lo.den : Int) := by
  obtain ⟨_, c1, c2, c4, c5, _⟩ := simp_step h0 h hc
  obtain ⟨i1, i2⟩ := inv_parts c1
  obtain ⟨j1, j2⟩ := inv_parts c2
  rw [i1, i2, j1, j2, (sub_parts lo _).2, (sub_parts hi _).2]
  exact ⟨by omega, by omega, rfl, rfl⟩
theorem simp_sz {lo hi : Rat} {k : Nat} (h0 : 0 < lo) (h : lo ≤ hi) (hc : ¬ ((ceilR lo : Int) : Rat) ≤ hi) (h1 : Sz k lo) (h2 : Sz k hi) : Sz k (hi - (lo.floor : Rat))⁻¹ ∧ Sz k (lo - (lo.floor : Rat))⁻¹ := by
  obtain ⟨d1, d2, d3, d4⟩ := simp_den h0 h hc
  exact ⟨⟨by rw [d3, Int.natAbs_natCast]; exact h2.2, Nat.lt_trans d1 h2.2⟩, ⟨by rw [d4, Int.natAbs_natCast]; exact h1.2, Nat.lt_trans d2 h1.2⟩⟩
/-- the simplest fraction has no larger parts than the ends have -/
theorem simpF_min : ∀ (n : Nat) (lo hi : Rat), 0 < lo → lo ≤ hi → lo.den + hi.den ≤ n → 0 < (simpF n lo hi).num ∧ (simpF n lo hi).num ≤ lo.num ∧ (simpF n lo hi).num ≤ hi.num ∧ (simpF n lo hi).den ≤ lo.den ∧ (simpF n lo hi).den ≤ hi.den
  | 0, lo, hi, h0, h, hn => by have := lo.den_nz; omega
  | n + 1, lo, hi, h0, h, hn => by
    have hld := lo.den_nz
    have hhd := hi.den_nz
    unfold simpF
    by_cases hc : ((ceilR lo : Int) : Rat) ≤ hi
    · rw [if_pos hc, Rat.num_intCast, Rat.den_intCast]
      have hp : 0 < ceilR lo := by
        rcases Int.lt_or_le 0 (ceilR lo) with h9 | h9
        · exact h9
        · have := ceilR_le.1 h9
          exact absurd (Std.lt_of_lt_of_le h0 this) Rat.lt_irrefl
      have hl0 := pos_num.1 h0
      rw [Rat.le_iff, Rat.num_intCast, Rat.den_intCast] at hc
      have q1 : ceilR lo ≤ ceilR lo * (hi.den : Int) := by
        have := Int.mul_le_mul_of_nonneg_left (show (1 : Int) ≤ (hi.den : Int) by omega) (show 0 ≤ ceilR lo by omega)
        omega
      have q2 : ceilR lo ≤ lo.num := ceilR_le.2 (by
        rw [Rat.le_iff, Rat.num_intCast, Rat.den_intCast]
        exact Int.mul_le_mul_of_nonneg_left (show ((1 : Nat) : Int) ≤ (lo.den : Int) by omega) (by omega))
      exact ⟨hp, q2, by omega, by omega, by omega⟩
    · rw [if_neg hc]
      obtain ⟨hf0, c1, c2, c4, c5, hle⟩ := simp_step h0 h hc
      obtain ⟨d1, d2, d3, d4⟩ := simp_den h0 h hc
      have hi2 := (inv_parts c2).2
      have lo2 := (inv_parts c1).2
      obtain ⟨r1, r2, r3, r4, r5⟩ := simpF_min n _ _ (simp_pos h0 h hc) hle (by omega)
      rw [d3] at r2
      rw [d4] at r3
      rw [hi2] at r4
      rw [lo2] at r5
      rw [(sub_parts hi _).1] at r4
      rw [(sub_parts lo _).1] at r5
      rw [(sub_parts hi _).1] at c2
      rw [(sub_parts lo _).1] at c1
      obtain ⟨R, hR⟩ : ∃ R, R = simpF n (hi - (lo.floor : Rat))⁻¹ (lo - (lo.floor : Rat))⁻¹ := ⟨_, rfl⟩
      obtain ⟨f, hf⟩ : ∃ f, f = lo.floor := ⟨_, rfl⟩
      rw [← hR] at r1 r2 r3 r4 r5 ⊢
      rw [← hf] at hf0 c1 c2 r4 r5 ⊢
      obtain ⟨z1, z2⟩ := inv_parts r1
      obtain ⟨s1, s2⟩ := sub_parts R⁻¹ (-f)
      have e : R⁻¹ - ((-f : Int) : Rat) = (f : Rat) + R⁻¹ := by rw [Rat.intCast_neg, Rat.sub_eq_add_neg, Rat.neg_neg, Rat.add_comm]
      rw [e, z1, z2, Int.neg_mul, Int.natAbs_of_nonneg (by omega)] at s1
      rw [e, z2] at s2
      rw [s1, s2]
      have m1 := Int.mul_le_mul_of_nonneg_left r3 hf0
      have m2 := Int.mul_le_mul_of_nonneg_left r2 hf0
      have m3 := Int.mul_nonneg hf0 (show 0 ≤ R.num by omega)
      have hRd := R.den_nz
      exact ⟨by omega, by omega, by omega, by omega, by omega⟩
theorem simpF_pos {n : Nat} {lo hi : Rat} (h0 : 0 < lo) (h : lo ≤ hi) (hn : lo.den + hi.den ≤ n) : 0 < simpF n lo hi := pos_num.2 (simpF_min n lo hi h0 h hn).1
theorem simpF_sz {n k : Nat} {lo hi : Rat} (h0 : 0 < lo) (h : lo ≤ hi) (hn : lo.den + hi.den ≤ n) (h1 : Sz k lo) : Sz k (simpF n lo hi) := by
  obtain ⟨r1, r2, r3, r4, r5⟩ := simpF_min n lo hi h0 h hn
  exact ⟨Nat.lt_of_le_of_lt (by omega) h1.1, Nat.lt_of_le_of_lt r4 h1.2⟩
theorem simpF_eq {n : Nat} {lo hi : Rat} (h : ((ceilR lo : Int) : Rat) ≤ hi) : simpF (n + 1) lo hi = ((ceilR lo : Int) : Rat) := by
  unfold simpF
  rw [if_pos h]
theorem simpF_more {n : Nat} {lo hi : Rat} (h : ¬ ((ceilR lo : Int) : Rat) ≤ hi) : simpF (n + 1) lo hi = (lo.floor : Rat) + (simpF n (hi - (lo.floor : Rat))⁻¹ (lo - (lo.floor : Rat))⁻¹)⁻¹ := by
  conv => lhs; unfold simpF
  rw [if_neg h]
theorem sgn_lt {x y : Rat} : (y - x).num.sign < 0 ↔ ¬ x ≤ y := by
  rw [Rat.le_iff_sub_nonneg, ← Rat.num_nonneg]
  constructor
  · intro h h1
    have := Int.sign_nonneg_iff.2 h1
    omega
  · intro h
    rw [Int.sign_eq_neg_one_of_neg (by omega)]
    decide
theorem sgn_pos {x : Rat} : x.num.sign > 0 ↔ 0 < x := by
  rw [pos_num]
  constructor
  · intro h
    rcases Int.lt_or_le 0 x.num with h1 | h1
    · exact h1
    · rcases Int.lt_or_le x.num 0 with h2 | h2
      · rw [Int.sign_eq_neg_one_of_neg h2] at h
        omega
      · rw [show x.num = 0 by omega] at h
        exact absurd h (by decide)
  · intro h
    rw [Int.sign_eq_one_of_pos h]
    decide
theorem sgn_nonpos {x : Rat} : x.num.sign ≤ 0 ↔ ¬ 0 < x := by
  rw [← sgn_pos]
  omega
theorem neg_num {y : Rat} : y < 0 ↔ y.num < 0 := by
  rw [Rat.lt_iff]
  simp
theorem sgn_neg {x : Rat} : x.num.sign < 0 ↔ x < 0 := by
  rw [Int.sign_neg_iff]
  exact neg_num.symm
theorem rat_neg_pos {x : Rat} (h : x < 0) : 0 < -x := by
  rw [pos_num, Rat.neg_num]
  have := neg_num.1 h
  omega
/-- the simplest fraction of an interval of any sign -/
def simpZ (lo hi : Rat) : Rat := if 0 < lo then simpF (lo.den + hi.den) lo hi else if hi < 0 then -simpF ((-hi).den + (-lo).den) (-hi) (-lo) else 0
theorem simpZ_pos {lo hi : Rat} (h : 0 < lo) : simpZ lo hi = simpF (lo.den + hi.den) lo hi := by
  unfold simpZ
  rw [if_pos h]
theorem simpZ_neg {lo hi : Rat} (h : ¬ 0 < lo) (h1 : hi < 0) : simpZ lo hi = -simpF ((-hi).den + (-lo).den) (-hi) (-lo) := by
  unfold simpZ
  rw [if_neg h, if_pos h1]
theorem simpZ_zero {lo hi : Rat} (h : ¬ 0 < lo) (h1 : ¬ hi < 0) : simpZ lo hi = 0 := by
  unfold simpZ
  rw [if_neg h, if_neg h1]
theorem simpZ_sz {k : Nat} {lo hi : Rat} (h : lo ≤ hi) (h1 : Sz k lo) (h2 : Sz k hi) : Sz k (simpZ lo hi) := by
  by_cases h0 : 0 < lo
  · rw [simpZ_pos h0]
    exact simpF_sz h0 h (Nat.le_refl _) h1
  · by_cases h9 : hi < 0
    · rw [simpZ_neg h0 h9]
      exact (simpF_sz (rat_neg_pos h9) (Rat.neg_le_neg h) (Nat.le_refl _) h2.neg).neg
    · rw [simpZ_zero h0 h9]
      exact ⟨Nat.pow_pos (by decide), by
        have := h1.2
        have := lo.den_nz
        exact Nat.lt_of_le_of_lt (by omega : 1 ≤ lo.den) h1.2⟩
end Go.Proofs.Vc
