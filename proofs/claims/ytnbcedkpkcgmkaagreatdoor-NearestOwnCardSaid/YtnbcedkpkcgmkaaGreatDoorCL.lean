/- The nearest number with a bounded denominator: plain. No program occurs here. -/
import Derived.Test.YtnbcedkpkcgmkaaGreatDoorCK
namespace Go.Proofs.Vc
open Go
set_option linter.unusedVariables false
/-- z is no worse a neighbour of v than w -/
def Pref (v z w : Rat) : Prop := absR (z - v) < absR (w - v) ∨ (absR (z - v) = absR (w - v) ∧ (z.den < w.den ∨ (z.den = w.den ∧ z ≤ w)))
def BestIs (v : Rat) (L : Nat) (z : Rat) : Prop := z.den ≤ L ∧ ∀ w : Rat, w.den ≤ L → Pref v z w
theorem Pref.refl (v z : Rat) : Pref v z z := .inr ⟨rfl, .inr ⟨rfl, Rat.le_refl⟩⟩
theorem Pref.le {v z w : Rat} (h : Pref v z w) : absR (z - v) ≤ absR (w - v) := by
  rcases h with h | ⟨h, _⟩
  · exact Rat.le_of_lt h
  · rw [h]; exact Rat.le_refl
theorem Pref.of_lt {v z a w : Rat} (h : absR (z - v) ≤ absR (a - v)) (k : absR (a - v) < absR (w - v)) : Pref v z w := .inl (Std.lt_of_le_of_lt h k)
theorem BestIs.unique {v : Rat} {L : Nat} {z y : Rat} (h : BestIs v L z) (k : BestIs v L y) : z = y := by
  rcases h.2 y k.1 with h1 | ⟨e1, h1⟩ <;> rcases k.2 z h.1 with h2 | ⟨e2, h2⟩
  · exact absurd h2 (Rat.not_lt.2 (Rat.le_of_lt h1))
  · rw [e2] at h1; exact absurd h1 Rat.lt_irrefl
  · rw [e1] at h2; exact absurd h2 Rat.lt_irrefl
  · rcases h1 with h1 | ⟨h1, h3⟩ <;> rcases h2 with h2 | ⟨h2, h4⟩
    · omega
    · omega
    · omega
    · exact Rat.le_antisymm h3 h4
theorem BestIs.mono {v : Rat} {L K : Nat} {z y : Rat} (h : BestIs v L z) (k : BestIs v K y) (hl : K ≤ L) : absR (z - v) ≤ absR (y - v) := (h.2 y (Nat.le_trans k.1 hl)).le
theorem absR_zero : absR 0 = 0 := by decide +kernel
theorem absR_nonneg (x : Rat) : 0 ≤ absR x := by
  by_cases h : x < 0
  · rw [absR_neg' h]
    have := Rat.neg_le_neg (Rat.le_of_lt h)
    simpa using this
  · rw [absR_pos' (Rat.not_lt.1 h)]; exact Rat.not_lt.1 h
theorem absR_pos {x : Rat} (h : x ≠ 0) : 0 < absR x := by
  by_cases h1 : x < 0
  · rw [absR_neg' h1]; exact rat_neg_pos h1
  · rw [absR_pos' (Rat.not_lt.1 h1)]
    exact Rat.lt_of_le_of_ne (Rat.not_lt.1 h1) (Ne.symm h)
theorem BestIs.own {r : Rat} {L : Nat} (h : r.den ≤ L) : BestIs r L r := by
  refine ⟨h, fun w hw => ?_⟩
  by_cases e : w = r
  · rw [e]; exact Pref.refl r r
  · left
    rw [Rat.sub_self, absR_zero]
    exact absR_pos fun h0 => e (by grind)
/-! the choice between two -/
def nearC (v a b : Rat) : Int := if (absR (a - v) - absR (b - v)).num.sign = 0 then (if (((a.den : Int) : Rat) - ((b.den : Int) : Rat)).num.sign = 0 then (a - b).num.sign else (((a.den : Int) : Rat) - ((b.den : Int) : Rat)).num.sign) else (absR (a - v) - absR (b - v)).num.sign
def nearR (v a b : Rat) : Rat := if nearC v a b > 0 then b else a
theorem den_cast {a b : Rat} : ((a.den : Int) : Rat) ≤ ((b.den : Int) : Rat) ↔ a.den ≤ b.den := by
  rw [Rat.intCast_le_intCast]
  omega
theorem near_pref (v a b : Rat) : Pref v (nearR v a b) a ∧ Pref v (nearR v a b) b := by
  unfold nearR nearC
  by_cases h1 : (absR (a - v) - absR (b - v)).num.sign = 0
  · rw [if_pos h1]
    have e1 := sgn_zero.1 h1
    by_cases h2 : (((a.den : Int) : Rat) - ((b.den : Int) : Rat)).num.sign = 0
    · rw [if_pos h2]
      have e2 : a.den = b.den := by have := Rat.intCast_inj.1 (sgn_zero.1 h2); omega
      split
      · rename_i h3
        have h4 : ¬ a ≤ b := fun h => by have := sgn_le.2 h; omega
        exact ⟨.inr ⟨e1.symm, .inr ⟨e2.symm, Rat.le_of_lt (Rat.not_le.1 h4)⟩⟩, Pref.refl _ _⟩
      · rename_i h3
        exact ⟨Pref.refl _ _, .inr ⟨e1, .inr ⟨e2, sgn_le.1 (by omega)⟩⟩⟩
    · rw [if_neg h2]
      have e2 : a.den ≠ b.den := fun e => h2 (sgn_zero.2 (by rw [e]))
      split
      · rename_i h3
        have h4 : ¬ a.den ≤ b.den := fun h => by have := sgn_le.2 (den_cast.2 h); omega
        exact ⟨.inr ⟨e1.symm, .inl (by omega)⟩, Pref.refl _ _⟩
      · rename_i h3
        have h4 := den_cast.1 (sgn_le.1 (show (((a.den : Int) : Rat) - ((b.den : Int) : Rat)).num.sign ≤ 0 by omega))
        exact ⟨Pref.refl _ _, .inr ⟨e1, .inl (by omega)⟩⟩
  · rw [if_neg h1]
    have e1 : absR (a - v) ≠ absR (b - v) := fun e => h1 (sgn_zero.2 e)
    split
    · rename_i h3
      have h4 : ¬ absR (a - v) ≤ absR (b - v) := fun h => by have := sgn_le.2 h; omega
      exact ⟨.inl (Rat.not_le.1 h4), Pref.refl _ _⟩
    · rename_i h3
      have h4 := sgn_le.1 (show (absR (a - v) - absR (b - v)).num.sign ≤ 0 by omega)
      exact ⟨Pref.refl _ _, .inl (Rat.lt_of_le_of_ne h4 e1)⟩
/-! neighbours -/
theorem farey {δ n1 d1 b e u t x y L : Int} (hδ : δ = 1 ∨ δ = -1) (hdet : b * d1 - n1 * e = δ) (hd1 : 0 < d1) (he : 0 < e) (hu : 0 < u) (ht : 0 < t) (hL : L < d1 + e) (hy : 0 < y) (hyL : y ≤ L) :
    x * d1 = n1 * y ∨ x * e = b * y ∨ t * y < ((x * (d1 * u + e * t) - (n1 * u + b * t) * y).natAbs : Int) * d1 ∨ u * y < ((x * (d1 * u + e * t) - (n1 * u + b * t) * y).natAbs : Int) * e := by
  obtain ⟨Y1, hY1⟩ : ∃ Y, Y = δ * (x * d1 - n1 * y) := ⟨_, rfl⟩
  obtain ⟨Y2, hY2⟩ : ∃ Y, Y = -(δ * (x * e - b * y)) := ⟨_, rfl⟩
  have hsq : δ * δ = 1 := by rcases hδ with h | h <;> subst h <;> decide
  have e1 : y = e * Y1 + d1 * Y2 := by
    have : e * Y1 + d1 * Y2 = δ * (b * d1 - n1 * e) * y := by rw [hY1, hY2]; grind
    rw [this, hdet, hsq, Int.one_mul]
  obtain ⟨W, hW⟩ : ∃ W, W = x * (d1 * u + e * t) - (n1 * u + b * t) * y := ⟨_, rfl⟩
  have e2 : δ * W = u * Y1 - t * Y2 := by rw [hY1, hY2, hW]; grind
  have e3 : (W.natAbs : Int) = ((u * Y1 - t * Y2).natAbs : Int) := by
    rw [← e2]
    rcases hδ with h | h <;> subst h <;> omega
  rw [← hW, e3]
  have hz1 : Y1 = 0 → x * d1 = n1 * y := fun h => by
    rcases hδ with h9 | h9 <;> subst h9 <;> omega
  have hz2 : Y2 = 0 → x * e = b * y := fun h => by
    rcases hδ with h9 | h9 <;> subst h9 <;> omega
  rcases Int.lt_trichotomy Y1 0 with a1 | a1 | a1
  · rcases Int.lt_trichotomy Y2 0 with a2 | a2 | a2
    · have k1 := Int.mul_neg_of_pos_of_neg he a1
      have k2 := Int.mul_neg_of_pos_of_neg hd1 a2
      omega
    · exact .inr (.inl (hz2 a2))
    · have k1 := Int.mul_neg_of_pos_of_neg hu a1
      have k2 := Int.mul_pos ht a2
      refine .inr (.inr (.inl ?_))
      rw [show ((u * Y1 - t * Y2).natAbs : Int) = t * Y2 - u * Y1 by omega]
      have k3 : 0 < -Y1 * (u * d1 + t * e) := Int.mul_pos (by omega) (by have := Int.mul_pos hu hd1; have := Int.mul_pos ht he; omega)
      have k4 : (t * Y2 - u * Y1) * d1 = t * y + -Y1 * (u * d1 + t * e) := by rw [e1]; grind
      omega
  · exact .inl (hz1 a1)
  · rcases Int.lt_trichotomy Y2 0 with a2 | a2 | a2
    · have k1 := Int.mul_pos hu a1
      have k2 := Int.mul_neg_of_pos_of_neg ht a2
      refine .inr (.inr (.inr ?_))
      rw [show ((u * Y1 - t * Y2).natAbs : Int) = u * Y1 - t * Y2 by omega]
      have k3 : 0 < -Y2 * (u * d1 + t * e) := Int.mul_pos (by omega) (by have := Int.mul_pos hu hd1; have := Int.mul_pos ht he; omega)
      have k4 : (u * Y1 - t * Y2) * e = u * y + -Y2 * (u * d1 + t * e) := by rw [e1]; grind
      omega
    · exact .inr (.inl (hz2 a2))
    · have k1 : e ≤ e * Y1 := by
        have := Int.mul_le_mul_of_nonneg_left (show 1 ≤ Y1 by omega) (show 0 ≤ e by omega)
        rwa [Int.mul_one] at this
      have k2 : d1 ≤ d1 * Y2 := by
        have := Int.mul_le_mul_of_nonneg_left (show 1 ≤ Y2 by omega) (show 0 ≤ d1 by omega)
        rwa [Int.mul_one] at this
      omega
theorem frac_den_le {a b : Int} {L : Nat} (hb : 0 < b) (h : b ≤ (L : Int)) : ((a : Rat) / (b : Rat)).den ≤ L := by
  have h1 := divInt_den_le (C := a) (q := b.toNat) (by omega)
  rw [show ((b.toNat : Nat) : Int) = b by omega, Rat.divInt_eq_div] at h1
  omega
theorem frac_eq {w : Rat} {a b : Int} (hb : 0 < b) (h : w.num * b = a * (w.den : Int)) : w = (a : Rat) / (b : Rat) := by
  have hw := den_pos' w
  have h1 : (w.num : Rat) / ((w.den : Int) : Rat) ≤ (a : Rat) / (b : Rat) := (frac_le hw hb).2 (by omega)
  have h2 : (a : Rat) / (b : Rat) ≤ (w.num : Rat) / ((w.den : Int) : Rat) := (frac_le hb hw).2 (by omega)
  rw [self_frac] at h1 h2
  exact Rat.le_antisymm h1 h2
/-- the program's choice behind the last convergent that is allowed -/
theorem best_cut {r : Rat} {L i : Nat} {k : Int} (h0 : 0 < i) (hi : i < (cf r).length) (hd : (cvS (cf r) i).d1 ≤ (L : Int)) {a : Int} (ha : (cf r)[i]? = some a)
    (hc : (L : Int) < a * (cvS (cf r) i).d1 + (cvS (cf r) i).d0) (hk0 : 0 ≤ k) (hk1 : k * (cvS (cf r) i).d1 + (cvS (cf r) i).d0 ≤ (L : Int)) (hk2 : (L : Int) < (k + 1) * (cvS (cf r) i).d1 + (cvS (cf r) i).d0) :
    BestIs r L (nearR r (((cvS (cf r) i).n1 : Rat) / ((cvS (cf r) i).d1 : Rat)) ((((cvS (cf r) i).n0 + k * (cvS (cf r) i).n1 : Int) : Rat) / (((cvS (cf r) i).d0 + k * (cvS (cf r) i).d1 : Int) : Rat))) := by
  obtain ⟨y, hy, hN, hD, hyy⟩ := cvS_rest hi
  have hay : a = y.floor := by rw [ha] at hy; exact Option.some.inj hy
  obtain ⟨hok, hd1, _⟩ := cvS_ok (r := r) i (Nat.le_of_lt hi)
  have hd1 := hd1 h0
  have hd0 := hok.d0
  have hdet := cvS_det r i
  unfold CV.det at hdet
  generalize cvS (cf r) i = s at *
  have hyd := den_pos' y
  have hka : k < a := by
    rcases Int.lt_or_le k a with h | h
    · exact h
    · have := Int.mul_le_mul_of_nonneg_right h (show 0 ≤ s.d1 by omega)
      omega
  obtain ⟨A, hA⟩ : ∃ A, A = (s.n1 : Rat) / (s.d1 : Rat) := ⟨_, rfl⟩
  obtain ⟨e, he⟩ : ∃ e, e = s.d0 + k * s.d1 := ⟨_, rfl⟩
  obtain ⟨b, hb⟩ : ∃ b, b = s.n0 + k * s.n1 := ⟨_, rfl⟩
  obtain ⟨B, hB⟩ : ∃ B, B = (b : Rat) / (e : Rat) := ⟨_, rfl⟩
  rw [← he, ← hb, ← hA, ← hB]
  have he0 : 0 < e := by rw [Int.add_mul, Int.one_mul] at hk2; omega
  obtain ⟨u, hu⟩ : ∃ u, u = y.num - k * (y.den : Int) := ⟨_, rfl⟩
  have hu0 : 0 < u := by
    have h1 : ((k + 1 : Int) : Rat) ≤ y := Rat.le_floor_iff.1 (by omega)
    rw [Rat.le_iff, Rat.num_intCast, Rat.den_intCast, Int.add_mul] at h1
    omega
  have hN2 : r.num = s.n1 * u + b * (y.den : Int) := by rw [hN, hu, hb]; grind
  have hD2 : (r.den : Int) = s.d1 * u + e * (y.den : Int) := by rw [hD, hu, he]; grind
  have hdet2 : b * s.d1 - s.n1 * e = s.n0 * s.d1 - s.n1 * s.d0 := by rw [hb, he]; grind
  obtain ⟨δ, hδe⟩ : ∃ δ, δ = s.n0 * s.d1 - s.n1 * s.d0 := ⟨_, rfl⟩
  rw [← hδe] at hdet hdet2
  have hrd := den_pos' r
  have e1 : s.n1 * (r.den : Int) - r.num * s.d1 = -((y.den : Int) * δ) := by rw [hD2, hN2, ← hdet2]; grind
  have e2 : b * (r.den : Int) - r.num * e = u * δ := by rw [hD2, hN2, ← hdet2]; grind
  obtain ⟨p1, p2⟩ := near_pref r A B
  refine ⟨?_, fun w hw => ?_⟩
  · have q1 : A.den ≤ L := by rw [hA]; exact frac_den_le hd1 hd
    have q2 : B.den ≤ L := by rw [hB]; exact frac_den_le he0 (by omega)
    unfold nearR
    split <;> assumption
  · have hwd := den_pos' w
    rcases farey (x := w.num) (y := (w.den : Int)) (L := (L : Int)) hdet hdet2 hd1 he0 hu0 hyd (by rw [Int.add_mul, Int.one_mul] at hk2; omega) hwd (by omega) with h | h | h | h
    · rw [frac_eq (w := w) hd1 h, ← hA]; exact p1
    · rw [frac_eq (w := w) he0 h, ← hB]; exact p2
    · refine Pref.of_lt p1.le (Rat.not_le.1 fun h9 => ?_)
      rw [hA] at h9
      conv at h9 => lhs; rw [← self_frac w, ← self_frac r]
      conv at h9 => rhs; rw [← self_frac r]
      rw [dist_le hwd hd1 hrd, e1, Int.natAbs_neg, det_abs hdet (by omega)] at h9
      rw [← hD2, ← hN2] at h
      omega
    · refine Pref.of_lt p2.le (Rat.not_le.1 fun h9 => ?_)
      rw [hB] at h9
      conv at h9 => lhs; rw [← self_frac w, ← self_frac r]
      conv at h9 => rhs; rw [← self_frac r]
      rw [dist_le hwd he0 hrd, e2, det_abs hdet (by omega)] at h9
      rw [← hD2, ← hN2] at h
      omega
theorem nearR_a {v a b : Rat} (h : ¬ nearC v a b > 0) : nearR v a b = a := by unfold nearR; rw [if_neg h]
theorem nearR_b {v a b : Rat} (h : nearC v a b > 0) : nearR v a b = b := by unfold nearR; rw [if_pos h]
theorem nearC_1 {v a b : Rat} (h : ¬ (absR (a - v) - absR (b - v)).num.sign = 0) : nearC v a b = (absR (a - v) - absR (b - v)).num.sign := by unfold nearC; rw [if_neg h]
theorem nearC_2 {v a b : Rat} (h : (absR (a - v) - absR (b - v)).num.sign = 0) (k : ¬ (((a.den : Int) : Rat) - ((b.den : Int) : Rat)).num.sign = 0) : nearC v a b = (((a.den : Int) : Rat) - ((b.den : Int) : Rat)).num.sign := by unfold nearC; rw [if_pos h, if_neg k]
theorem nearC_3 {v a b : Rat} (h : (absR (a - v) - absR (b - v)).num.sign = 0) (k : (((a.den : Int) : Rat) - ((b.den : Int) : Rat)).num.sign = 0) : nearC v a b = (a - b).num.sign := by unfold nearC; rw [if_pos h, if_pos k]
theorem nearR_sz {k : Nat} {v a b : Rat} (ha : Sz k a) (hb : Sz k b) : Sz k (nearR v a b) := by unfold nearR; split <;> assumption
/-- what Best answers -/
def BestPost (a b s : ByteArray) (e : Int) : Prop :=
  (¬ ((readR a).isSome ∧ (readR b).isSome) → s = ⟨#[]⟩ ∧ e = 1) ∧
  ((readR a).isSome ∧ (readR b).isSome → ¬ ((getR b).den = 1 ∧ 0 < getR b) → s = ⟨#[]⟩ ∧ e = 3) ∧
  ((readR a).isSome ∧ (readR b).isSome → ∀ L : Nat, 0 < L → getR b = ((L : Int) : Rat) → e = 0 ∧ ∃ z, BestIs (getR a) L z ∧ s = ratS z)
theorem nat_of {r : Rat} (h : r.den = 1) (h0 : 0 < r) : ∃ L : Nat, 0 < L ∧ r = ((L : Int) : Rat) := by
  have h1 := pos_num.1 h0
  refine ⟨r.num.toNat, by omega, ?_⟩
  rw [show ((r.num.toNat : Nat) : Int) = r.num by omega]
  conv => lhs; rw [← self_frac r, h]
  rw [Rat.div_def, show (((1 : Nat) : Int) : Rat)⁻¹ = 1 by decide +kernel, Rat.mul_one]
theorem nat_den (L : Nat) : (((L : Int) : Rat)).den = 1 := Rat.den_intCast ..
theorem bp_bad {a b : ByteArray} (h : ¬ ((readR a).isSome ∧ (readR b).isSome)) : BestPost a b ⟨#[]⟩ 1 := ⟨fun _ => ⟨rfl, rfl⟩, fun k => absurd k h, fun k => absurd k h⟩
theorem bp_range {a b : ByteArray} (h : (readR a).isSome ∧ (readR b).isSome) (k : ¬ ((getR b).den = 1 ∧ 0 < getR b)) : BestPost a b ⟨#[]⟩ 3 :=
  ⟨fun n => absurd h n, fun _ _ => ⟨rfl, rfl⟩, fun _ L hL e => absurd ⟨by rw [e]; exact nat_den L, by rw [e]; exact Rat.intCast_pos.2 (by omega)⟩ k⟩
theorem bp_ok {a b : ByteArray} (h : (readR a).isSome ∧ (readR b).isSome) {L : Nat} (hL : 0 < L) (hb : getR b = ((L : Int) : Rat)) {z : Rat} (hz : BestIs (getR a) L z) : BestPost a b (ratS z) 0 :=
  ⟨fun n => absurd h n, fun _ k => absurd ⟨by rw [hb]; exact nat_den L, by rw [hb]; exact Rat.intCast_pos.2 (by omega)⟩ k, fun _ K hK e => by
    have : K = L := by
      rw [hb] at e
      have := Rat.intCast_inj.1 e
      omega
    subst this
    exact ⟨rfl, z, hz, rfl⟩⟩
/-- the factor of the intermediate fraction -/
theorem cut_floor {L d0 d1 : Int} (hd1 : 0 < d1) (h0 : d0 ≤ L) : 0 ≤ (((L : Rat) - (d0 : Rat)) / (d1 : Rat)).floor ∧ (((L : Rat) - (d0 : Rat)) / (d1 : Rat)).floor * d1 + d0 ≤ L ∧ L < ((((L : Rat) - (d0 : Rat)) / (d1 : Rat)).floor + 1) * d1 + d0 := by
  have h1 := Rat.floor_le (((L : Rat) - (d0 : Rat)) / (d1 : Rat))
  have h2 := Rat.lt_floor_add_one (((L : Rat) - (d0 : Rat)) / (d1 : Rat))
  have h3 : 0 ≤ (((L : Rat) - (d0 : Rat)) / (d1 : Rat)).floor := by
    rw [Rat.le_floor_iff, ← Rat.not_lt, Rat.div_lt_iff (pos_cast hd1), Rat.not_lt, ← Rat.intCast_sub]
    rw [show ((0 : Int) : Rat) * (d1 : Rat) = ((0 : Int) : Rat) by rw [← Rat.intCast_mul, Int.zero_mul], Rat.intCast_le_intCast]
    omega
  generalize (((L : Rat) - (d0 : Rat)) / (d1 : Rat)).floor = f at *
  rw [← Rat.not_lt, Rat.div_lt_iff (pos_cast hd1), Rat.not_lt] at h1 <;> try skip
  rw [Rat.div_lt_iff (pos_cast hd1), ← Rat.intCast_sub, ← Rat.intCast_mul, Rat.intCast_lt_intCast] at h2
  have h4 : f * d1 ≤ L - d0 := by
    rw [← Rat.intCast_sub, ← Rat.intCast_mul] at h1
    exact Rat.intCast_le_intCast.1 h1
  exact ⟨h3, by omega, by omega⟩
theorem cut_cast (x y k : Int) : (x : Rat) + (k : Rat) * (y : Rat) = ((x + k * y : Int) : Rat) := by rw [Rat.intCast_add, Rat.intCast_mul]
end Go.Proofs.Vc
