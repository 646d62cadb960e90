/- Distances and convergents: plain. No program occurs here. -/
import Derived.Test.YtcjhnkmoloiepaaDoorCG
import Derived.Test.YtcjhnkmoloiepaaDoorKX
namespace Go.Proofs.Vc
open Go
set_option linter.unusedVariables false
theorem absR_neg' {x : Rat} (h : x < 0) : absR x = -x := by
  unfold absR
  rw [if_pos (neg_num.1 h)]
theorem absR_pos' {x : Rat} (h : 0 ≤ x) : absR x = x := by
  unfold absR
  rw [if_neg (fun h1 => absurd (neg_num.2 h1) (Rat.not_lt.2 h))]
theorem absR_int {z : Int} : absR (z : Rat) = ((z.natAbs : Int) : Rat) := by
  unfold absR
  rw [Rat.num_intCast]
  by_cases h : z < 0
  · rw [if_pos h, ← Rat.intCast_neg]
    congr 1
    omega
  · rw [if_neg h]
    congr 1
    omega
theorem pos_cast {m : Int} (h : 0 < m) : (0 : Rat) < (m : Rat) := Rat.intCast_pos.2 h
theorem ne_cast {m : Int} (h : 0 < m) : (m : Rat) ≠ 0 := fun e => by have := pos_cast h; rw [e] at this; exact absurd this (by decide)
theorem absR_div {x m : Rat} (h : 0 < m) : absR (x / m) = absR x / m := by
  have hi := Rat.inv_pos.2 h
  by_cases hx : x < 0
  · have h1 : x * m⁻¹ < 0 := by
      have := Rat.mul_lt_mul_of_pos_right hx hi
      rwa [Rat.zero_mul] at this
    rw [Rat.div_def, absR_neg' h1, absR_neg' hx, Rat.div_def, Rat.neg_mul]
  · have hx := Rat.not_lt.1 hx
    have h1 : 0 ≤ x * m⁻¹ := Rat.mul_nonneg hx (Rat.le_of_lt hi)
    rw [Rat.div_def, absR_pos' h1, absR_pos' hx, Rat.div_def]
theorem frac_le {x y m n : Int} (hm : 0 < m) (hn : 0 < n) : (x : Rat) / (m : Rat) ≤ (y : Rat) / (n : Rat) ↔ x * n ≤ y * m := by
  rw [← Rat.not_lt, Rat.div_lt_iff (pos_cast hn), Rat.div_def, Rat.mul_assoc, Rat.mul_comm _ (n : Rat), ← Rat.mul_assoc, ← Rat.div_def, Rat.lt_div_iff (pos_cast hm), ← Rat.intCast_mul, ← Rat.intCast_mul, Rat.intCast_lt_intCast]
  omega
theorem frac_sub {a b c d : Int} (hb : 0 < b) (hd : 0 < d) : (a : Rat) / (b : Rat) - (c : Rat) / (d : Rat) = ((a * d - c * b : Int) : Rat) / ((b * d : Int) : Rat) := by
  have h1 := inv_mul_cancelR (ne_cast hb)
  have h2 := inv_mul_cancelR (ne_cast hd)
  have h3 := inv_mul_cancelR (ne_cast (Int.mul_pos hb hd))
  rw [Rat.div_def, Rat.div_def, Rat.div_def]
  rw [Rat.intCast_mul] at h3 ⊢
  rw [Rat.intCast_sub, Rat.intCast_mul, Rat.intCast_mul]
  grind
theorem dist_frac {a b c d : Int} (hb : 0 < b) (hd : 0 < d) : absR ((a : Rat) / (b : Rat) - (c : Rat) / (d : Rat)) = (((a * d - c * b).natAbs : Int) : Rat) / ((b * d : Int) : Rat) := by
  rw [frac_sub hb hd, absR_div (pos_cast (Int.mul_pos hb hd)), absR_int]
/-- which of two fractions is nearer to c over d -/
theorem dist_le {a b x y c d : Int} (hb : 0 < b) (hy : 0 < y) (hd : 0 < d) :
    absR ((a : Rat) / (b : Rat) - (c : Rat) / (d : Rat)) ≤ absR ((x : Rat) / (y : Rat) - (c : Rat) / (d : Rat)) ↔ ((a * d - c * b).natAbs : Int) * y ≤ ((x * d - c * y).natAbs : Int) * b := by
  rw [dist_frac hb hd, dist_frac hy hd, frac_le (Int.mul_pos hb hd) (Int.mul_pos hy hd), ← Int.mul_assoc, ← Int.mul_assoc]
  exact Int.mul_le_mul_right hd
theorem self_frac (r : Rat) : ((r.num : Int) : Rat) / (((r.den : Int)) : Rat) = r := by
  rw [← Rat.divInt_eq_div, Rat.num_divInt_den]
theorem den_pos' (r : Rat) : 0 < (r.den : Int) := by have := r.den_nz; omega
/-- the denominator of a reduced fraction -/
theorem frac_den {a b : Int} (hb : 0 < b) (h : Int.gcd a b = 1) : ((a : Rat) / (b : Rat)).num = a ∧ (((a : Rat) / (b : Rat)).den : Int) = b := by
  have h1 := frac_parts (x := a) (y := b) hb (by unfold Int.gcd at h; exact h)
  rw [Rat.divInt_eq_div] at h1
  exact ⟨h1.1, by rw [h1.2]; omega⟩
theorem gcd_of_det {a b c d : Int} (h : a * d - b * c = 1 ∨ a * d - b * c = -1) : Int.gcd a b = 1 := by
  have h1 : ((Int.gcd a b : Nat) : Int) ∣ a := Int.gcd_dvd_left ..
  have h2 : ((Int.gcd a b : Nat) : Int) ∣ b := Int.gcd_dvd_right ..
  have h3 : ((Int.gcd a b : Nat) : Int) ∣ 1 := by
    have h4 : ((Int.gcd a b : Nat) : Int) ∣ a * d - b * c := Int.dvd_sub (Int.dvd_mul_of_dvd_left h1) (Int.dvd_mul_of_dvd_left h2)
    rcases h with h | h
    · rwa [h] at h4
    · rw [h] at h4; exact Int.dvd_neg.1 h4
  have := Int.natAbs_dvd_natAbs.2 h3
  simpa using this
/-! what is still to come behind i quotients -/
theorem cf_drop (r : Rat) : ∀ i, i < (cf r).length → ∃ y : Rat, (cf r).drop i = cf y ∧ (0 < i → (y.den : Int) < y.num) := by
  refine cf_ind (M := fun r => ∀ i, i < (cf r).length → ∃ y : Rat, (cf r).drop i = cf y ∧ (0 < i → (y.den : Int) < y.num)) ?_ ?_ r
  · intro y h i hi
    rw [cf_stop h, List.length_singleton] at hi
    exact ⟨y, by rw [show i = 0 by omega]; rfl, fun h => by omega⟩
  · intro y h ih i hi
    cases i with
    | zero => exact ⟨y, rfl, fun h => by omega⟩
    | succ i =>
      rw [cf_more h] at hi ⊢
      obtain ⟨z, h1, h2⟩ := ih i (by simpa using hi)
      refine ⟨z, by simpa using h1, fun _ => ?_⟩
      cases i with
      | zero =>
        have h3 : cf (y - (y.floor : Rat))⁻¹ = cf z := by simpa using h1
        have h4 : z = (y - (y.floor : Rat))⁻¹ := by
          have e1 := CV.run_cf z CV.start
          have e2 := CV.run_cf (y - (y.floor : Rat))⁻¹ CV.start
          rw [h3] at e2
          rw [e1.1, e1.2] at e2
          simp only [CV.start, Int.one_mul, Int.zero_mul, Int.add_zero, Int.zero_add] at e2
          exact Rat.ext e2.1 (by omega)
        rw [h4]
        exact over_one h
      | succ i => exact h2 (by omega)
theorem CV.run_drop (l : List Int) (i : Nat) : CV.start.run l = (cvS l i).run (l.drop i) := by
  unfold cvS
  rw [← CV.run_append, List.take_append_drop]
theorem cvS_end (r : Rat) : (cvS (cf r) (cf r).length).n1 = r.num ∧ (cvS (cf r) (cf r).length).d1 = (r.den : Int) := by
  unfold cvS
  rw [List.take_length]
  obtain ⟨h1, h2⟩ := CV.run_cf r CV.start
  rw [h1, h2]
  simp [CV.start]
theorem cvS_rest {r : Rat} {i : Nat} (h : i < (cf r).length) : ∃ y : Rat, (cf r)[i]? = some y.floor ∧ r.num = (cvS (cf r) i).n1 * y.num + (cvS (cf r) i).n0 * (y.den : Int) ∧ (r.den : Int) = (cvS (cf r) i).d1 * y.num + (cvS (cf r) i).d0 * (y.den : Int) ∧ (0 < i → (y.den : Int) < y.num) := by
  obtain ⟨y, h1, h2⟩ := cf_drop r i h
  have e := CV.run_drop (cf r) i
  rw [h1] at e
  obtain ⟨a1, a2⟩ := CV.run_cf r CV.start
  obtain ⟨b1, b2⟩ := CV.run_cf y (cvS (cf r) i)
  rw [e] at a1 a2
  rw [b1] at a1
  rw [b2] at a2
  simp only [CV.start, Int.one_mul, Int.zero_mul, Int.add_zero, Int.zero_add] at a1 a2
  refine ⟨y, ?_, a1.symm, a2.symm, h2⟩
  obtain ⟨t, ht⟩ := cf_head y
  rw [ht] at h1
  have := congrArg (fun l => l[0]?) h1
  simpa using this
theorem cvS_ok {r : Rat} : ∀ i, i ≤ (cf r).length → (cvS (cf r) i).Ok ∧ (0 < i → 0 < (cvS (cf r) i).d1) ∧ (1 < i → 0 < (cvS (cf r) i).d0) := by
  obtain ⟨l, hl⟩ := cf_head r
  have hp := cf_tail_pos hl
  intro i
  induction i with
  | zero => intro _; exact ⟨CV.Ok.start, fun h => by omega, fun h => by omega⟩
  | succ i ih =>
    intro hi
    obtain ⟨h1, h2, h3⟩ := ih (by omega)
    have hget : (cf r)[i]? = some (cf r)[i] := List.getElem?_eq_getElem (by omega)
    rw [cvS_step hget]
    cases i with
    | zero =>
      refine ⟨⟨?_, ?_, ?_⟩, fun _ => ?_, fun h => by omega⟩ <;> simp [cvS, CV.run, CV.step, CV.start]
    | succ i =>
      have ha : 1 ≤ (cf r)[i + 1] := by
        apply hp
        have : (cf r)[i + 1]? = l[i]? := by rw [hl]; simp
        rw [hget] at this
        exact List.mem_of_getElem? this.symm
      obtain ⟨k1, k2, k3⟩ := h1.step ha
      exact ⟨k1, fun _ => k3, fun _ => h2 (by omega)⟩
theorem cvS_det (r : Rat) (i : Nat) : (cvS (cf r) i).det = 1 ∨ (cvS (cf r) i).det = -1 := CV.det_run _ _ CV.det_start
/-- the last convergent is the number itself -/
theorem cvR_last (r : Rat) : (cvR (cf r))[(cf r).length - 1]? = some r := by
  have h := List.length_pos_iff.2 (cf_ne r)
  rw [cvR_get (by omega), show (cf r).length - 1 + 1 = (cf r).length by omega, (cvS_end r).1, (cvS_end r).2, self_frac]
theorem cv_den {r : Rat} {i : Nat} (h0 : 0 < i) (h : i ≤ (cf r).length) : ((((cvS (cf r) i).n1 : Rat) / ((cvS (cf r) i).d1 : Rat)).den : Int) = (cvS (cf r) i).d1 := by
  refine (frac_den ((cvS_ok i h).2.1 h0) (gcd_of_det (c := (cvS (cf r) i).n0) (d := (cvS (cf r) i).d0) ?_)).2
  have := cvS_det r i
  unfold CV.det at this
  rcases this with h | h
  · right
    have : (cvS (cf r) i).n0 * (cvS (cf r) i).d1 = (cvS (cf r) i).d1 * (cvS (cf r) i).n0 := Int.mul_comm ..
    omega
  · left
    have : (cvS (cf r) i).n0 * (cvS (cf r) i).d1 = (cvS (cf r) i).d1 * (cvS (cf r) i).n0 := Int.mul_comm ..
    omega
theorem cv_asc {r : Rat} {i : Nat} (h0 : 0 < i) (h : i < (cf r).length) : (cvS (cf r) i).d1 ≤ (cvS (cf r) (i + 1)).d1 ∧ (1 < i → (cvS (cf r) i).d1 < (cvS (cf r) (i + 1)).d1) := by
  obtain ⟨l, hl⟩ := cf_head r
  have hp := cf_tail_pos hl
  have hget : (cf r)[i]? = some (cf r)[i] := List.getElem?_eq_getElem (by omega)
  have ha : 1 ≤ (cf r)[i] := by
    apply hp
    obtain ⟨j, rfl⟩ : ∃ j, i = j + 1 := ⟨i - 1, by omega⟩
    have : (cf r)[j + 1]? = l[j]? := by rw [hl]; simp
    rw [hget] at this
    exact List.mem_of_getElem? this.symm
  obtain ⟨h1, h2, h3⟩ := cvS_ok i (Nat.le_of_lt h)
  rw [cvS_step hget]
  have h4 : (cvS (cf r) i).d1 ≤ (cf r)[i] * (cvS (cf r) i).d1 := by
    have := Int.mul_le_mul_of_nonneg_right ha h1.d1
    rwa [Int.one_mul] at this
  have h5 := h1.d0
  simp only [CV.step]
  exact ⟨by omega, fun h => by have := h3 h; omega⟩
/-- where the number lies behind i quotients -/
theorem cvS_pt {r : Rat} {i : Nat} (h0 : 0 < i) (h : i ≤ (cf r).length) : ∃ p t : Int, 0 ≤ t ∧ t < p ∧ r.num = (cvS (cf r) i).n1 * p + (cvS (cf r) i).n0 * t ∧ (r.den : Int) = (cvS (cf r) i).d1 * p + (cvS (cf r) i).d0 * t := by
  rcases Nat.lt_or_ge i (cf r).length with h1 | h1
  · obtain ⟨y, _, h2, h3, h4⟩ := cvS_rest h1
    exact ⟨y.num, (y.den : Int), by omega, h4 h0, h2, h3⟩
  · obtain rfl : i = (cf r).length := by omega
    exact ⟨1, 0, by decide, by decide, by rw [(cvS_end r).1]; omega, by rw [(cvS_end r).2]; omega⟩
theorem det_abs {δ t : Int} (hδ : δ = 1 ∨ δ = -1) (ht : 0 ≤ t) : ((t * δ).natAbs : Int) = t := by
  rcases hδ with h | h <;> subst h <;> omega
/-- each convergent is nearer than the one before it -/
theorem cv_nearer {r : Rat} {i : Nat} (h0 : 0 < i) (h : i < (cf r).length) :
    ¬ absR (((cvS (cf r) i).n1 : Rat) / ((cvS (cf r) i).d1 : Rat) - r) ≤ absR (((cvS (cf r) (i + 1)).n1 : Rat) / ((cvS (cf r) (i + 1)).d1 : Rat) - r) := by
  obtain ⟨p, t, ht, hpt, hN, hD⟩ := cvS_pt (r := r) (i := i + 1) (by omega) h
  have hdet := cvS_det r (i + 1)
  obtain ⟨hok, hd1, _⟩ := cvS_ok (r := r) (i + 1) h
  have hd0 := (cvS_ok (r := r) i (Nat.le_of_lt h)).2.1 h0
  have hasc := (cv_asc h0 h).1
  have e0 : (cvS (cf r) (i + 1)).n0 = (cvS (cf r) i).n1 ∧ (cvS (cf r) (i + 1)).d0 = (cvS (cf r) i).d1 := by
    rw [cvS_step (List.getElem?_eq_getElem h)]
    exact ⟨rfl, rfl⟩
  rw [← e0.1, ← e0.2]
  rw [← e0.2] at hd0 hasc
  have hd1' := hd1 (by omega)
  generalize cvS (cf r) (i + 1) = s at *
  have hdp := den_pos' r
  conv => rhs; rw [← self_frac r]
  rw [dist_le hd0 hd1' hdp]
  have e1 : s.n0 * (r.den : Int) - r.num * s.d0 = p * s.det := by rw [hD, hN]; unfold CV.det; grind
  have e2 : s.n1 * (r.den : Int) - r.num * s.d1 = -(t * s.det) := by rw [hD, hN]; unfold CV.det; grind
  rw [e1, e2, Int.natAbs_neg, det_abs hdet ht, det_abs hdet (by omega)]
  have h5 : t * s.d0 ≤ t * s.d1 := Int.mul_le_mul_of_nonneg_left hasc ht
  have h6 : t * s.d1 < p * s.d1 := Int.mul_lt_mul_of_pos_right hpt hd1'
  omega
/-- the i-th convergent -/
def cvX (l : List Int) (i : Nat) : Rat := ((cvS l i).n1 : Rat) / ((cvS l i).d1 : Rat)
theorem cvT_get {l : List Int} {i : Nat} {s : ByteArray} (h : ((cvR l).map ratS)[i]? = some s) (hi : i < l.length) : s = ratS (cvX l (i + 1)) := by
  rw [List.getElem?_map, cvR_get hi] at h
  exact (Option.some.inj h).symm
theorem cvX_sz {k i : Nat} {r : Rat} (hz : Sz k r) : Sz (1 + (8 * k + 1) * (k + 1) + (1 + (8 * k + 1) * (k + 1))) (cvX (cf r) i) := by
  obtain ⟨_, _, s1, s2⟩ := (cvS_sz (i := i) hz).sz (by omega)
  exact s1.div s2
theorem sign_le {z : Int} (h : z ≤ 0) : ¬ z.sign > 0 := by
  rcases Int.lt_or_eq_of_le h with h | h
  · rw [Int.sign_eq_neg_one_of_neg h]; decide
  · rw [h]; decide
theorem sign_z {z : Int} (h : z.sign = 0) : z = 0 := Int.sign_eq_zero_iff_zero.1 h
theorem cvT_last {r : Rat} {s : ByteArray} {n : Nat} (h : ((cvR (cf r)).map ratS)[n - 1]? = some s) (hn : n = (cf r).length) : s = ratS r := by
  rw [hn, List.getElem?_map, cvR_last] at h
  exact (Option.some.inj h).symm
theorem cvX_asc {r : Rat} {i : Nat} (h0 : 0 < i) (h : i < (cf r).length) : ((cvX (cf r) i).den : Int) - ((cvX (cf r) (i + 1)).den : Int) ≤ 0 ∧ (1 < i → ((cvX (cf r) i).den : Int) - ((cvX (cf r) (i + 1)).den : Int) < 0) := by
  unfold cvX
  rw [cv_den h0 (Nat.le_of_lt h), cv_den (i := i + 1) (by omega) h]
  obtain ⟨h1, h2⟩ := cv_asc h0 h
  exact ⟨by omega, fun h => by have := h2 h; omega⟩
theorem frac_szI {n d : Int} (h1 : -9223372036854775808 ≤ n) (h2 : n ≤ 9223372036854775807) (h3 : -9223372036854775808 ≤ d) (h4 : d ≤ 9223372036854775807) (h0 : d ≠ 0) : Sz 19 (Rat.divInt n d) := by
  have key : ∀ (n : Int) (D : Nat), n.natAbs ≤ 9223372036854775808 → D ≤ 9223372036854775808 → D ≠ 0 → Sz 19 (Rat.divInt n (D : Int)) := fun n D a b c => divInt_sz (by omega) (by omega) c
  rcases Int.lt_or_gt_of_ne h0 with h | h
  · rw [show Rat.divInt n d = Rat.divInt (-n) (-d) from (Rat.neg_divInt_neg ..).symm, show -d = ((d.natAbs : Nat) : Int) by omega]
    exact key _ _ (by omega) (by omega) (by omega)
  · rw [show d = ((d.natAbs : Nat) : Int) by omega]
    exact key _ _ (by omega) (by omega) (by omega)
end Go.Proofs.Vc
