/- The reference's search of the nearest number: plain. No program occurs here. -/
import Derived.Test.YtnbcedkpkcgmkaaGreatDoorCL
namespace Go.Proofs.Vc
open Go
set_option linter.unusedVariables false
def bcand (r : Rat) (d k : Nat) : Rat := Rat.divInt ((r * ((d : Int) : Rat)).floor + (k : Int)) (d : Int)
def bstep (r : Rat) (d : Nat) (z : Rat) (k : Nat) : Rat := if absR (z - r) ≤ absR (bcand r d k - r) then z else bcand r d k
def GoodB (r : Rat) (d : Nat) (z : Rat) : Prop := (z.den < d ∨ (d = 1 ∧ z = (r.floor : Rat))) ∧ ∀ w : Rat, w.den < d → Pref r z w
theorem GoodB.start (r : Rat) : GoodB r 1 (r.floor : Rat) := ⟨.inr ⟨rfl, rfl⟩, fun w h => by have := w.den_nz; omega⟩
theorem GoodB.best {r z : Rat} {L : Nat} (h : GoodB r (L + 1) z) (hL : 0 < L) : BestIs r L z := by
  refine ⟨?_, fun w hw => h.2 w (by omega)⟩
  rcases h.1 with h1 | ⟨h1, _⟩ <;> omega
theorem bcand_eq (r : Rat) (d k : Nat) : bcand r d k = (((r * ((d : Int) : Rat)).floor + (k : Int) : Int) : Rat) / ((d : Int) : Rat) := by
  unfold bcand
  rw [Rat.divInt_eq_div]
theorem bcand_den {r : Rat} {d k : Nat} (hd : 0 < d) : (bcand r d k).den ≤ d := divInt_den_le hd
/-- a fraction below r -/
theorem below_dist {r : Rat} {x d : Int} (hd : 0 < d) (h : x ≤ (r * (d : Rat)).floor) : (x : Rat) / (d : Rat) ≤ r ∧ absR ((x : Rat) / (d : Rat) - r) = r - (x : Rat) / (d : Rat) := by
  have h1 : (x : Rat) / (d : Rat) ≤ r := by
    rw [← Rat.not_lt, Rat.lt_div_iff (pos_cast hd), Rat.not_lt]
    exact Rat.le_floor_iff.1 h
  refine ⟨h1, ?_⟩
  by_cases e : (x : Rat) / (d : Rat) = r
  · rw [e, Rat.sub_self, absR_zero]
  · have h2 : (x : Rat) / (d : Rat) - r < 0 := by
      have := Rat.lt_of_le_of_ne h1 e
      grind
    rw [absR_neg' h2]
    grind
theorem above_dist {r : Rat} {x d : Int} (hd : 0 < d) (h : (r * (d : Rat)).floor + 1 ≤ x) : r < (x : Rat) / (d : Rat) ∧ absR ((x : Rat) / (d : Rat) - r) = (x : Rat) / (d : Rat) - r := by
  have h1 : r < (x : Rat) / (d : Rat) := by
    rw [Rat.lt_div_iff (pos_cast hd)]
    exact Std.lt_of_lt_of_le (Rat.lt_floor_add_one _) (Rat.intCast_le_intCast.2 h)
  refine ⟨h1, absR_pos' ?_⟩
  have := Rat.le_of_lt h1
  exact (Rat.le_iff_sub_nonneg _ _).1 this
theorem frac_lt {x y d : Int} (hd : 0 < d) (h : x < y) : (x : Rat) / (d : Rat) < (y : Rat) / (d : Rat) := by
  refine Rat.not_le.1 fun h9 => ?_
  rw [frac_le hd hd] at h9
  have := Int.mul_lt_mul_of_pos_right h hd
  omega
theorem bstep_le (r : Rat) (d : Nat) (z : Rat) (k : Nat) : absR (bstep r d z k - r) ≤ absR (z - r) ∧ absR (bstep r d z k - r) ≤ absR (bcand r d k - r) := by
  unfold bstep
  split
  · exact ⟨Rat.le_refl, by assumption⟩
  · rename_i h
    exact ⟨Rat.le_of_lt (Rat.not_le.1 h), Rat.le_refl⟩
theorem bstep_cases (r : Rat) (d : Nat) (z : Rat) (k : Nat) : bstep r d z k = z ∨ (bstep r d z k = bcand r d k ∧ absR (bcand r d k - r) < absR (z - r)) := by
  unfold bstep
  split
  · exact .inl rfl
  · rename_i h
    exact .inr ⟨rfl, Rat.not_le.1 h⟩
theorem GoodB.step {r z : Rat} {d : Nat} (hd : 0 < d) (h : GoodB r d z) : GoodB r (d + 1) (bstep r d (bstep r d z 0) 1) := by
  obtain ⟨z0, hz0⟩ : ∃ z0, z0 = bstep r d z 0 := ⟨_, rfl⟩
  obtain ⟨z1, hz1⟩ : ∃ z1, z1 = bstep r d z0 1 := ⟨_, rfl⟩
  rw [← hz0, ← hz1]
  obtain ⟨a1, a2⟩ := bstep_le r d z 0
  obtain ⟨b1, b2⟩ := bstep_le r d z0 1
  have ca := bstep_cases r d z 0
  have cb := bstep_cases r d z0 1
  rw [← hz0] at a1 a2 ca
  rw [← hz1] at b1 b2 cb
  have hdI : (0 : Int) < (d : Int) := by omega
  have c0 := bcand_eq r d 0
  have c1 := bcand_eq r d 1
  have n0 := bcand_den (r := r) (k := 0) hd
  have n1 := bcand_den (r := r) (k := 1) hd
  obtain ⟨f, hf⟩ : ∃ f, f = (r * ((d : Int) : Rat)).floor := ⟨_, rfl⟩
  rw [← hf] at c0 c1
  rw [show f + ((0 : Nat) : Int) = f by omega] at c0
  rw [show f + ((1 : Nat) : Int) = f + 1 by omega] at c1
  generalize bcand r d 0 = C0 at *
  generalize bcand r d 1 = C1 at *
  obtain ⟨l1, l2⟩ := below_dist (r := r) (x := f) hdI (by rw [hf]; exact Int.le_refl _)
  obtain ⟨u1, u2⟩ := above_dist (r := r) (x := f + 1) hdI (by rw [hf]; exact Int.le_refl _)
  rw [← c0] at l1 l2
  rw [← c1] at u1 u2
  have hC : C0 ≤ C1 := Rat.le_of_lt (Std.lt_of_le_of_lt l1 u1)
  have hzd : z.den ≤ d := by
    rcases h.1 with h1 | ⟨h1, h2⟩
    · omega
    · rw [h2, Rat.den_intCast]; omega
  have hz1z := Rat.le_trans b1 a1
  refine ⟨.inl ?_, fun w hw => ?_⟩
  · rcases cb with e | ⟨e, _⟩
    · rcases ca with e2 | ⟨e2, _⟩
      · rw [e, e2]; omega
      · rw [e, e2]; omega
    · rw [e]; omega
  · rcases Nat.lt_or_ge w.den d with hw1 | hw1
    · have hp := h.2 w hw1
      rcases cb with e | ⟨e, e3⟩
      · rcases ca with e2 | ⟨e2, e4⟩
        · rw [e, e2]; exact hp
        · left
          rw [e, e2]
          exact Std.lt_of_lt_of_le e4 hp.le
      · left
        rw [e]
        exact Std.lt_of_lt_of_le e3 (Rat.le_trans a1 hp.le)
    · have hwd : w.den = d := by omega
      have hwe : w = (w.num : Rat) / ((d : Int) : Rat) := by conv => lhs; rw [← self_frac w, hwd]
      rcases Int.lt_trichotomy w.num f with hx | hx | hx
      · left
        obtain ⟨m1, m2⟩ := below_dist (r := r) (x := w.num) hdI (by rw [← hf]; omega)
        rw [← hwe] at m1 m2
        have hlt := frac_lt hdI hx
        rw [← hwe, ← c0] at hlt
        refine Std.lt_of_le_of_lt (Rat.le_trans b1 a2) ?_
        rw [m2, l2]
        grind
      · rw [hx, ← c0] at hwe
        subst hwe
        by_cases heq : absR (z1 - r) = absR (w - r)
        · right
          refine ⟨heq, ?_⟩
          rcases cb with e | ⟨e, e3⟩
          · rcases ca with e2 | ⟨e2, _⟩
            · rcases h.1 with h1 | ⟨h1, h2⟩
              · left; rw [e, e2]; omega
              · right
                subst h1
                have hzw : z = w := by
                  rw [h2, c0, hf, show (((1 : Nat) : Int) : Rat) = 1 from rfl, Rat.mul_one, Rat.div_def, show (1 : Rat)⁻¹ = 1 by decide +kernel, Rat.mul_one]
                rw [e, e2, hzw]
                exact ⟨rfl, Rat.le_refl⟩
            · right; rw [e, e2]; exact ⟨rfl, Rat.le_refl⟩
          · rw [e] at heq
            rw [heq] at e3
            exact absurd e3 (Rat.not_lt.2 a2)
        · exact .inl (Rat.lt_of_le_of_ne (Rat.le_trans b1 a2) heq)
      · by_cases hx1 : w.num = f + 1
        · rw [hx1, ← c1] at hwe
          subst hwe
          by_cases heq : absR (z1 - r) = absR (w - r)
          · right
            refine ⟨heq, ?_⟩
            rcases cb with e | ⟨e, e3⟩
            · rcases ca with e2 | ⟨e2, _⟩
              · rcases h.1 with h1 | ⟨h1, h2⟩
                · left; rw [e, e2]; omega
                · right
                  subst h1
                  have hzw : z = C0 := by
                    rw [h2, c0, hf, show (((1 : Nat) : Int) : Rat) = 1 from rfl, Rat.mul_one, Rat.div_def, show (1 : Rat)⁻¹ = 1 by decide +kernel, Rat.mul_one]
                  rw [e, e2, hwd, hzw]
                  refine ⟨?_, hC⟩
                  rw [← hzw, h2, Rat.den_intCast]
              · rw [e, e2]
                rcases Nat.lt_or_ge C0.den w.den with h9 | h9
                · exact .inl h9
                · exact .inr ⟨by omega, hC⟩
            · right; rw [e]; exact ⟨rfl, Rat.le_refl⟩
          · exact .inl (Rat.lt_of_le_of_ne b2 heq)
        · left
          obtain ⟨m1, m2⟩ := above_dist (r := r) (x := w.num) hdI (by rw [← hf]; omega)
          rw [← hwe] at m1 m2
          have hlt := frac_lt hdI (show f + 1 < w.num by omega)
          rw [← hwe, ← c1] at hlt
          refine Std.lt_of_le_of_lt b2 ?_
          rw [m2, u2]
          grind
def bsteps (r : Rat) (d : Nat) (z : Rat) : Nat → Rat
  | 0 => z
  | j + 1 => bstep r d (bsteps r d z j) j
theorem bsteps_new {r z : Rat} {d j : Nat} (h : ¬ absR (bsteps r d z j - r) ≤ absR (bcand r d j - r)) : bsteps r d z (j + 1) = bcand r d j := by
  show bstep r d (bsteps r d z j) j = _
  unfold bstep
  rw [if_neg h]
theorem bsteps_old {r z : Rat} {d j : Nat} (h : absR (bsteps r d z j - r) ≤ absR (bcand r d j - r)) : bsteps r d z (j + 1) = bsteps r d z j := by
  show bstep r d (bsteps r d z j) j = _
  unfold bstep
  rw [if_pos h]
theorem bcand_sz {r : Rat} {d j k : Nat} (h : Sz (k + 4) ((r * ((d : Int) : Rat)).floor : Rat)) (hj : j < 10) (hd0 : d ≠ 0) (hd : d < 10 ^ 4) : Sz (k + 5) (bcand r d j) := by
  have h1 := h.natAbs
  have h2 : 10 ^ (k + 5) = 10 ^ (k + 4) * 10 := Nat.pow_succ ..
  have h3 : 10 ^ 4 ≤ 10 ^ (k + 4) := Nat.pow_le_pow_right (by decide) (by omega)
  exact divInt_sz (by omega) (by omega) hd0
theorem bcand_len {F : Int} {j k : Nat} (h : Sz (k + 4) (F : Rat)) (hj : j < 10) (hk : k ≤ 1000000) : (F + (j : Int)).natAbs < 4294967296 ^ 1099511627776 := by
  have h1 : Sz (k + 5) ((F + (j : Int) : Int) : Rat) := by
    have h1 := h.natAbs
    have h2 : 10 ^ (k + 5) = 10 ^ (k + 4) * 10 := Nat.pow_succ ..
    have h3 : 10 ^ 4 ≤ 10 ^ (k + 4) := Nat.pow_le_pow_right (by decide) (by omega)
    exact intR_sz (by omega) (by omega)
  have := (h1.fitH (by omega)).1
  rwa [Rat.num_intCast] at this
end Go.Proofs.Vc
