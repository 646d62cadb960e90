/- A helper of the claim: general lemmas and walks of functions, printed by a program of this session. Conditions: none. -/
import Derived.Test.YtcjhnkmoloiepaaDoorKS
namespace Go.Proofs.Vc
open Go
set_option linter.unusedVariables false
/-- the partial quotients (n: more than enough rounds) -/
def cfF : Nat → Rat → List Int
  | 0, _ => []
  | n + 1, y => y.floor :: if y - (y.floor : Rat) = 0 then [] else cfF n (y - (y.floor : Rat))⁻¹
def cf (r : Rat) : List Int := cfF r.den r
/-- the rest of a number that is not whole -/
theorem frac_parts2 {y : Rat} (h : y - (y.floor : Rat) ≠ 0) :
    (y - (y.floor : Rat))⁻¹.num = (y.den : Int) ∧ ((y - (y.floor : Rat))⁻¹.den : Int) = y.num - y.floor * (y.den : Int) ∧ (y - (y.floor : Rat))⁻¹.den < y.den ∧ 0 < (y - (y.floor : Rat)).num := by
  obtain ⟨h1, h2⟩ := sub_parts y y.floor
  have h3 : 0 ≤ y - (y.floor : Rat) := (Rat.le_iff_sub_nonneg _ _).1 (Rat.floor_le y)
  have h4 : 0 < (y - (y.floor : Rat)).num := by
    have h5 := Rat.num_nonneg.2 h3
    have h6 : (y - (y.floor : Rat)).num ≠ 0 := fun e => h (Rat.num_eq_zero.1 e)
    omega
  obtain ⟨i1, i2⟩ := inv_parts h4
  have h7 : y < ((y.floor + 1 : Int) : Rat) := Rat.lt_floor_add_one y
  rw [Rat.lt_iff, Rat.num_intCast, Rat.den_intCast, Int.add_mul] at h7
  refine ⟨by rw [i1, h2], by rw [i2, h1]; omega, ?_, h4⟩
  rw [i2, h1]
  rw [h1] at h4
  omega
theorem frac_zero {y : Rat} (h : y - (y.floor : Rat) = 0) : y.num = y.floor ∧ y.den = 1 := by
  have h1 : y = (y.floor : Rat) := by grind
  exact ⟨by conv => lhs; rw [h1, Rat.num_intCast], by rw [h1, Rat.den_intCast]⟩
theorem cfF_stop {n : Nat} {y : Rat} (h : y - (y.floor : Rat) = 0) : cfF (n + 1) y = [y.floor] := by rw [cfF, if_pos h]
theorem cfF_more {n : Nat} {y : Rat} (h : ¬ y - (y.floor : Rat) = 0) : cfF (n + 1) y = y.floor :: cfF n (y - (y.floor : Rat))⁻¹ := by rw [cfF, if_neg h]
theorem cfF_fuel : ∀ (n m : Nat) (y : Rat), y.den ≤ n → y.den ≤ m → cfF n y = cfF m y
  | 0, m, y, hn, hm => by have := y.den_nz; omega
  | n + 1, 0, y, hn, hm => by have := y.den_nz; omega
  | n + 1, m + 1, y, hn, hm => by
    by_cases h : y - (y.floor : Rat) = 0
    · rw [cfF_stop h, cfF_stop h]
    · obtain ⟨_, _, h3, _⟩ := frac_parts2 h
      rw [cfF_more h, cfF_more h, cfF_fuel n m _ (by omega) (by omega)]
theorem cf_stop {y : Rat} (h : y - (y.floor : Rat) = 0) : cf y = [y.floor] := by
  unfold cf
  obtain ⟨n, hn⟩ : ∃ n, y.den = n + 1 := ⟨y.den - 1, by have := y.den_nz; omega⟩
  rw [hn, cfF_stop h]
theorem cf_more {y : Rat} (h : ¬ y - (y.floor : Rat) = 0) : cf y = y.floor :: cf (y - (y.floor : Rat))⁻¹ := by
  unfold cf
  obtain ⟨n, hn⟩ : ∃ n, y.den = n + 1 := ⟨y.den - 1, by have := y.den_nz; omega⟩
  obtain ⟨_, _, h3, _⟩ := frac_parts2 h
  rw [hn, cfF_more h, cfF_fuel n _ _ (by omega) (Nat.le_refl _)]
theorem cf_ind {M : Rat → Prop} (h0 : ∀ y : Rat, y - (y.floor : Rat) = 0 → M y) (h1 : ∀ y : Rat, ¬ y - (y.floor : Rat) = 0 → M (y - (y.floor : Rat))⁻¹ → M y) (y : Rat) : M y := by
  have key : ∀ (n : Nat) (y : Rat), y.den ≤ n → M y := by
    intro n
    induction n with
    | zero => intro y h; have := y.den_nz; omega
    | succ n ih =>
      intro y h
      by_cases hz : y - (y.floor : Rat) = 0
      · exact h0 y hz
      · obtain ⟨_, _, h3, _⟩ := frac_parts2 hz
        exact h1 y hz (ih _ (by omega))
  exact key y.den y (Nat.le_refl _)
/-- a number over 1 has a positive whole part, and so have its rests -/
theorem over_one {y : Rat} (h : ¬ y - (y.floor : Rat) = 0) : ((y - (y.floor : Rat))⁻¹.den : Int) < (y - (y.floor : Rat))⁻¹.num := by
  obtain ⟨h1, h2, h3, h4⟩ := frac_parts2 h
  rw [h1]
  omega
theorem floor_one {y : Rat} (h : (y.den : Int) < y.num) : 1 ≤ y.floor := by
  rw [Rat.le_floor_iff, Rat.le_iff]
  simp
  omega
theorem cf_pos (y : Rat) : (y.den : Int) < y.num → ∀ a ∈ cf y, 1 ≤ a := by
  refine cf_ind (M := fun y => (y.den : Int) < y.num → ∀ a ∈ cf y, 1 ≤ a) ?_ ?_ y
  · intro y h hy a ha
    rw [cf_stop h, List.mem_singleton] at ha
    rw [ha]
    exact floor_one hy
  · intro y h ih hy a ha
    rw [cf_more h, List.mem_cons] at ha
    rcases ha with ha | ha
    · rw [ha]; exact floor_one hy
    · exact ih (over_one h) a ha
theorem cf_ne (y : Rat) : cf y ≠ [] := by
  by_cases h : y - (y.floor : Rat) = 0
  · rw [cf_stop h]; simp
  · rw [cf_more h]; simp
theorem cf_tail_pos {y : Rat} {l : List Int} (h : cf y = y.floor :: l) : ∀ a ∈ l, 1 ≤ a := by
  intro a ha
  by_cases hz : y - (y.floor : Rat) = 0
  · rw [cf_stop hz] at h
    have : l = [] := by simpa using h.symm
    rw [this] at ha
    cases ha
  · rw [cf_more hz] at h
    have : cf (y - (y.floor : Rat))⁻¹ = l := by simpa using h
    rw [← this] at ha
    exact cf_pos _ (over_one hz) a ha
theorem cf_head (y : Rat) : ∃ l, cf y = y.floor :: l := by
  by_cases h : y - (y.floor : Rat) = 0
  · exact ⟨[], cf_stop h⟩
  · exact ⟨_, cf_more h⟩
/-! convergents -/
structure CV where
  n0 : Int
  d0 : Int
  n1 : Int
  d1 : Int
def CV.start : CV := ⟨0, 1, 1, 0⟩
def CV.step (s : CV) (a : Int) : CV := ⟨s.n1, s.d1, a * s.n1 + s.n0, a * s.d1 + s.d0⟩
def CV.run (s : CV) (l : List Int) : CV := l.foldl CV.step s
theorem CV.run_nil (s : CV) : s.run [] = s := rfl
theorem CV.run_cons (s : CV) (a : Int) (l : List Int) : s.run (a :: l) = (s.step a).run l := rfl
theorem CV.run_append (s : CV) (l m : List Int) : s.run (l ++ m) = (s.run l).run m := List.foldl_append
/-- all quotients lead to the number itself -/
theorem CV.run_cf (y : Rat) : ∀ s : CV, (s.run (cf y)).n1 = s.n1 * y.num + s.n0 * (y.den : Int) ∧ (s.run (cf y)).d1 = s.d1 * y.num + s.d0 * (y.den : Int) := by
  refine cf_ind (M := fun y => ∀ s : CV, (s.run (cf y)).n1 = s.n1 * y.num + s.n0 * (y.den : Int) ∧ (s.run (cf y)).d1 = s.d1 * y.num + s.d0 * (y.den : Int)) ?_ ?_ y
  · intro y h s
    obtain ⟨h1, h2⟩ := frac_zero h
    rw [cf_stop h, CV.run_cons, CV.run_nil, h1, h2]
    constructor <;> simp [CV.step, Int.mul_comm]
  · intro y h ih s
    obtain ⟨h1, h2, _, _⟩ := frac_parts2 h
    rw [cf_more h, CV.run_cons]
    obtain ⟨i1, i2⟩ := ih (s.step y.floor)
    rw [i1, i2, h1, h2]
    simp only [CV.step]
    constructor <;> grind
/-- nothing is left over: neighbours have determinant 1 or -1 -/
def CV.det (s : CV) : Int := s.n0 * s.d1 - s.n1 * s.d0
theorem CV.det_step (s : CV) (a : Int) : (s.step a).det = -s.det := by
  simp only [CV.det, CV.step]
  grind
theorem CV.det_run (l : List Int) : ∀ s : CV, s.det = 1 ∨ s.det = -1 → (s.run l).det = 1 ∨ (s.run l).det = -1 := by
  induction l with
  | nil => intro s h; exact h
  | cons a l ih =>
    intro s h
    rw [CV.run_cons]
    exact ih _ (by rw [CV.det_step]; omega)
theorem CV.det_start : CV.start.det = 1 ∨ CV.start.det = -1 := .inr (by decide)
/-- denominators are not negative and grow -/
structure CV.Ok (s : CV) : Prop where
  d0 : 0 ≤ s.d0
  d1 : 0 ≤ s.d1
  pos : 0 < s.d0 + s.d1
theorem CV.Ok.start : CV.start.Ok := ⟨by decide, by decide, by decide⟩
theorem CV.Ok.step {s : CV} (h : s.Ok) {a : Int} (ha : 1 ≤ a) : (s.step a).Ok ∧ s.d1 ≤ (s.step a).d1 ∧ 0 < (s.step a).d1 := by
  obtain ⟨h0, h1, hp⟩ := h
  have h2 : s.d1 ≤ a * s.d1 := by
    have := Int.mul_le_mul_of_nonneg_right ha h1
    rwa [Int.one_mul] at this
  refine ⟨⟨h1, ?_, ?_⟩, ?_, ?_⟩ <;> simp only [CV.step] <;> omega
theorem CV.Ok.run : ∀ (l : List Int) {s : CV}, s.Ok → (∀ a ∈ l, 1 ≤ a) → (s.run l).Ok ∧ s.d1 ≤ (s.run l).d1
  | [], s, h, _ => ⟨h, Int.le_refl _⟩
  | a :: l, s, h, ha => by
    rw [CV.run_cons]
    obtain ⟨h1, h2, _⟩ := h.step (ha a (by simp))
    obtain ⟨h3, h4⟩ := CV.Ok.run l h1 (fun b hb => ha b (by simp [hb]))
    exact ⟨h3, Int.le_trans h2 h4⟩
/-- the value of a continued fraction -/
def cfVal : List Int → Rat
  | [] => 0
  | [a] => (a : Rat)
  | a :: b :: l => (a : Rat) + 1 / cfVal (b :: l)
theorem cfVal_pos : ∀ (l : List Int), l ≠ [] → (∀ a ∈ l, 1 ≤ a) → 0 < cfVal l
  | [], h, _ => absurd rfl h
  | [a], _, h => by
    have h1 := h a (by simp)
    show (0 : Rat) < (a : Rat)
    exact Rat.intCast_pos.2 (by omega)
  | a :: b :: l, _, h => by
    have h1 := h a (by simp)
    have h2 := cfVal_pos (b :: l) (by simp) (fun c hc => h c (List.mem_cons_of_mem _ hc))
    show (0 : Rat) < (a : Rat) + 1 / cfVal (b :: l)
    have h3 : (0 : Rat) < (a : Rat) := Rat.intCast_pos.2 (by omega)
    have h4 : (0 : Rat) < (cfVal (b :: l))⁻¹ := Rat.inv_pos.2 h2
    rw [Rat.div_def, Rat.one_mul]
    grind
theorem rest_sz {k : Nat} {y : Rat} (h : ¬ y - (y.floor : Rat) = 0) (hz : Sz k y) : Sz k (y - (y.floor : Rat))⁻¹ := by
  obtain ⟨h1, _, h3, _⟩ := frac_parts2 h
  exact ⟨by rw [h1, Int.natAbs_natCast]; exact hz.2, Nat.lt_trans h3 hz.2⟩
theorem frac_sz {k : Nat} {y : Rat} (hz : Sz k y) : Sz k (y - (y.floor : Rat)) := by
  by_cases h : y - (y.floor : Rat) = 0
  · rw [h]
    exact ⟨Nat.pow_pos (by decide), one_lt_ten hz.pos⟩
  · have h1 := (rest_sz h hz).inv
    rwa [Rat.inv_inv] at h1
theorem cf_sz {k : Nat} (y : Rat) : Sz k y → ∀ a ∈ cf y, Sz k (a : Rat) := by
  refine cf_ind (M := fun y => Sz k y → ∀ a ∈ cf y, Sz k (a : Rat)) ?_ ?_ y
  · intro y h hy a ha
    rw [cf_stop h, List.mem_singleton] at ha
    rw [ha]
    exact floor_sz hy
  · intro y h ih hy a ha
    rw [cf_more h, List.mem_cons] at ha
    rcases ha with ha | ha
    · rw [ha]; exact floor_sz hy
    · exact ih (rest_sz h hy) a ha
theorem cf_len : ∀ (m : Nat) (y : Rat), y.den < 2 ^ m → (cf y).length ≤ 2 * m + 1
  | 0, y, h => by have := y.den_nz; omega
  | m + 1, y, h => by
    by_cases h1 : y - (y.floor : Rat) = 0
    · rw [cf_stop h1]; simp
    · rw [cf_more h1, List.length_cons]
      obtain ⟨a1, a2, a3, _⟩ := frac_parts2 h1
      have a5 := over_one h1
      revert a1 a2 a3 a5
      generalize (y - (y.floor : Rat))⁻¹ = z
      intro a1 a2 a3 a5
      by_cases h2 : z - (z.floor : Rat) = 0
      · rw [cf_stop h2, List.length_singleton]; omega
      · rw [cf_more h2, List.length_cons]
        obtain ⟨b1, b2, b3, _⟩ := frac_parts2 h2
        have hf := floor_one a5
        have h9 : (z.den : Int) ≤ z.floor * (z.den : Int) := by
          have := Int.mul_le_mul_of_nonneg_right hf (show (0 : Int) ≤ (z.den : Int) by omega)
          rwa [Int.one_mul] at this
        have h4 : (z - (z.floor : Rat))⁻¹.den < 2 ^ m := by
          rw [Nat.pow_succ] at h
          omega
        have := cf_len m _ h4
        omega
theorem cf_len_sz {k : Nat} {y : Rat} (h : Sz k y) : (cf y).length ≤ 8 * k + 1 := by
  have h1 : (10 : Nat) ^ k ≤ 2 ^ (4 * k) := by
    rw [Nat.pow_mul]
    exact Nat.pow_le_pow_left (by decide) k
  have := cf_len (4 * k) y (Nat.lt_of_lt_of_le h.2 h1)
  omega
def cfR (r : Rat) : List Rat := (cf r).map (fun a : Int => (a : Rat))
theorem cfR_length (r : Rat) : (cfR r).length = (cf r).length := by simp [cfR]
theorem sgn_z {x : Rat} : x.num.sign = 0 ↔ x = 0 := by rw [Int.sign_eq_zero_iff_zero, Rat.num_eq_zero]
end Go.Proofs.Vc

namespace Go.Proofs.Vc
open Go
set_option linter.unusedVariables false
theorem inv_mul_cancelR {x : Rat} (h : x ≠ 0) : x * x⁻¹ = 1 := Rat.mul_inv_cancel x h
theorem div_scale {a b c : Rat} (hc : c ≠ 0) : (c * a) / (c * b) = a / b := by
  rw [Rat.div_def, Rat.div_def, Rat.inv_mul_rev]
  have := inv_mul_cancelR hc
  grind
/-- the value of the fraction that goes on with m behind the state s -/
theorem CV.val : ∀ (m : List Int) (s : CV), m ≠ [] → (∀ a ∈ m, 1 ≤ a) → s.Ok →
    ((s.run m).n1 : Rat) / ((s.run m).d1 : Rat) = ((s.n1 : Rat) * cfVal m + (s.n0 : Rat)) / ((s.d1 : Rat) * cfVal m + (s.d0 : Rat))
  | [], s, h, _, _ => absurd rfl h
  | [a], s, _, ha, hs => by
    rw [CV.run_cons, CV.run_nil]
    simp only [CV.step, cfVal, Rat.intCast_add, Rat.intCast_mul, Rat.mul_comm]
  | a :: b :: m, s, _, ha, hs => by
    have hm : ∀ c ∈ b :: m, 1 ≤ c := fun c hc => ha c (List.mem_cons_of_mem _ hc)
    have hV := cfVal_pos (b :: m) (by simp) hm
    have hV0 : cfVal (b :: m) ≠ 0 := fun e => by rw [e] at hV; exact absurd hV (by decide)
    rw [CV.run_cons, CV.val (b :: m) (s.step a) (by simp) hm (hs.step (ha a (by simp))).1]
    show _ = ((s.n1 : Rat) * ((a : Rat) + 1 / cfVal (b :: m)) + (s.n0 : Rat)) / ((s.d1 : Rat) * ((a : Rat) + 1 / cfVal (b :: m)) + (s.d0 : Rat))
    generalize cfVal (b :: m) = V at *
    have hi := inv_mul_cancelR hV0
    rw [← div_scale (a := (s.n1 : Rat) * ((a : Rat) + 1 / V) + (s.n0 : Rat)) hV0, Rat.div_def 1 V, Rat.one_mul]
    simp only [CV.step, Rat.intCast_add, Rat.intCast_mul]
    congr 1 <;> grind
theorem CV.val_start (a : Int) (m : List Int) (hm : ∀ b ∈ m, 1 ≤ b) : ((CV.start.run (a :: m)).n1 : Rat) / ((CV.start.run (a :: m)).d1 : Rat) = cfVal (a :: m) := by
  cases m with
  | nil =>
    rw [CV.run_cons, CV.run_nil]
    simp only [CV.step, CV.start, cfVal, Int.mul_one, Int.add_zero, Int.mul_zero, Int.zero_add]
    rw [Rat.div_def, show (((1 : Int) : Rat))⁻¹ = 1 by decide +kernel, Rat.mul_one]
  | cons b m =>
    have hV := cfVal_pos (b :: m) (by simp) hm
    have hV0 : cfVal (b :: m) ≠ 0 := fun e => by rw [e] at hV; exact absurd hV (by decide)
    rw [CV.run_cons, CV.val (b :: m) _ (by simp) hm ⟨by simp [CV.step, CV.start], by simp [CV.step, CV.start], by simp [CV.step, CV.start]⟩]
    show _ = (a : Rat) + 1 / cfVal (b :: m)
    generalize cfVal (b :: m) = V at *
    have hi := inv_mul_cancelR hV0
    simp only [CV.step, CV.start, Int.mul_one, Int.add_zero, Int.mul_zero, Int.zero_add]
    rw [Rat.div_def, Rat.div_def]
    rw [show ((1 : Int) : Rat) * V + ((0 : Int) : Rat) = V by grind]
    have : ((1 : Int) : Rat) = 1 := rfl
    grind
/-- the convergents -/
def cvS (l : List Int) (i : Nat) : CV := CV.start.run (l.take i)
def cvR (l : List Int) : List Rat := (List.range l.length).map fun i => ((cvS l (i + 1)).n1 : Rat) / ((cvS l (i + 1)).d1 : Rat)
theorem cvR_length (l : List Int) : (cvR l).length = l.length := by simp [cvR]
theorem cvR_get {l : List Int} {i : Nat} (h : i < l.length) : (cvR l)[i]? = some (((cvS l (i + 1)).n1 : Rat) / ((cvS l (i + 1)).d1 : Rat)) := by
  simp [cvR, h]
theorem cvR_take {l : List Int} {i : Nat} (h : i < l.length) : (cvR l).take (i + 1) = (cvR l).take i ++ [((cvS l (i + 1)).n1 : Rat) / ((cvS l (i + 1)).d1 : Rat)] := by
  rw [List.take_add_one, cvR_get h]
  rfl
theorem cvS_step {l : List Int} {i : Nat} {a : Int} (h : l[i]? = some a) : cvS l (i + 1) = (cvS l i).step a := by
  unfold cvS
  rw [List.take_add_one, h, CV.run_append]
  rfl
theorem cv_castn (s : CV) (a : Int) : (a : Rat) * (s.n1 : Rat) + (s.n0 : Rat) = (((s.step a).n1 : Int) : Rat) := by simp only [CV.step, Rat.intCast_add, Rat.intCast_mul]
theorem cv_castd (s : CV) (a : Int) : (a : Rat) * (s.d1 : Rat) + (s.d0 : Rat) = (((s.step a).d1 : Int) : Rat) := by simp only [CV.step, Rat.intCast_add, Rat.intCast_mul]
/-- what the reference computes is the same -/
theorem cvR_ref {r : Rat} {i : Nat} (h : i < (cf r).length) : ((cvS (cf r) (i + 1)).n1 : Rat) / ((cvS (cf r) (i + 1)).d1 : Rat) = cfVal ((cf r).take (i + 1)) := by
  obtain ⟨l, hl⟩ := cf_head r
  have hp := cf_tail_pos hl
  unfold cvS
  rw [hl, List.take_succ_cons]
  exact CV.val_start _ _ fun b hb => hp b (List.mem_of_mem_take hb)
theorem cfVal_one {l : List Int} {i : Nat} {a : Int} (h : l[i]? = some a) : cfVal ((l.take (i + 1)).drop i) = (a : Rat) := by
  obtain ⟨h1, h2⟩ := List.getElem?_eq_some_iff.1 h
  rw [List.take_add_one, h, List.drop_append_of_le_length (by simp; omega), List.drop_of_length_le (by simp; omega)]
  rfl
theorem cfVal_more {l : List Int} {i j : Nat} {a : Int} (h : l[j]? = some a) (hj : j < i) (hi : i < l.length) : cfVal ((l.take (i + 1)).drop j) = (a : Rat) + 1 / cfVal ((l.take (i + 1)).drop (j + 1)) := by
  obtain ⟨h1, h2⟩ := List.getElem?_eq_some_iff.1 h
  have e : (l.take (i + 1)).drop j = a :: (l.take (i + 1)).drop (j + 1) := by
    rw [List.drop_eq_getElem_cons (by simp; omega)]
    congr 1
    rw [List.getElem_take, h2]
  rw [e]
  have hne : (l.take (i + 1)).drop (j + 1) ≠ [] := fun e9 => by
    have := congrArg List.length e9
    simp at this
    omega
  cases h9 : (l.take (i + 1)).drop (j + 1) with
  | nil => exact absurd h9 hne
  | cons b m => rfl
/-! sizes -/
theorem cfVal_sz {k : Nat} : ∀ (m : List Int), m ≠ [] → (∀ a ∈ m, Sz k (a : Rat)) → Sz ((k + 1) * m.length) (cfVal m)
  | [], h, _ => absurd rfl h
  | [a], _, h => (h a (by simp)).mono (by simp)
  | a :: b :: m, _, h => by
    have h1 := cfVal_sz (b :: m) (by simp) (fun c hc => h c (List.mem_cons_of_mem _ hc))
    have h2 := h a (by simp)
    show Sz _ ((a : Rat) + 1 / cfVal (b :: m))
    rw [Rat.div_def, Rat.one_mul]
    refine (h2.add h1.inv).mono ?_
    simp only [List.length_cons, Nat.mul_add, Nat.add_mul]
    omega
theorem cfVal_szj {k i j : Nat} {r : Rat} (hz : Sz k r) (hj : j ≤ i) (hi : i < (cf r).length) : Sz ((k + 1) * (i + 1)) (cfVal (((cf r).take (i + 1)).drop j)) := by
  refine (cfVal_sz (k := k) _ (fun e => ?_) (fun a ha => cf_sz r hz a (List.mem_of_mem_take (List.mem_of_mem_drop ha)))).mono ?_
  · have := congrArg List.length e
    simp at this
    omega
  · exact Nat.mul_le_mul_left _ (by simp; omega)
structure CV.Lt (s : CV) (m : Nat) : Prop where
  n0 : s.n0.natAbs < 10 ^ m
  d0 : s.d0.natAbs < 10 ^ m
  n1 : s.n1.natAbs < 10 ^ m
  d1 : s.d1.natAbs < 10 ^ m
theorem mul_add_lt {a x y : Int} {k m : Nat} (ha : a.natAbs < 10 ^ k) (hx : x.natAbs < 10 ^ m) (hy : y.natAbs < 10 ^ m) : (a * x + y).natAbs < 10 ^ (m + (k + 1)) := by
  have h1 : (a * x + y).natAbs ≤ a.natAbs * x.natAbs + y.natAbs := by
    refine Nat.le_trans (Int.natAbs_add_le _ _) ?_
    rw [Int.natAbs_mul]
    exact Nat.le_refl _
  have h2 : a.natAbs * x.natAbs ≤ a.natAbs * 10 ^ m := Nat.mul_le_mul_left _ (by omega)
  have h3 : (a.natAbs + 1) * 10 ^ m ≤ 10 ^ k * 10 ^ m := Nat.mul_le_mul_right _ (by omega)
  have h4 : 10 ^ (m + (k + 1)) = 10 ^ k * 10 ^ m * 10 := by rw [Nat.pow_add, Nat.pow_succ, Nat.mul_comm (10 ^ m), Nat.mul_right_comm]
  rw [Nat.add_mul, Nat.one_mul] at h3
  have h5 : 0 < 10 ^ k * 10 ^ m := Nat.mul_pos (Nat.pow_pos (by decide)) (Nat.pow_pos (by decide))
  omega
theorem CV.Lt.step {s : CV} {m k : Nat} (h : s.Lt m) {a : Int} (ha : a.natAbs < 10 ^ k) : (s.step a).Lt (m + (k + 1)) := by
  have hle : 10 ^ m ≤ 10 ^ (m + (k + 1)) := Nat.pow_le_pow_right (by decide) (by omega)
  exact ⟨Nat.lt_of_lt_of_le h.n1 hle, Nat.lt_of_lt_of_le h.d1 hle, mul_add_lt ha h.n1 h.n0, mul_add_lt ha h.d1 h.d0⟩
theorem CV.Lt.run {k : Nat} : ∀ (l : List Int) {s : CV} {m : Nat}, s.Lt m → (∀ a ∈ l, a.natAbs < 10 ^ k) → (s.run l).Lt (m + l.length * (k + 1))
  | [], s, m, h, _ => by simpa [CV.run_nil] using h
  | a :: l, s, m, h, ha => by
    have h1 := CV.Lt.run l (h.step (ha a (by simp))) (fun b hb => ha b (List.mem_cons_of_mem _ hb))
    rw [CV.run_cons, List.length_cons, Nat.succ_mul]
    rwa [show m + (l.length * (k + 1) + (k + 1)) = m + (k + 1) + l.length * (k + 1) by omega]
theorem CV.Lt.start : CV.start.Lt 1 := ⟨by decide, by decide, by decide, by decide⟩
theorem Sz.natAbs {k : Nat} {a : Int} (h : Sz k (a : Rat)) : a.natAbs < 10 ^ k := by
  have := h.1
  rwa [Rat.num_intCast] at this
theorem CV.Lt.sz {s : CV} {m : Nat} (h : s.Lt m) (hm : 0 < m) : Sz m (s.n0 : Rat) ∧ Sz m (s.d0 : Rat) ∧ Sz m (s.n1 : Rat) ∧ Sz m (s.d1 : Rat) :=
  ⟨intR_sz h.n0 hm, intR_sz h.d0 hm, intR_sz h.n1 hm, intR_sz h.d1 hm⟩
/-- one bound for all states -/
theorem cvS_sz {k i : Nat} {r : Rat} (hz : Sz k r) : (cvS (cf r) i).Lt (1 + (8 * k + 1) * (k + 1)) := by
  have h1 := CV.Lt.run (k := k) ((cf r).take i) CV.Lt.start (fun a ha => (cf_sz r hz a (List.mem_of_mem_take ha)).natAbs)
  have h2 := cf_len_sz hz
  have h3 : ((cf r).take i).length * (k + 1) ≤ (8 * k + 1) * (k + 1) := Nat.mul_le_mul_right _ (by rw [List.length_take]; omega)
  have hle : (10 : Nat) ^ (1 + ((cf r).take i).length * (k + 1)) ≤ 10 ^ (1 + (8 * k + 1) * (k + 1)) := Nat.pow_le_pow_right (by decide) (by omega)
  exact ⟨Nat.lt_of_lt_of_le h1.n0 hle, Nat.lt_of_lt_of_le h1.d0 hle, Nat.lt_of_lt_of_le h1.n1 hle, Nat.lt_of_lt_of_le h1.d1 hle⟩
theorem cvR_sz {k : Nat} {r : Rat} (hz : Sz k r) : ∀ x ∈ cvR (cf r), Sz (1 + (8 * k + 1) * (k + 1) + (1 + (8 * k + 1) * (k + 1))) x := by
  intro x hx
  unfold cvR at hx
  obtain ⟨i, _, rfl⟩ := List.mem_map.1 hx
  obtain ⟨_, _, s1, s2⟩ := (cvS_sz (i := i + 1) hz).sz (by omega)
  exact s1.div s2
theorem cvR_fit {r : Rat} (hz : Sz 61 r) : ∀ x ∈ cvR (cf r), Fit x := fun x hx => (cvR_sz hz x hx).fit (by omega)
theorem cvR_fitH {r : Rat} (hz : Sz 61 r) : ∀ x ∈ cvR (cf r), FitH x := fun x hx => (cvR_sz hz x hx).fitH (by omega)
theorem cfR_sz {k : Nat} {r : Rat} (hz : Sz k r) : ∀ x ∈ cfR r, Sz k x := by
  intro x hx
  obtain ⟨a, ha, rfl⟩ := List.mem_map.1 hx
  exact cf_sz r hz a ha
theorem cfR_get {r : Rat} {i : Nat} {x : Rat} (h : (cfR r)[i]? = some x) : ∃ a : Int, (cf r)[i]? = some a ∧ x = (a : Rat) ∧ a ∈ cf r := by
  unfold cfR at h
  rw [List.getElem?_map] at h
  cases h9 : (cf r)[i]? with
  | none => rw [h9] at h; cases h
  | some a =>
    rw [h9] at h
    exact ⟨a, rfl, (Option.some.inj h).symm, List.mem_of_getElem? h9⟩
end Go.Proofs.Vc
