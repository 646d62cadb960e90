/- A helper of the claim: general lemmas and walks of functions, printed by a program of this session. Conditions: none. -/
import Derived.Test.YtcjhnkmoloiepaaDoorP1
import Derived.Test.YtcjhnkmoloiepaaDoorCK
import Derived.Test.YtcjhnkmoloiepaaDoorKV
import Derived.Test.YtcjhnkmoloiepaaDoorQ3
namespace Go.Proofs.Vc
open Go
set_option linter.unusedVariables false
/-- the state of Euclid's algorithm: two remainders, two multipliers -/
structure Rc where
  a : Int
  b : Int
  s : Int
  t : Int
def Rc.start (m w : Int) : Rc := ⟨m, w, 0, 1⟩
def Rc.step (x : Rc) : Rc := ⟨x.b, x.a - x.a / x.b * x.b, x.t, x.s - x.a / x.b * x.t⟩
/-- what holds all the time; p and q are the multipliers of m -/
def Rc.Inv (m w : Int) (x : Rc) : Prop := 0 ≤ x.b ∧ x.b < x.a ∧ x.a ≤ m ∧ ∃ p q : Int, x.a = p * m + x.s * w ∧ x.b = q * m + x.t * w ∧ (p * x.t - q * x.s = 1 ∨ p * x.t - q * x.s = -1)
theorem Rc.Inv.start {m w : Int} (h1 : 0 ≤ w) (h2 : w < m) : (Rc.start m w).Inv m w :=
  ⟨h1, h2, Int.le_refl _, 1, 0, by simp [Rc.start], by simp [Rc.start], .inl (by simp [Rc.start])⟩
theorem Rc.Inv.step {m w : Int} {x : Rc} (h : x.Inv m w) (hb : x.b ≠ 0) : x.step.Inv m w ∧ x.step.b < x.b := by
  obtain ⟨h1, h2, h3, p, q, h4, h5, h6⟩ := h
  have e1 : x.a - x.a / x.b * x.b = x.a % x.b := by rw [Int.emod_def, Int.mul_comm]
  have h7 := Int.emod_nonneg x.a hb
  have h8 := Int.emod_lt_of_pos x.a (show 0 < x.b by omega)
  refine ⟨⟨?_, ?_, ?_, q, p - x.a / x.b * q, ?_, ?_, ?_⟩, ?_⟩ <;> simp only [Rc.step]
  · rw [e1]; exact h7
  · rw [e1]; exact h8
  · omega
  · exact h5
  · generalize x.a / x.b = k at *
    rw [h4, h5]
    grind
  · have e2 : q * (x.s - x.a / x.b * x.t) - (p - x.a / x.b * q) * x.t = -(p * x.t - q * x.s) := by grind
    rw [e2]
    omega
  · rw [e1]; exact h8
/-- sizes -/
def Rc.Lt (x : Rc) (k i : Nat) : Prop := x.s.natAbs < 10 ^ (1 + i * (k + 1)) ∧ x.t.natAbs < 10 ^ (1 + i * (k + 1))
theorem Rc.Lt.start (m w : Int) (k : Nat) : (Rc.start m w).Lt k 0 := by
  constructor <;> simp [Rc.start]
theorem Rc.Lt.step {x : Rc} {m w : Int} {k i : Nat} (h : x.Lt k i) (hi : x.Inv m w) (hb : x.b ≠ 0) (hm : m.natAbs < 10 ^ k) : x.step.Lt k (i + 1) := by
  obtain ⟨h1, h2, h3, _⟩ := hi
  have hq : (-(x.a / x.b)).natAbs < 10 ^ k := by
    have e1 : x.a / x.b ≤ x.a := Int.ediv_le_self _ (by omega)
    have e2 : 0 ≤ x.a / x.b := Int.ediv_nonneg (by omega) (by omega)
    omega
  have e3 : 1 + (i + 1) * (k + 1) = 1 + i * (k + 1) + (k + 1) := by rw [Nat.add_mul, Nat.one_mul]; omega
  refine ⟨?_, ?_⟩
  · refine Nat.lt_of_lt_of_le h.2 (Nat.pow_le_pow_right (by decide) (by rw [e3]; omega))
  · have := mul_add_lt hq h.2 h.1
    rw [e3]
    simp only [Rc.step]
    rw [show x.s - x.a / x.b * x.t = -(x.a / x.b) * x.t + x.s by rw [Int.neg_mul]; omega]
    exact this
/-- how many rounds there can be -/
theorem Rc.halve {m w : Int} {x : Rc} (h : x.Inv m w) (hb : x.b ≠ 0) : 2 * x.step.b < x.a := by
  obtain ⟨h1, h2, _⟩ := h
  have e1 : x.step.b = x.a % x.b := by simp only [Rc.step]; rw [Int.emod_def, Int.mul_comm]
  have h8 := Int.emod_lt_of_pos x.a (show 0 < x.b by omega)
  have h9 := Int.mul_ediv_add_emod x.a x.b
  have h10 : 1 ≤ x.a / x.b := Int.le_ediv_of_mul_le (by omega) (by omega)
  have h11 : x.b * 1 ≤ x.b * (x.a / x.b) := Int.mul_le_mul_of_nonneg_left h10 (by omega)
  rw [e1]
  omega
/-- which final states count -/
def Rc.Good (m : Int) (x : Rc) : Prop := 2 * x.t * x.t < m ∧ Int.gcd x.t m = 1 ∧ Int.gcd x.b x.t = 1
theorem Rc.coprime {m w : Int} {x : Rc} (h : x.Inv m w) : ∃ q, x.b = q * m + x.t * w ∧ Int.gcd q x.t = 1 := by
  obtain ⟨_, _, _, p, q, h4, h5, h6⟩ := h
  refine ⟨q, h5, gcd_of_det (c := x.s) (d := p) ?_ |> fun h => by rw [Int.gcd_comm]; exact h⟩
  rcases h6 with h6 | h6
  · left
    rw [Int.mul_comm x.t p]
    exact h6
  · right
    rw [Int.mul_comm x.t p]
    exact h6
/-- numerator and denominator of a quotient -/
theorem mul_of_div {x y r : Rat} (hy : y ≠ 0) (h : x / y = r) : x = r * y := by
  rw [← h, Rat.div_def, Rat.mul_assoc, Rat.inv_mul_cancel _ hy, Rat.mul_one]
theorem dvd_of_coprime {n d t : Int} (h : d ∣ n * t) (hg : Int.gcd n d = 1) : d ∣ t := by
  have h1 : d.natAbs ∣ n.natAbs * t.natAbs := by rw [← Int.natAbs_mul]; exact Int.natAbs_dvd_natAbs.2 h
  have h2 : Nat.Coprime d.natAbs n.natAbs := by
    unfold Nat.Coprime
    rw [Nat.gcd_comm]
    exact hg
  exact Int.natAbs_dvd_natAbs.1 (h2.dvd_of_dvd_mul_left h1)
theorem frac_scale {b t : Int} (ht : t ≠ 0) : ∃ c : Int, c ≠ 0 ∧ b = c * ((b : Rat) / (t : Rat)).num ∧ t = c * (((b : Rat) / (t : Rat)).den : Int) ∧ Int.gcd b t = c.natAbs := by
  obtain ⟨r, hr⟩ : ∃ r, r = (b : Rat) / (t : Rat) := ⟨_, rfl⟩
  rw [← hr]
  have htR : (t : Rat) ≠ 0 := fun e => ht (Rat.intCast_inj.1 e)
  have h1 : r.num * t = b * (r.den : Int) := by
    have e1 : r * (t : Rat) = (b : Rat) := by
      rw [hr, Rat.div_def, Rat.mul_assoc, Rat.inv_mul_cancel _ htR, Rat.mul_one]
    have e2 : (r.num : Rat) = r * ((r.den : Int) : Rat) := by
      exact mul_of_div (ne_cast (den_pos' r)) (self_frac r)
    have e3 : ((r.num * t : Int) : Rat) = ((b * (r.den : Int) : Int) : Rat) := by
      rw [Rat.intCast_mul, Rat.intCast_mul, e2, ← e1]
      grind
    exact Rat.intCast_inj.1 e3
  have hg : Int.gcd r.num (r.den : Int) = 1 := by
    have := r.reduced
    unfold Int.gcd
    rw [Int.natAbs_natCast]
    exact this
  have hdp := den_pos' r
  have h2 : (r.den : Int) ∣ t := by
    have h3 : (r.den : Int) ∣ r.num * t := ⟨b, by rw [h1, Int.mul_comm]⟩
    exact dvd_of_coprime h3 hg
  obtain ⟨c, hc⟩ := h2
  have hc1 : t = c * (r.den : Int) := by rw [hc, Int.mul_comm]
  have hb : b = c * r.num := by
    have h4 : b * (r.den : Int) = c * r.num * (r.den : Int) := by rw [← h1, hc1]; grind
    exact Int.eq_of_mul_eq_mul_right (by omega) h4
  refine ⟨c, fun e => ht (by rw [hc1, e, Int.zero_mul]), hb, hc1, ?_⟩
  conv => lhs; rw [hb, hc1]
  rw [Int.gcd_mul_left, hg, Nat.mul_one]
/-- what the program looks at in the end, and what the reference does -/
theorem Rc.good_iff {m v : Int} {x : Rc} (hm : 2 ≤ m) (h : x.Inv m (v % m)) (hb : 2 * x.b * x.b < m) :
    (x.t ≠ 0 ∧ 2 * ((x.b : Rat) / (x.t : Rat)).num * ((x.b : Rat) / (x.t : Rat)).num < m ∧ 2 * (((x.b : Rat) / (x.t : Rat)).den : Int) * (((x.b : Rat) / (x.t : Rat)).den : Int) < m ∧
      Int.gcd (((x.b : Rat) / (x.t : Rat)).den : Int) m = 1 ∧ (((x.b : Rat) / (x.t : Rat)).num - v * (((x.b : Rat) / (x.t : Rat)).den : Int)) % m = 0) ↔ x.Good m := by
  obtain ⟨q, h1, h2⟩ := Rc.coprime h
  obtain ⟨Q, hQ⟩ : ∃ Q, v = m * Q + v % m := ⟨v / m, (Int.mul_ediv_add_emod v m).symm⟩
  constructor
  · rintro ⟨ht, k1, k2, k3, k4⟩
    obtain ⟨c, c0, cb, ct, cg⟩ := frac_scale (b := x.b) ht
    generalize (x.b : Rat) / (x.t : Rat) = r at *
    obtain ⟨Y, hY⟩ := emod_zero_iff.1 k4
    have e1 : m * (q - x.t * Q) = m * (c * Y) := by
      have e2 : x.b - v * x.t = m * (q - x.t * Q) := by
        rw [h1]
        conv => lhs; rw [hQ]
        rw [show (m * Q + v % m) % m = v % m by rw [← hQ]]
        grind
      have e3 : x.b - v * x.t = c * (r.num - v * (r.den : Int)) := by
        conv => lhs; rw [cb, ct]
        grind
      rw [← e2, e3, hY]
      grind
    have e4 : q - x.t * Q = c * Y := Int.eq_of_mul_eq_mul_left (by omega) e1
    have e5 : c ∣ q := ⟨Y + (r.den : Int) * Q, by rw [Int.mul_add, ← Int.mul_assoc, ← ct, ← e4]; omega⟩
    have e6 : c ∣ x.t := ⟨(r.den : Int), ct⟩
    have e7 : c.natAbs ∣ Int.gcd q x.t := Int.ofNat_dvd.1 (Int.dvd_coe_gcd (Int.natAbs_dvd.2 e5) (Int.natAbs_dvd.2 e6))
    rw [h2] at e7
    have e8 : c.natAbs = 1 := Nat.dvd_one.1 e7
    have e9 : c = 1 ∨ c = -1 := by omega
    have e10 : x.t * x.t = (r.den : Int) * (r.den : Int) := by
      rw [ct]
      rcases e9 with e9 | e9 <;> subst e9 <;> grind
    refine ⟨?_, ?_, by rw [cg, e8]⟩
    · rw [Int.mul_assoc] at k2 ⊢
      rw [e10]
      exact k2
    · rw [ct]
      rcases e9 with e9 | e9 <;> subst e9
      · rw [Int.one_mul]; exact k3
      · rw [Int.neg_mul, Int.one_mul, Int.neg_gcd]; exact k3
  · rintro ⟨k1, k2, k3⟩
    have ht : x.t ≠ 0 := fun e => by
      rw [e, Int.gcd_zero_left] at k2
      omega
    obtain ⟨c, c0, cb, ct, cg⟩ := frac_scale (b := x.b) ht
    generalize (x.b : Rat) / (x.t : Rat) = r at *
    rw [k3] at cg
    have e9 : c = 1 ∨ c = -1 := by omega
    have e10 : x.t * x.t = (r.den : Int) * (r.den : Int) := by
      conv => lhs; rw [ct]
      rcases e9 with e9 | e9 <;> subst e9 <;> grind
    have e11 : x.b * x.b = r.num * r.num := by
      conv => lhs; rw [cb]
      rcases e9 with e9 | e9 <;> subst e9 <;> grind
    have e2 : x.b - v * x.t = m * (q - x.t * Q) := by
      rw [h1]
      conv => lhs; rw [hQ]
      rw [show (m * Q + v % m) % m = v % m by rw [← hQ]]
      grind
    have e3 : x.b - v * x.t = c * (r.num - v * (r.den : Int)) := by
      conv => lhs; rw [cb, ct]
      grind
    refine ⟨ht, ?_, ?_, ?_, ?_⟩
    · rw [Int.mul_assoc] at hb ⊢
      rw [← e11]
      exact hb
    · rw [Int.mul_assoc] at k1 ⊢
      rw [← e10]
      exact k1
    · rw [ct] at k2
      rcases e9 with e9 | e9 <;> subst e9
      · rwa [Int.one_mul] at k2
      · rwa [Int.neg_mul, Int.one_mul, Int.neg_gcd] at k2
    · rw [emod_zero_iff]
      rw [e2] at e3
      rcases e9 with e9 | e9 <;> subst e9
      · exact ⟨q - x.t * Q, by rw [e3, Int.one_mul]⟩
      · exact ⟨-(q - x.t * Q), by rw [Int.mul_neg, e3]; omega⟩
/-- the states in turn, and the answer -/
def rcIt (m v : Int) : Nat → Rc
  | 0 => Rc.start m (v % m)
  | i + 1 => (rcIt m v i).step
def fitsZ (m b : Int) : Prop := 2 * b * b < m
def RecIs (m v : Int) (o : Option Rat) : Prop := ∃ i, (∀ j, j < i → ¬ fitsZ m (rcIt m v j).b) ∧ fitsZ m (rcIt m v i).b ∧ ((rcIt m v i).Good m → o = some (((rcIt m v i).b : Rat) / ((rcIt m v i).t : Rat))) ∧ (¬ (rcIt m v i).Good m → o = none)
theorem RecIs.unique {m v : Int} {o o' : Option Rat} (h : RecIs m v o) (k : RecIs m v o') : o = o' := by
  obtain ⟨i, h1, h2, h3, h4⟩ := h
  obtain ⟨j, k1, k2, k3, k4⟩ := k
  have e : i = j := by
    rcases Nat.lt_trichotomy i j with h | h | h
    · exact absurd h2 (k1 i h)
    · exact h
    · exact absurd k2 (h1 j h)
  subst e
  by_cases hg : (rcIt m v i).Good m
  · rw [h3 hg, k3 hg]
  · rw [h4 hg, k4 hg]
end Go.Proofs.Vc

namespace Go.Proofs.Vc
open Go Go.RowKit
set_option linter.unusedVariables false
def I64z (z : Int) : Prop := -9223372036854775808 ≤ z ∧ z ≤ 9223372036854775807
/-- a slice of these ints whose cells are kept -/
def IntL (g : Mem) (A : Option Addr) (n : Nat) (l : List Int) : Prop := l.length = n ∧ (∀ z ∈ l, I64z z) ∧ (n = 0 ∨ ∃ b off, A = some ⟨b, off, none⟩ ∧ ∀ (j : Nat) z, l[j]? = some z → gcell g b (off + j) = some (.int .i64 z))
theorem IntL.mono {g g' : Mem} {A : Option Addr} {n : Nat} {l : List Int} (h : IntL g A n l) (hle : g.le g') : IntL g' A n l :=
  ⟨h.1, h.2.1, h.2.2.imp id fun ⟨b, off, e, hc⟩ => ⟨b, off, e, fun j z hj => gcell_le hle (hc j z hj)⟩⟩
theorem IntL.cell {g : Mem} {A : Option Addr} {n j : Nat} {l : List Int} (h : IntL g A n l) (hj : j < n) : ∃ b off z, A = some ⟨b, off, none⟩ ∧ l[j]? = some z ∧ z ∈ l ∧ I64z z ∧ l.getD j 0 = z ∧ gcell g b (off + j) = some (.int .i64 z) := by
  obtain ⟨hl, hz, h | ⟨b, off, e, hc⟩⟩ := h
  · omega
  · have hs : l[j]? = some l[j] := List.getElem?_eq_getElem (by omega)
    have hm := List.mem_of_getElem? hs
    exact ⟨b, off, _, e, hs, hm, hz _ hm, by rw [List.getD_eq_getElem?_getD, hs]; rfl, hc j _ hs⟩
theorem IntS.list {g : Mem} {A : Option Addr} {n : Nat} (h : IntS g A n) : ∃ l, IntL g A n l := by
  rcases h with h | ⟨b, off, e, hc⟩
  · exact ⟨[], by simp [h], by simp, .inl h⟩
  · have key : ∀ j, ∃ z : Int, j < n → gcell g b (off + j) = some (.int .i64 z) ∧ I64z z := fun j => by
      by_cases hj : j < n
      · obtain ⟨z, h1, h2, h3⟩ := hc j hj
        exact ⟨z, fun _ => ⟨h1, h2, h3⟩⟩
      · exact ⟨0, fun h => absurd h hj⟩
    obtain ⟨f, hf⟩ := Classical.axiomOfChoice key
    refine ⟨(List.range n).map f, by simp, fun z hz => ?_, .inr ⟨b, off, e, fun j z hj => ?_⟩⟩
    · obtain ⟨j, hj, rfl⟩ := List.mem_map.1 hz
      exact (hf j (List.mem_range.1 hj)).2
    · rw [List.getElem?_map] at hj
      by_cases hjn : j < n
      · rw [List.getElem?_range hjn] at hj
        have : f j = z := by simpa using hj
        rw [← this]
        exact (hf j hjn).1
      · rw [List.getElem?_eq_none (by simp; omega)] at hj
        cases hj
/-- what Combine answers: two texts and an error -/
noncomputable def combR (rs ps : List Int) : ByteArray × ByteArray × Int :=
  if rs.length ≠ ps.length then (⟨#[]⟩, ⟨#[]⟩, 4) else if 64 < ps.length then (⟨#[]⟩, ⟨#[]⟩, 2) else
  if ¬ ∀ p ∈ ps, Prm p then (⟨#[]⟩, ⟨#[]⟩, 1) else if ¬ ps.Nodup then (⟨#[]⟩, ⟨#[]⟩, 10) else
  (ratS (((cbRun rs ps ps.length).v : Int) : Rat), ratS (((cbRun rs ps ps.length).m : Int) : Rat), 0)
theorem combR_shape {rs ps : List Int} (h : rs.length ≠ ps.length) : combR rs ps = (⟨#[]⟩, ⟨#[]⟩, 4) := by unfold combR; rw [if_pos h]
theorem combR_limit {rs ps : List Int} (h : rs.length = ps.length) (h2 : 64 < ps.length) : combR rs ps = (⟨#[]⟩, ⟨#[]⟩, 2) := by unfold combR; rw [if_neg (fun k => k h), if_pos h2]
theorem combR_bad {rs ps : List Int} (h : rs.length = ps.length) (h2 : ps.length ≤ 64) {p : Int} (hp : p ∈ ps) (hn : ¬ Prm p) : combR rs ps = (⟨#[]⟩, ⟨#[]⟩, 1) := by
  unfold combR
  rw [if_neg (fun k => k h), if_neg (by omega), if_pos (fun k => hn (k p hp))]
theorem combR_dup {rs ps : List Int} (h : rs.length = ps.length) (h2 : ps.length ≤ 64) (h3 : ∀ p ∈ ps, Prm p) (h4 : ¬ ps.Nodup) : combR rs ps = (⟨#[]⟩, ⟨#[]⟩, 10) := by
  unfold combR
  rw [if_neg (fun k => k h), if_neg (by omega), if_neg (fun k => k h3), if_pos h4]
theorem combR_ok {rs ps : List Int} (h : rs.length = ps.length) (h2 : ps.length ≤ 64) (h3 : ∀ p ∈ ps, Prm p) (h4 : ps.Nodup) : combR rs ps = (ratS (((cbRun rs ps ps.length).v : Int) : Rat), ratS (((cbRun rs ps ps.length).m : Int) : Rat), 0) := by
  unfold combR
  rw [if_neg (fun k => k h), if_neg (by omega), if_neg (fun k => k h3), if_neg (fun k => k h4)]
theorem nodup_step {l : List Int} {i : Nat} {x : Int} (h : (l.take i).Nodup) (hx : l[i]? = some x) (hn : x ∉ l.take i) : (l.take (i + 1)).Nodup := by
  rw [List.take_add_one, hx, List.nodup_append]
  refine ⟨h, by simp, fun a ha b hb e => ?_⟩
  have : b = x := by simpa using hb
  subst this
  subst e
  exact hn ha
theorem not_nodup {l : List Int} {i : Nat} {x : Int} (hx : l[i]? = some x) (hn : x ∈ l.take i) : ¬ l.Nodup := fun h => by
  obtain ⟨hi, hx2⟩ := List.getElem?_eq_some_iff.1 hx
  have h1 : (l.take (i + 1)).Nodup := h.sublist (List.take_sublist _ _)
  rw [List.take_add_one, hx, List.nodup_append] at h1
  exact h1.2.2 x hn x (by simp) rfl
theorem mem_take_get {l : List Int} {i j : Nat} {x : Int} (hx : l[j]? = some x) (hj : j < i) : x ∈ l.take i := by
  refine List.mem_of_getElem? (i := j) ?_
  rw [List.getElem?_take, if_pos hj, hx]
theorem not_mem_takeI {l : List Int} {i : Nat} {x : Int} (h : ∀ j y, j < i → l[j]? = some y → y ≠ x) : x ∉ l.take i := fun hm => by
  obtain ⟨j, hj⟩ := List.mem_iff_getElem?.1 hm
  rw [List.getElem?_take] at hj
  split at hj
  · exact h j x (by assumption) hj rfl
  · cases hj
end Go.Proofs.Vc

namespace Go.Proofs.Vc
open Go
set_option linter.unusedVariables false
/-- x is the residue of r modulo p -/
def IsRes (p : Int) (r : Rat) (x : Int) : Prop := 0 ≤ x ∧ x < p ∧ (x * (r.den : Int) - r.num) % p = 0
theorem redM_spec {r : Rat} {p : Int} (hp : Prm p) (hd : ¬ (r.den : Int) % p = 0) : IsRes p r (redM r p) := by
  have h1 := invM_spec hp hd
  have hp0 := hp.1
  refine ⟨Int.emod_nonneg _ (by omega), Int.emod_lt_of_pos _ (by omega), ?_⟩
  rw [emod_zero_iff] at *
  obtain ⟨k, hk⟩ : p ∣ (r.den : Int) * invM (r.den : Int) p - 1 := by
    rw [← emod_zero_iff, Int.sub_emod, h1, Int.emod_eq_of_lt (show (0 : Int) ≤ 1 by decide) (by omega)]
    rfl
  obtain ⟨u, hu⟩ : ∃ u, r.num % p * invM (r.den : Int) p % p = r.num % p * invM (r.den : Int) p - p * u := ⟨_, Int.emod_def _ _⟩
  obtain ⟨w, hw⟩ : ∃ w, r.num % p = r.num - p * w := ⟨_, Int.emod_def _ _⟩
  unfold redM
  rw [hu, hw]
  refine ⟨r.num * k - w * (r.den : Int) * invM (r.den : Int) p - u * (r.den : Int), ?_⟩
  have e : (r.den : Int) * invM (r.den : Int) p = p * k + 1 := by omega
  generalize invM (r.den : Int) p = i at *
  generalize (r.den : Int) = d at *
  generalize r.num = n at *
  grind
theorem IsRes.unique {p : Int} {r : Rat} {x y : Int} (hp : Prm p) (hd : ¬ (r.den : Int) % p = 0) (h : IsRes p r x) (k : IsRes p r y) : x = y := by
  obtain ⟨h1, h2, h3⟩ := h
  obtain ⟨k1, k2, k3⟩ := k
  have e : (x - y) * (r.den : Int) % p = 0 := by
    rw [emod_zero_iff] at *
    obtain ⟨u, hu⟩ := h3
    obtain ⟨w, hw⟩ := k3
    exact ⟨u - w, by rw [Int.mul_sub, ← hu, ← hw, Int.sub_mul]; omega⟩
  rcases hp.euclid e with h9 | h9
  · rw [emod_zero_iff] at h9
    obtain ⟨u, hu⟩ := h9
    have hu0 : u = 0 := by
      rcases Int.lt_trichotomy u 0 with h | h | h
      · have := Int.mul_le_mul_of_nonneg_left (show u ≤ -1 by omega) (show 0 ≤ p by omega)
        omega
      · exact h
      · have := Int.mul_le_mul_of_nonneg_left (show 1 ≤ u by omega) (show 0 ≤ p by omega)
        omega
    rw [hu0, Int.mul_zero] at hu
    omega
  · exact absurd h9 hd
/-- a reduced denominator divides every other -/
theorem den_dvd {r : Rat} {N D : Int} (h : r.num * D = N * (r.den : Int)) : (r.den : Int) ∣ D := by
  have hg : Int.gcd r.num (r.den : Int) = 1 := by
    have := r.reduced
    unfold Int.gcd
    rw [Int.natAbs_natCast]
    exact this
  have h3 : (r.den : Int) ∣ r.num * D := ⟨N, by rw [h, Int.mul_comm]⟩
  exact dvd_of_coprime h3 hg
/-- a residue over any fraction for the number -/
theorem IsRes.of_frac {p : Int} {r : Rat} {N D x : Int} (hp : Prm p) (h : r.num * D = N * (r.den : Int)) (hD : ¬ D % p = 0) (h1 : 0 ≤ x) (h2 : x < p) (hx : (x * D - N) % p = 0) : ¬ (r.den : Int) % p = 0 ∧ IsRes p r x := by
  obtain ⟨c, hc⟩ := den_dvd h
  refine ⟨fun e => hD ?_, h1, h2, ?_⟩
  · rw [hc, Int.mul_emod, e, Int.zero_mul, Int.zero_emod]
  · have e1 : D * (x * (r.den : Int) - r.num) = (r.den : Int) * (x * D - N) := by
      have : D * r.num = N * (r.den : Int) := by rw [Int.mul_comm]; exact h
      grind
    have e2 : D * (x * (r.den : Int) - r.num) % p = 0 := by rw [e1, Int.mul_emod, hx, Int.mul_zero, Int.zero_emod]
    rcases hp.euclid e2 with h9 | h9
    · exact absurd h9 hD
    · exact h9
theorem cross_add (r s : Rat) : (r + s).num * ((r.den : Int) * (s.den : Int)) = (r.num * (s.den : Int) + s.num * (r.den : Int)) * ((r + s).den : Int) := by
  have h := rat_add r s
  have h2 := Rat.mkRat_self (r + s)
  conv at h => rhs; rw [← h2]
  rw [Rat.mkRat_eq_iff (Nat.mul_ne_zero r.den_nz s.den_nz) (r + s).den_nz] at h
  rw [← Int.natCast_mul]
  exact h.symm
theorem cross_mul (r s : Rat) : (r * s).num * ((r.den : Int) * (s.den : Int)) = (r.num * s.num) * ((r * s).den : Int) := by
  have h := rat_mul r s
  have h2 := Rat.mkRat_self (r * s)
  conv at h => rhs; rw [← h2]
  rw [Rat.mkRat_eq_iff (Nat.mul_ne_zero r.den_nz s.den_nz) (r * s).den_nz] at h
  rw [← Int.natCast_mul]
  exact h.symm
theorem prm_mul {p a b : Int} (hp : Prm p) (ha : ¬ a % p = 0) (hb : ¬ b % p = 0) : ¬ a * b % p = 0 := fun h => by
  rcases hp.euclid h with h | h
  · exact ha h
  · exact hb h
theorem IsRes.add {p : Int} {r s : Rat} {x y : Int} (hp : Prm p) (hr : ¬ (r.den : Int) % p = 0) (hs : ¬ (s.den : Int) % p = 0) (h : IsRes p r x) (k : IsRes p s y) :
    ¬ ((r + s).den : Int) % p = 0 ∧ IsRes p (r + s) ((x + y) % p) := by
  have hp0 := hp.1
  refine IsRes.of_frac hp (cross_add r s) (prm_mul hp hr hs) (Int.emod_nonneg _ (by omega)) (Int.emod_lt_of_pos _ (by omega)) ?_
  obtain ⟨_, _, h3⟩ := h
  obtain ⟨_, _, k3⟩ := k
  rw [emod_zero_iff] at *
  obtain ⟨u, hu⟩ := h3
  obtain ⟨w, hw⟩ := k3
  obtain ⟨z, hz⟩ : ∃ z, (x + y) % p = x + y - p * z := ⟨_, Int.emod_def _ _⟩
  refine ⟨u * (s.den : Int) + w * (r.den : Int) - z * ((r.den : Int) * (s.den : Int)), ?_⟩
  rw [hz]
  generalize (r.den : Int) = d at *
  generalize (s.den : Int) = e at *
  generalize r.num = n at *
  generalize s.num = m at *
  grind
theorem IsRes.mul {p : Int} {r s : Rat} {x y : Int} (hp : Prm p) (hr : ¬ (r.den : Int) % p = 0) (hs : ¬ (s.den : Int) % p = 0) (h : IsRes p r x) (k : IsRes p s y) :
    ¬ ((r * s).den : Int) % p = 0 ∧ IsRes p (r * s) (x * y % p) := by
  have hp0 := hp.1
  refine IsRes.of_frac hp (cross_mul r s) (prm_mul hp hr hs) (Int.emod_nonneg _ (by omega)) (Int.emod_lt_of_pos _ (by omega)) ?_
  obtain ⟨_, _, h3⟩ := h
  obtain ⟨_, _, k3⟩ := k
  rw [emod_zero_iff] at *
  obtain ⟨u, hu⟩ := h3
  obtain ⟨w, hw⟩ := k3
  obtain ⟨z, hz⟩ : ∃ z, x * y % p = x * y - p * z := ⟨_, Int.emod_def _ _⟩
  refine ⟨u * y * (s.den : Int) + w * r.num - z * ((r.den : Int) * (s.den : Int)), ?_⟩
  rw [hz]
  generalize (r.den : Int) = d at *
  generalize (s.den : Int) = e at *
  generalize r.num = n at *
  generalize s.num = m at *
  grind
end Go.Proofs.Vc

namespace Go.Proofs.Vc
open Go
set_option linter.unusedVariables false
theorem Cb.step_new {s : Cb} {r p : Int} (hp : Prm p) (hm : ¬ s.m % p = 0) : (s.step r p).v % p = r % p := by
  have h1 := invM_spec hp hm
  have hp0 := hp.1
  simp only [Cb.step]
  have e : (s.v + s.m * s.k r p - r) % p = 0 := by
    rw [emod_zero_iff]
    obtain ⟨u, hu⟩ : p ∣ s.m * invM s.m p - 1 := by
      rw [← emod_zero_iff, Int.sub_emod, h1, Int.emod_eq_of_lt (show (0 : Int) ≤ 1 by decide) (by omega)]
      rfl
    obtain ⟨a, ha⟩ : ∃ a, r % p = r - p * a := ⟨_, Int.emod_def _ _⟩
    obtain ⟨b, hb⟩ : ∃ b, s.v % p = s.v - p * b := ⟨_, Int.emod_def _ _⟩
    obtain ⟨c, hc⟩ : ∃ c, (r % p - s.v % p) % p = (r % p - s.v % p) - p * c := ⟨_, Int.emod_def _ _⟩
    obtain ⟨d, hd⟩ : ∃ d, s.k r p = (r % p - s.v % p) % p * invM s.m p - p * d := ⟨_, Int.emod_def _ _⟩
    rw [hd, hc, ha, hb]
    have e1 : s.m * invM s.m p = p * u + 1 := by omega
    generalize invM s.m p = i at *
    generalize s.m = m at *
    generalize s.v = v at *
    exact ⟨(r - v) * u - (a - b + c) * (p * u + 1) - m * d, by grind⟩
  rw [Int.sub_emod] at e
  have a1 := Int.emod_nonneg (s.v + s.m * s.k r p) (show p ≠ 0 by omega)
  have a2 := Int.emod_lt_of_pos (s.v + s.m * s.k r p) (show 0 < p by omega)
  have b1 := Int.emod_nonneg r (show p ≠ 0 by omega)
  have b2 := Int.emod_lt_of_pos r (show 0 < p by omega)
  rw [emod_zero_iff] at e
  obtain ⟨k, hk⟩ := e
  have hk0 : k = 0 := by
    rcases Int.lt_trichotomy k 0 with h | h | h
    · have := Int.mul_le_mul_of_nonneg_left (show k ≤ -1 by omega) (show 0 ≤ p by omega)
      omega
    · exact h
    · have := Int.mul_le_mul_of_nonneg_left (show 1 ≤ k by omega) (show 0 ≤ p by omega)
      omega
  rw [hk0, Int.mul_zero] at hk
  omega
theorem Cb.step_old {s : Cb} {r p q : Int} (h : s.m % q = 0) : (s.step r p).v % q = s.v % q := by
  simp only [Cb.step]
  rw [Int.add_emod, Int.mul_emod, h, Int.zero_mul, Int.zero_emod, Int.add_zero, Int.emod_emod]
theorem cb_res {rs ps : List Int} (hps : ∀ p ∈ ps, Prm p) (hn : ps.Nodup) : ∀ i, i ≤ ps.length → ∀ j p, j < i → ps[j]? = some p → (cbRun rs ps i).v % p = (rs.getD j 0) % p
  | 0, _, j, p, hj, _ => by omega
  | i + 1, hi, j, p, hj, hjp => by
    have hget : ps[i]? = some ps[i] := List.getElem?_eq_getElem (by omega)
    have hd : ps.getD i 0 = ps[i] := by rw [List.getD_eq_getElem?_getD, hget]; rfl
    have hp : Prm p := hps p (List.mem_of_getElem? hjp)
    show ((cbRun rs ps i).step (rs.getD i 0) (ps.getD i 0)).v % p = _
    rcases Nat.lt_or_ge j i with h | h
    · rw [Cb.step_old ((cbRun_dvd hps hp i (by omega)).2 (mem_take_get hjp h))]
      exact cb_res hps hn i (by omega) j p h hjp
    · obtain rfl : j = i := by omega
      have e : ps[j] = p := by rw [hget] at hjp; exact Option.some.inj hjp
      rw [hd, e]
      refine Cb.step_new hp fun h9 => ?_
      exact not_nodup hjp ((cbRun_dvd hps hp j (by omega)).1 h9) hn
/-- what all different primes divide, their product divides -/
theorem cb_dvd {rs ps : List Int} (hps : ∀ p ∈ ps, Prm p) (hn : ps.Nodup) {x : Int} (hx : ∀ p ∈ ps, x % p = 0) : ∀ i, i ≤ ps.length → x % (cbRun rs ps i).m = 0
  | 0, _ => by show x % 1 = 0; exact Int.emod_one x
  | i + 1, hi => by
    have hget : ps[i]? = some ps[i] := List.getElem?_eq_getElem (by omega)
    have hd : ps.getD i 0 = ps[i] := by rw [List.getD_eq_getElem?_getD, hget]; rfl
    have hp : Prm ps[i] := hps _ (List.getElem_mem _)
    have ih := cb_dvd (rs := rs) hps hn hx i (by omega)
    have h1 := hx ps[i] (List.getElem_mem _)
    show x % ((cbRun rs ps i).m * ps.getD i 0) = 0
    rw [hd]
    obtain ⟨k, hk⟩ := emod_zero_iff.1 ih
    have h2 : ¬ (cbRun rs ps i).m % ps[i] = 0 := fun h9 => not_nodup hget ((cbRun_dvd hps hp i (by omega)).1 h9) hn
    rw [hk] at h1
    rcases hp.euclid h1 with h | h
    · exact absurd h h2
    · obtain ⟨l, hl⟩ := emod_zero_iff.1 h
      rw [emod_zero_iff]
      exact ⟨l, by rw [hk, hl, Int.mul_assoc]⟩
/-! the reconstruction finds what there is -/
def Rc.Sgn (x : Rc) : Prop := x.s * x.t ≤ 0
theorem Rc.Sgn.step {x : Rc} {m w : Int} (h : x.Sgn) (hi : x.Inv m w) (hb : x.b ≠ 0) : x.step.Sgn := by
  obtain ⟨h1, h2, _⟩ := hi
  have e2 : 0 ≤ x.a / x.b := Int.ediv_nonneg (by omega) (by omega)
  unfold Rc.Sgn at *
  simp only [Rc.step]
  have e3 : 0 ≤ x.a / x.b * (x.t * x.t) := Int.mul_nonneg e2 (by
    rcases Int.le_total 0 x.t with h | h
    · exact Int.mul_nonneg h h
    · exact Int.mul_nonneg_of_nonpos_of_nonpos h h)
  have e4 : x.t * (x.s - x.a / x.b * x.t) = x.s * x.t - x.a / x.b * (x.t * x.t) := by grind
  omega
theorem sq_nonneg (x : Int) : 0 ≤ x * x := by
  rcases Int.le_total 0 x with h | h
  · exact Int.mul_nonneg h h
  · exact Int.mul_nonneg_of_nonpos_of_nonpos h h
theorem sq_le {x y : Int} (h0 : 0 ≤ x) (h : x ≤ y) : x * x ≤ y * y := Int.mul_le_mul h h h0 (by omega)
theorem Rc.found_aux {m n d D α β : Int} {x : Rc} (hm : 2 ≤ m) (hfit : 2 * x.b * x.b < m) (hn : 2 * n * n < m) (hd : 2 * d * d < m) (hD : D = 1 ∨ D = -1) (f2 : α * x.t + β * x.s = d) (f4 : n * x.t - d * x.b = β * (m * D)) (hs : x.s * x.t ≤ 0)
    (hαβ : (α < 0 ∧ 0 < β) ∨ (0 < α ∧ β < 0)) : False := by
  have hab : α * β ≤ 0 := by
    rcases hαβ with ⟨h1, h2⟩ | ⟨h1, h2⟩
    · have := Int.mul_neg_of_neg_of_pos h1 h2; omega
    · have := Int.mul_neg_of_pos_of_neg h1 h2; omega
  have k1 : 0 ≤ (α * β) * (x.s * x.t) := Int.mul_nonneg_of_nonpos_of_nonpos hab hs
  have k2 : x.t * x.t ≤ d * d := by
    have e1 : d * d = (α * α) * (x.t * x.t) + 2 * ((α * β) * (x.s * x.t)) + (β * x.s) * (β * x.s) := by rw [← f2]; grind
    have e2 := sq_nonneg (β * x.s)
    have e3 : 1 ≤ α * α := by
      rcases hαβ with ⟨h1, _⟩ | ⟨h1, _⟩
      · have h2 := sq_le (x := 1) (y := -α) (by decide) (by omega)
        rw [Int.neg_mul_neg] at h2
        omega
      · have h2 := sq_le (x := 1) (y := α) (by decide) (by omega)
        omega
    have e4 := Int.mul_le_mul_of_nonneg_right e3 (sq_nonneg x.t)
    rw [Int.one_mul] at e4
    omega
  have e5 := sq_nonneg (n - x.t)
  have e6 := sq_nonneg (n + x.t)
  have e7 := sq_nonneg (d - x.b)
  have e8 := sq_nonneg (d + x.b)
  have i5 : (n - x.t) * (n - x.t) = n * n - 2 * (n * x.t) + x.t * x.t := by grind
  have i6 : (n + x.t) * (n + x.t) = n * n + 2 * (n * x.t) + x.t * x.t := by grind
  have i7 : (d - x.b) * (d - x.b) = d * d - 2 * (d * x.b) + x.b * x.b := by grind
  have i8 : (d + x.b) * (d + x.b) = d * d + 2 * (d * x.b) + x.b * x.b := by grind
  rw [Int.mul_assoc] at hn hd hfit
  have k3 : n * x.t - d * x.b < m ∧ -m < n * x.t - d * x.b := by omega
  rw [f4] at k3
  have k4 : m * D = m ∨ m * D = -m := by rcases hD with h | h <;> rw [h] <;> omega
  rcases hαβ with ⟨_, h2⟩ | ⟨_, h2⟩
  · have k5 := Int.mul_le_mul_of_nonneg_right (show 1 ≤ β by omega) (show 0 ≤ m by omega)
    rcases k4 with k4 | k4 <;> rw [k4] at k3
    · omega
    · rw [Int.mul_neg] at k3; omega
  · have k5 := Int.mul_le_mul_of_nonneg_right (show β ≤ -1 by omega) (show 0 ≤ m by omega)
    rcases k4 with k4 | k4 <;> rw [k4] at k3
    · omega
    · rw [Int.mul_neg] at k3; omega
theorem Rc.found {m v n d : Int} {x : Rc} (hm : 2 ≤ m) (hi : x.Inv m (v % m)) (hs : x.Sgn) (hfit : 2 * x.b * x.b < m) (ha : m ≤ 2 * x.a * x.a) (hn : 2 * n * n < m) (hd : 2 * d * d < m) (hd0 : 0 < d)
    (hg : Int.gcd n d = 1) (hgm : Int.gcd d m = 1) (hv : (n - v * d) % m = 0) : x.Good m ∧ (x.b : Rat) / (x.t : Rat) = (n : Rat) / (d : Rat) := by
  obtain ⟨hb0, hba, ham, p, q, e1, e2, e3⟩ := hi
  obtain ⟨w, hw⟩ : ∃ w, w = v % m := ⟨_, rfl⟩
  rw [← hw] at e1 e2
  obtain ⟨k, hk⟩ : ∃ k, n = k * m + w * d := by
    obtain ⟨u, hu⟩ := emod_zero_iff.1 hv
    obtain ⟨z, hz⟩ : ∃ z, v % m = v - m * z := ⟨_, Int.emod_def _ _⟩
    exact ⟨u + z * d, by rw [hw, hz]; grind⟩
  obtain ⟨D, hD⟩ : ∃ D, D = p * x.t - q * x.s := ⟨_, rfl⟩
  rw [← hD] at e3
  have hDD : D * D = 1 := by rcases e3 with e | e <;> rw [e] <;> decide
  obtain ⟨α, hα⟩ : ∃ α, α = D * (d * p - k * x.s) := ⟨_, rfl⟩
  obtain ⟨β, hβ⟩ : ∃ β, β = D * (x.t * k - q * d) := ⟨_, rfl⟩
  have f1 : α * q + β * p = k := by
    have : α * q + β * p = D * (p * x.t - q * x.s) * k := by rw [hα, hβ]; grind
    rw [this, ← hD, hDD, Int.one_mul]
  have f2 : α * x.t + β * x.s = d := by
    have : α * x.t + β * x.s = D * (p * x.t - q * x.s) * d := by rw [hα, hβ]; grind
    rw [this, ← hD, hDD, Int.one_mul]
  have f3 : n = α * x.b + β * x.a := by rw [hk, e1, e2, ← f1, ← f2]; grind
  have f4 : n * x.t - d * x.b = β * (m * D) := by rw [f3, ← f2, hD, e1, e2]; grind
  unfold Rc.Sgn at hs
  have hβ0 : β = 0 := by
    refine Decidable.byContradiction fun hne => ?_
    by_cases hα0 : α = 0
    · rw [hα0, Int.zero_mul, Int.zero_add] at f3
      have g1 : x.a * x.a ≤ n * n := by
        rcases Int.lt_or_gt_of_ne hne with h | h
        · have := Int.mul_le_mul_of_nonneg_right (show β ≤ -1 by omega) (show 0 ≤ x.a by omega)
          have h2 := sq_le (x := x.a) (y := -n) (by omega) (by omega)
          rwa [Int.neg_mul_neg] at h2
        · have := Int.mul_le_mul_of_nonneg_right (show 1 ≤ β by omega) (show 0 ≤ x.a by omega)
          exact sq_le (by omega) (by omega)
      rw [Int.mul_assoc] at hn ha
      omega
    · rcases Int.lt_or_gt_of_ne hne with h | h
      · rcases Int.lt_or_gt_of_ne hα0 with h2 | h2
        · have a1 := Int.mul_le_mul_of_nonneg_right (show β ≤ -1 by omega) (show 0 ≤ x.a by omega)
          have a2 := Int.mul_le_mul_of_nonneg_right (show α ≤ 0 by omega) hb0
          have a3 := sq_le (x := x.a) (y := -n) (by omega) (by omega)
          rw [Int.neg_mul_neg] at a3
          rw [Int.mul_assoc] at hn ha
          omega
        · exact Rc.found_aux hm hfit hn hd e3 f2 f4 hs (.inr ⟨h2, h⟩)
      · rcases Int.lt_or_gt_of_ne hα0 with h2 | h2
        · exact Rc.found_aux hm hfit hn hd e3 f2 f4 hs (.inl ⟨h2, h⟩)
        · have a1 := Int.mul_le_mul_of_nonneg_right (show 1 ≤ β by omega) (show 0 ≤ x.a by omega)
          have a2 := Int.mul_le_mul_of_nonneg_right (show 0 ≤ α by omega) hb0
          have a3 := sq_le (x := x.a) (y := n) (by omega) (by omega)
          rw [Int.mul_assoc] at hn ha
          omega
  rw [hβ0, Int.zero_mul, Int.add_zero] at f2 f3
  have hα1 : α.natAbs ∣ Int.gcd n d := Int.ofNat_dvd.1 (Int.dvd_coe_gcd (Int.natAbs_dvd.2 ⟨x.b, f3⟩) (Int.natAbs_dvd.2 ⟨x.t, f2.symm⟩))
  rw [hg] at hα1
  have hα2 := Nat.dvd_one.1 hα1
  have hα3 : α = 1 ∨ α = -1 := by omega
  have g1 : x.t = α * d := by rw [← f2]; rcases hα3 with h | h <;> rw [h] <;> omega
  have g2 : x.b = α * n := by rw [f3]; rcases hα3 with h | h <;> rw [h] <;> omega
  refine ⟨⟨?_, ?_, ?_⟩, ?_⟩
  · rw [Int.mul_assoc] at hd ⊢
    rw [g1]
    rcases hα3 with h | h <;> rw [h]
    · rw [Int.one_mul]; exact hd
    · rw [Int.neg_mul, Int.one_mul, Int.neg_mul_neg]; exact hd
  · rw [g1]
    rcases hα3 with h | h <;> rw [h]
    · rw [Int.one_mul]; exact hgm
    · rw [Int.neg_mul, Int.one_mul, Int.neg_gcd]; exact hgm
  · rw [g1, g2, Int.gcd_mul_left, hg, hα2]
  · rw [g1, g2, Rat.intCast_mul, Rat.intCast_mul]
    exact div_scale (fun e => by rcases hα3 with h | h <;> rw [h] at e <;> exact absurd e (by decide +kernel))
end Go.Proofs.Vc

namespace Go.Proofs.Vc
open Go Go.RowKit
set_option linter.unusedVariables false
theorem dsq {d : Nat} (h : d ≤ 46341) : 0 ≤ (d : Int) * (d : Int) ∧ (d : Int) * (d : Int) ≤ 2147488281 := by
  have h1 := Nat.mul_le_mul h h
  have h2 : ((d * d : Nat) : Int) = (d : Int) * (d : Int) := Int.natCast_mul ..
  omega
theorem dsq_lt {d : Nat} (h : (d : Int) * (d : Int) ≤ 2147483647) : d ≤ 46340 := by
  rcases Nat.lt_or_ge 46340 d with h1 | h1
  · have h3 := Nat.mul_le_mul (show 46341 ≤ d by omega) (show 46341 ≤ d by omega)
    have h2 : ((d * d : Nat) : Int) = (d : Int) * (d : Int) := Int.natCast_mul ..
    omega
  · exact h1
theorem prm_end {n : Int} {d : Nat} (h1 : 2 ≤ n) (h2 : n ≤ 2147483647) (hd : ¬ (d : Int) * (d : Int) ≤ n) (h : ∀ e : Int, 2 ≤ e → e < (d : Int) → e * e ≤ n → ¬ n.tmod e = 0) : Prm n := by
  refine ⟨h1, h2, fun e he hee => ?_⟩
  rcases Int.lt_or_le e (d : Int) with h3 | h3
  · exact h e he h3 hee
  · have := Int.mul_le_mul h3 h3 (by omega) (by omega)
    omega
theorem prm_more {n : Int} {d : Nat} (hn : ¬ n.tmod (d : Int) = 0) (h : ∀ e : Int, 2 ≤ e → e < (d : Int) → e * e ≤ n → ¬ n.tmod e = 0) : ∀ e : Int, 2 ≤ e → e < ((d + 1 : Nat) : Int) → e * e ≤ n → ¬ n.tmod e = 0 := fun e h1 h2 h3 => by
  by_cases he : e = (d : Int)
  · rw [he]; exact hn
  · exact h e h1 (by omega) h3
theorem mul32 {x y : Nat} (hx : x < 4294967296) (hy : y < 4294967296) : x * y < 18446744073709551616 := Nat.lt_of_le_of_lt (Nat.mul_le_mul (show x ≤ 4294967295 by omega) (show y ≤ 4294967295 by omega)) (by decide)
theorem mul31 {x y : Nat} (hx : x < 2147483648) (hy : y < 2147483648) : 0 ≤ (x : Int) * (y : Int) ∧ (x : Int) * (y : Int) ≤ 4611686014132420609 ∧ ((x * y : Nat) : Int) = (x : Int) * (y : Int) := by
  have h1 := Nat.mul_le_mul (show x ≤ 2147483647 by omega) (show y ≤ 2147483647 by omega)
  have h2 : ((x * y : Nat) : Int) = (x : Int) * (y : Int) := Int.natCast_mul ..
  omega
theorem mul31I {x y : Int} (hx0 : 0 ≤ x) (hx : x < 2147483648) (hy0 : 0 ≤ y) (hy : y < 2147483648) : 0 ≤ x * y ∧ x * y ≤ 4611686014132420609 := by
  have h1 := Int.mul_nonneg hx0 hy0
  have h2 := Int.mul_le_mul (show x ≤ 2147483647 by omega) (show y ≤ 2147483647 by omega) hy0 (by decide)
  omega
theorem pow_start {a n p : Nat} : 1 % p * a ^ n % p = powM a n p := by
  unfold powM
  rw [Nat.mul_mod, Nat.mod_mod, ← Nat.mul_mod, Nat.one_mul]
theorem pow_end {o a p X : Nat} (ho : o < p) (h : o * a ^ 0 % p = X) : o = X := by
  rw [Nat.pow_zero, Nat.mul_one, Nat.mod_eq_of_lt ho] at h
  exact h
theorem floor_quot {x m : Int} (hm : 0 < m) : ((x : Rat) / (m : Rat)).floor = x / m := by
  have h1 := Rat.floor_le ((x : Rat) / (m : Rat))
  have h2 := Rat.lt_floor_add_one ((x : Rat) / (m : Rat))
  generalize ((x : Rat) / (m : Rat)).floor = f at *
  rw [← Rat.not_lt, Rat.div_lt_iff (pos_cast hm), Rat.not_lt, ← Rat.intCast_mul, Rat.intCast_le_intCast] at h1
  rw [Rat.div_lt_iff (pos_cast hm), ← Rat.intCast_mul, Rat.intCast_lt_intCast, Int.add_mul, Int.one_mul] at h2
  exact ((Int.ediv_emod_unique (a := x) (b := m) (r := x - f * m) (q := f) hm).2 ⟨by rw [Int.mul_comm m f]; omega, by omega, by omega⟩).1.symm
theorem mod_rat {x m : Int} (hm : 0 < m) : (x : Rat) - (((x : Rat) / (m : Rat)).floor : Rat) * (m : Rat) = ((x % m : Int) : Rat) := by
  rw [floor_quot hm, ← Rat.intCast_mul, ← Rat.intCast_sub, Int.emod_def, Int.mul_comm]
theorem i64_mod {x m : Int} (hm : 0 < m) (h2 : m ≤ 2147483647) : I64 ((x % m : Int) : Rat) := by
  have h3 := Int.emod_nonneg x (show m ≠ 0 by omega)
  have h4 := Int.emod_lt_of_pos x hm
  refine ⟨Rat.den_intCast .., ?_, ?_⟩ <;> rw [Rat.num_intCast] <;> omega
theorem is_prm {p : Int} (h : (!decide (Prm p)) = false) : Prm p := of_decide_eq_true (by simpa using h)
theorem not_prm {p : Int} (h : (!decide (Prm p)) = true) : ¬ Prm p := of_decide_eq_false (by simpa using h)
/-- when a text has a residue -/
def RedOk (s : ByteArray) (p : Int) : Prop := Prm p ∧ (readR s).isSome ∧ ¬ ((getR s).den : Int) % p = 0
noncomputable instance (s : ByteArray) (p : Int) : Decidable (RedOk s p) := Classical.propDecidable _
theorem redM_nat {N I P : Nat} {r : Rat} {p : Int} (h1 : (N : Int) = r.num % p) (h2 : (I : Int) = invM (r.den : Int) p) (h3 : (P : Int) = p) : ((N * I % P : Nat) : Int) = redM r p := by
  unfold redM
  rw [← h1, ← h2, ← h3, Int.natCast_emod, Int.natCast_mul]
theorem res_step {V x B r P : Nat} (h : V % P = r) : (r * B + x) % P = (x + B * V) % P := by
  rw [Nat.add_comm x, Nat.mul_comm B, Nat.add_mod, Nat.mul_mod, ← h, Nat.mod_mod, ← Nat.mul_mod, ← Nat.add_mod]
theorem res_neg {x : Int} {P r : Nat} (hP : 0 < P) (h : x.natAbs % P = r) (hx : x < 0) : (-(r : Int)) % (P : Int) = x % (P : Int) := by
  have e : x = -((x.natAbs : Nat) : Int) := by omega
  rw [e, ← h, Int.natCast_emod]
  have h1 := Int.mul_ediv_add_emod ((x.natAbs : Nat) : Int) (P : Int)
  generalize ((x.natAbs : Nat) : Int) = y at *
  have h2 : -(y % (P : Int)) = -y + (P : Int) * (y / (P : Int)) := by omega
  rw [h2, Int.add_mul_emod_self_left]
theorem res_pos {x : Int} {P r : Nat} (h : x.natAbs % P = r) (hx : ¬ x < 0) : (r : Int) = x % (P : Int) := by
  have e : x = ((x.natAbs : Nat) : Int) := by omega
  rw [← h, Int.natCast_emod, ← e]
theorem cb_k {s : Cb} {r p : Int} {R Z V I : Nat} (h1 : (R : Int) = r % p) (h2 : (Z : Int) = p) (h3 : (V : Int) = s.v % p) (h4 : (I : Int) = invM s.m p) (hV : V < Z) : (((R + Z - V) % Z * I % Z : Nat) : Int) = s.k r p := by
  unfold Cb.k
  rw [← h1, ← h3, ← h4, ← h2, Int.natCast_emod, Int.natCast_mul, Int.natCast_emod, show ((R + Z - V : Nat) : Int) = ((R : Int) - (V : Int)) + (Z : Int) by omega, Int.add_emod_right]
theorem Cb.Ok.sz {s : Cb} {i : Nat} (h : s.Ok i) : Sz (10 * i + 1) (s.v : Rat) ∧ Sz (10 * i + 1) (s.m : Rat) := by
  obtain ⟨h1, h2, h3⟩ := h
  have h4 : 10 ^ (10 * i + 1) = 10 ^ (10 * i) * 10 := Nat.pow_succ ..
  exact ⟨intR_sz (by omega) (by omega), intR_sz (by omega) (by omega)⟩
theorem cb_castv (s : Cb) (r p : Int) : (s.v : Rat) + (s.m : Rat) * ((s.k r p : Int) : Rat) = (((s.step r p).v : Int) : Rat) := by simp only [Cb.step, Rat.intCast_add, Rat.intCast_mul]
theorem cb_castm (s : Cb) (r p : Int) : (s.m : Rat) * (p : Rat) = (((s.step r p).m : Int) : Rat) := by simp only [Cb.step, Rat.intCast_mul]
/-- a rational number in a kept variable -/
def PtrRat (g : Mem) (b : Nat) (r : Rat) : Prop := ∃ p q a, (∀ (j : Nat) v, [Value.int .i64 p, .int .i64 q, .pointer a][j]? = some v → gcell g b (0 + j) = some v) ∧ IsRat g p q a r
theorem PtrRat.mono {g g' : Mem} {b : Nat} {r : Rat} (h : PtrRat g b r) (hle : g.le g') : PtrRat g' b r := by
  obtain ⟨p, q, a, h1, h2⟩ := h
  exact ⟨p, q, a, fun j v hj => gcell_le hle (h1 j v hj), h2.mono hle⟩
theorem PtrRat.put {g : Mem} {b : Nat} {p q : Int} {a : Option Addr} {r : Rat} {t : TypeId} {f : Nat × Nat} (h : IsRat (gput g b (.cells #[.int .i64 p, .int .i64 q, .pointer a] t f)) p q a r) : PtrRat (gput g b (.cells #[.int .i64 p, .int .i64 q, .pointer a] t f)) b r :=
  ⟨p, q, a, fun j v hj => by rw [Nat.zero_add, gcell_put]; simpa using hj, h⟩
noncomputable instance (m b : Int) : Decidable (fitsZ m b) := Classical.propDecidable _
theorem fits_iff {m x : Int} : (((2 : Int) : Rat) * (x : Rat) * (x : Rat) - (m : Rat)).num.sign < 0 ↔ fitsZ m x := by
  rw [sgn_lt, ← Rat.intCast_mul, ← Rat.intCast_mul, Rat.intCast_le_intCast]
  unfold fitsZ
  omega
theorem int_of_den {r : Rat} (h : r.den = 1) : r = (r.num : Rat) := by
  have h1 := self_frac r
  rw [h, Rat.div_def, show (((1 : Nat) : Int) : Rat)⁻¹ = 1 by decide +kernel, Rat.mul_one] at h1
  exact h1.symm
def RecIn (a b : ByteArray) : Prop := (readR a).isSome ∧ (readR b).isSome ∧ (getR a).den = 1 ∧ (getR b).den = 1 ∧ 2 ≤ (getR b).num
def RecPost (a b s : ByteArray) (ok : Bool) : Prop := (¬ RecIn a b → s = ⟨#[]⟩ ∧ ok = false) ∧ (RecIn a b → ∃ o, RecIs (getR b).num (getR a).num o ∧ ok = o.isSome ∧ s = (o.map ratS).getD ⟨#[]⟩)
theorem rec_bad {a b : ByteArray} (h : ¬ RecIn a b) : RecPost a b ⟨#[]⟩ false := ⟨fun _ => ⟨rfl, rfl⟩, fun k => absurd k h⟩
theorem rec_none {a b : ByteArray} (h : RecIn a b) {i : Nat} (h1 : ∀ j, j < i → ¬ fitsZ (getR b).num (rcIt (getR b).num (getR a).num j).b) (h2 : fitsZ (getR b).num (rcIt (getR b).num (getR a).num i).b) (h3 : ¬ (rcIt (getR b).num (getR a).num i).Good (getR b).num) : RecPost a b ⟨#[]⟩ false :=
  ⟨fun k => absurd h k, fun _ => ⟨none, ⟨i, h1, h2, fun k => absurd k h3, fun _ => rfl⟩, rfl, rfl⟩⟩
theorem rec_some {a b : ByteArray} (h : RecIn a b) {i : Nat} (h1 : ∀ j, j < i → ¬ fitsZ (getR b).num (rcIt (getR b).num (getR a).num j).b) (h2 : fitsZ (getR b).num (rcIt (getR b).num (getR a).num i).b) (h3 : (rcIt (getR b).num (getR a).num i).Good (getR b).num) :
    RecPost a b (ratS (((rcIt (getR b).num (getR a).num i).b : Rat) / ((rcIt (getR b).num (getR a).num i).t : Rat))) true :=
  ⟨fun k => absurd h k, fun _ => ⟨some _, ⟨i, h1, h2, fun _ => rfl, fun k => absurd h3 k⟩, rfl, rfl⟩⟩
theorem Rc.tm {m w : Int} {x : Rc} (hm : 0 < m) (h : x.Inv m w) (hs : x.Sgn) : x.t.natAbs ≤ m.natAbs := by
  obtain ⟨h1, h2, h3, p, q, h4, h5, h6⟩ := h
  obtain ⟨D, hD⟩ : ∃ D, D = p * x.t - q * x.s := ⟨_, rfl⟩
  rw [← hD] at h6
  have e1 : x.a * x.t - x.s * x.b = m * D := by rw [h4, h5, hD]; grind
  have e2 : m * D = m ∨ m * D = -m := by rcases h6 with h | h <;> rw [h] <;> omega
  unfold Rc.Sgn at hs
  rcases Int.lt_trichotomy x.t 0 with ht | ht | ht
  · have k1 : 0 ≤ x.s := by
      rcases Int.lt_or_le x.s 0 with h | h
      · have := Int.mul_pos_of_neg_of_neg h ht; omega
      · exact h
    have k2 := Int.mul_nonneg k1 h1
    have k3 : 1 * x.t ≥ x.a * x.t := by
      have := Int.mul_le_mul_of_nonpos_right (show (1 : Int) ≤ x.a by omega) (show x.t ≤ 0 by omega)
      omega
    have k4 : x.a * x.t < 0 := Int.mul_neg_of_pos_of_neg (by omega) ht
    omega
  · omega
  · have k1 : x.s ≤ 0 := by
      rcases Int.lt_or_le 0 x.s with h | h
      · have := Int.mul_pos h ht; omega
      · exact h
    have k2 := Int.mul_nonpos_of_nonpos_of_nonneg k1 h1
    have k3 : 1 * x.t ≤ x.a * x.t := Int.mul_le_mul_of_nonneg_right (by omega) (by omega)
    omega
theorem rc_castb (x : Rc) (h : x.b ≠ 0) (hb : 0 < x.b) : (x.a : Rat) - (((x.a : Rat) / (x.b : Rat)).floor : Rat) * (x.b : Rat) = ((x.step.b : Int) : Rat) := by
  rw [floor_quot hb]
  simp only [Rc.step, Rat.intCast_sub, Rat.intCast_mul]
theorem rc_castt (x : Rc) (hb : 0 < x.b) : (x.s : Rat) - (((x.a : Rat) / (x.b : Rat)).floor : Rat) * (x.t : Rat) = ((x.step.t : Int) : Rat) := by
  rw [floor_quot hb]
  simp only [Rc.step, Rat.intCast_sub, Rat.intCast_mul]
theorem abs_sz {k : Nat} {x m : Int} (h : x.natAbs ≤ m.natAbs) (hm : Sz k (m : Rat)) : Sz k (x : Rat) := intR_sz (Nat.lt_of_le_of_lt h hm.natAbs) hm.pos
/-- what the loop of Reconstruct knows -/
structure RcOk (m v : Int) (i : Nat) : Prop where
  inv : (rcIt m v i).Inv m (v % m)
  sgn : (rcIt m v i).Sgn
  s : (rcIt m v i).s.natAbs ≤ m.natAbs
  no : ∀ j, j < i → ¬ fitsZ m (rcIt m v j).b
theorem RcOk.start {m v : Int} (hm : 2 ≤ m) : RcOk m v 0 := ⟨Rc.Inv.start (Int.emod_nonneg _ (by omega)) (Int.emod_lt_of_pos _ (by omega)), by simp [rcIt, Rc.start, Rc.Sgn], by simp [rcIt, Rc.start], fun j h => by omega⟩
theorem RcOk.pos {m v : Int} {i : Nat} (hm : 2 ≤ m) (h : RcOk m v i) (hf : ¬ fitsZ m (rcIt m v i).b) : 0 < (rcIt m v i).b := by
  have h1 := h.inv.1
  have h2 : (rcIt m v i).b ≠ 0 := fun e => hf (by unfold fitsZ; rw [e]; omega)
  omega
theorem RcOk.step {m v : Int} {i : Nat} (hm : 2 ≤ m) (h : RcOk m v i) (hf : ¬ fitsZ m (rcIt m v i).b) : RcOk m v (i + 1) ∧ (rcIt m v (i + 1)).b < (rcIt m v i).b := by
  have hb := h.pos hm hf
  obtain ⟨h1, h2⟩ := h.inv.step (by omega)
  refine ⟨⟨h1, h.sgn.step h.inv (by omega), Rc.tm (by omega) h.inv h.sgn, fun j hj => ?_⟩, h2⟩
  by_cases e : j = i
  · rw [e]; exact hf
  · exact h.no j (by omega)
theorem RcOk.szs {m v : Int} {i k : Nat} (hm : 2 ≤ m) (h : RcOk m v i) (hz : Sz k (m : Rat)) : Sz k ((rcIt m v i).a : Rat) ∧ Sz k ((rcIt m v i).b : Rat) ∧ Sz k ((rcIt m v i).s : Rat) ∧ Sz k ((rcIt m v i).t : Rat) := by
  obtain ⟨h1, h2, h3, _⟩ := h.inv
  exact ⟨abs_sz (by omega) hz, abs_sz (by omega) hz, abs_sz h.s hz, abs_sz (Rc.tm (by omega) h.inv h.sgn) hz⟩
theorem IsRat.to {g : Mem} {p q : Int} {a : Option Addr} {x y : Rat} (h : IsRat g p q a x) (e : x = y) : IsRat g p q a y := e ▸ h
theorem nvd_cast {n v d : Int} : (n : Rat) - (v : Rat) * (d : Rat) = ((n - v * d : Int) : Rat) := by rw [Rat.intCast_sub, Rat.intCast_mul]
theorem gcd_ints {x m : Int} : gcdR (x : Rat) (m : Rat) = 1 ↔ Int.gcd x m = 1 := by
  have e : gcdR (x : Rat) (m : Rat) = (((Int.gcd x m : Nat) : Int) : Rat) := by
    unfold gcdR Int.gcd
    simp only [Rat.num_intCast, Rat.den_intCast, Nat.mul_one]
    exact Rat.mkRat_one _
  rw [e]
  constructor
  · intro h
    have h2 : (((Int.gcd x m : Nat) : Int) : Rat) = ((1 : Int) : Rat) := h
    have := Rat.intCast_inj.1 h2
    omega
  · intro h
    rw [h]
    rfl
theorem one_iff {p q : Int} {r : Rat} (h1 : p = r.num) (h2 : q = (r.den : Int) ∨ (q = 0 ∧ r = 0)) (hp : p = 1) : decide (q = 1) = decide (r = 1) := by
  refine decide_eq_decide.2 ⟨fun h => ?_, fun h => ?_⟩
  · rcases h2 with h2 | ⟨h2, _⟩
    · exact Rat.ext (by rw [← h1, hp]; rfl) (by show r.den = 1; omega)
    · omega
  · subst h
    rcases h2 with h2 | ⟨_, h2⟩
    · rw [h2]; rfl
    · exact absurd h2 (by decide +kernel)
end Go.Proofs.Vc
