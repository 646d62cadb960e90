/- A helper of the claim: general lemmas and walks of functions, printed by a program of this session. Conditions: none. -/
import Derived.Test.YtcjhnkmoloiepaaDoorQ2
namespace Go.Proofs.Vc
open Go
set_option linter.unusedVariables false
/-- a prime number that is not too large -/
def Prm (n : Int) : Prop := 2 ≤ n ∧ n ≤ 2147483647 ∧ ∀ d : Int, 2 ≤ d → d * d ≤ n → ¬ n.tmod d = 0
noncomputable instance (n : Int) : Decidable (Prm n) := Classical.propDecidable _
/-- no divisor among those below k -/
def noDiv (n : Nat) : Nat → Bool
  | 0 => true
  | k + 1 => (Nat.ble k 1 || !Nat.beq (n % k) 0) && noDiv n k
theorem noDiv_spec {n : Nat} : ∀ {k : Nat}, noDiv n k = true → ∀ d, 2 ≤ d → d < k → ¬ n % d = 0
  | 0, _, d, _, h => by omega
  | k + 1, h, d, h2, hk => by
    simp only [noDiv, Bool.and_eq_true, Bool.or_eq_true] at h
    rcases Nat.lt_or_ge d k with hd | hd
    · exact noDiv_spec h.2 d h2 hd
    · obtain rfl : d = k := by omega
      rcases h.1 with h1 | h1
      · have := Nat.le_of_ble_eq_true h1; omega
      · intro e
        rw [e] at h1
        cases h1
theorem prm_of {n k : Nat} (h2 : 2 ≤ n) (hn : n ≤ 2147483647) (hk : n < k * k) (h : noDiv n k = true) : Prm (n : Int) := by
  refine ⟨by omega, by omega, fun d hd2 hd => ?_⟩
  obtain ⟨e, rfl⟩ : ∃ e : Nat, d = (e : Int) := ⟨d.toNat, by omega⟩
  have h1 : e < k := by
    rcases Nat.lt_or_ge e k with h | h
    · exact h
    · have := Nat.mul_le_mul h h
      have h3 : ((e * e : Nat) : Int) ≤ (n : Int) := by simpa using hd
      omega
  have h3 := noDiv_spec h e (by omega) h1
  rw [show ((n : Int)).tmod (e : Int) = ((n % e : Nat) : Int) from rfl]
  omega
theorem max_prm : Prm 2147483647 := prm_of (n := 2147483647) (k := 46341) (by decide) (by decide) (by decide) (by decide +kernel)
/-- the least prime number over n -/
def NextIs (n p : Int) : Prop := n < p ∧ Prm p ∧ ∀ q, n < q → q < p → ¬ Prm q
theorem NextIs.unique {n p q : Int} (h : NextIs n p) (k : NextIs n q) : p = q := by
  rcases Int.lt_trichotomy p q with h1 | h1 | h1
  · exact absurd h.2.1 (k.2.2 p h.1 h1)
  · exact h1
  · exact absurd k.2.1 (h.2.2 q k.1 h1)
theorem prm_two : Prm 2 := prm_of (n := 2) (k := 2) (by decide) (by decide) (by decide) (by decide +kernel)
theorem next_small {n : Int} (h : n < 2) : NextIs n 2 := ⟨h, prm_two, fun q _ h2 hq => by have := hq.1; omega⟩
theorem next_none {n p : Int} (h : 2147483647 ≤ n) : ¬ NextIs n p := fun k => by have := k.1; have := k.2.1.2.1; omega
end Go.Proofs.Vc

namespace Go.Proofs.Vc
open Go
set_option linter.unusedVariables false
/-- a power as a residue -/
def powM (a n p : Nat) : Nat := a ^ n % p
theorem powM_lt {a n p : Nat} (hp : 0 < p) : powM a n p < p := Nat.mod_lt _ hp
/-- one round of square and multiply: the bit is 1 -/
theorem pow_round_odd {o a n p X : Nat} (h : o * a ^ n % p = X) (ho : n % 2 = 1) : (o * a % p) * (a * a % p) ^ (n / 2) % p = X := by
  have e : n = 2 * (n / 2) + 1 := by omega
  rw [← h]
  conv => rhs; rw [e, Nat.pow_succ, Nat.pow_mul, Nat.pow_two]
  rw [Nat.mul_mod, Nat.mod_mod, ← Nat.pow_mod (a * a) (n / 2) p, ← Nat.mul_mod, Nat.mul_assoc, Nat.mul_comm a ((a * a) ^ (n / 2))]
theorem pow_round_even {o a n p X : Nat} (h : o * a ^ n % p = X) (ho : n % 2 = 0) : o * (a * a % p) ^ (n / 2) % p = X := by
  have e : n = 2 * (n / 2) := by omega
  rw [← h]
  conv => rhs; rw [e, Nat.pow_mul, Nat.pow_two]
  rw [Nat.mul_mod, ← Nat.pow_mod (a * a) (n / 2) p, ← Nat.mul_mod]
/-- the residue as the program makes it -/
theorem tmod_fix (a p : Int) (hp : 0 < p) : (if a.tmod p < 0 then a.tmod p + p else a.tmod p) = a % p := by
  have h1 := Int.emod_nonneg a (show p ≠ 0 by omega)
  have h2 := Int.emod_lt_of_pos a hp
  rw [Int.tmod_eq_emod]
  split <;> split <;> omega
theorem tmod_zero {a p : Int} (hp : 0 < p) : a.tmod p = 0 ↔ a % p = 0 := by
  have h1 := Int.emod_nonneg a (show p ≠ 0 by omega)
  have h2 := Int.emod_lt_of_pos a hp
  rw [Int.tmod_eq_emod]
  split <;> omega
/-- the inverse as both compute it -/
def invM (a p : Int) : Int := ((powM (a % p).toNat (p - 2).toNat p.toNat : Nat) : Int)
theorem invM_bound {a p : Int} (hp : 2 ≤ p) : 0 ≤ invM a p ∧ invM a p < p := by
  have := powM_lt (a := (a % p).toNat) (n := (p - 2).toNat) (p := p.toNat) (by omega)
  unfold invM
  omega
theorem invM_mod (a p : Int) : invM (a % p) p = invM a p := by unfold invM; rw [Int.emod_emod]
/-- the residue of a rational number -/
def redM (r : Rat) (p : Int) : Int := (r.num % p) * invM (r.den : Int) p % p
end Go.Proofs.Vc

namespace Go.Proofs.Vc
open Go
set_option linter.unusedVariables false
def PrN (p : Nat) : Prop := 2 ≤ p ∧ ∀ d, 2 ≤ d → d * d ≤ p → ¬ d ∣ p
theorem Prm.nat {p : Int} (h : Prm p) : PrN p.toNat ∧ ((p.toNat : Nat) : Int) = p := by
  obtain ⟨h1, h2, h3⟩ := h
  refine ⟨⟨by omega, fun d hd hdd hdv => ?_⟩, by omega⟩
  have h4 : ((p.toNat : Nat) : Int) = p := by omega
  have h5 : ((d * d : Nat) : Int) ≤ p := by omega
  refine h3 (d : Int) (by omega) (by simpa using h5) ?_
  rw [← h4, show (((p.toNat : Nat) : Int)).tmod (d : Int) = ((p.toNat % d : Nat) : Int) from rfl, Nat.mod_eq_zero_of_dvd hdv]
  rfl
theorem PrN.coprime {p a : Nat} (h : PrN p) (ha : ¬ p ∣ a) : Nat.Coprime p a := by
  obtain ⟨h2, h3⟩ := h
  have hg1 : Nat.gcd p a ∣ p := Nat.gcd_dvd_left p a
  have hg2 : Nat.gcd p a ∣ a := Nat.gcd_dvd_right p a
  unfold Nat.Coprime
  generalize Nat.gcd p a = g at *
  obtain ⟨k, hk⟩ := hg1
  have hg0 : g ≠ 0 := fun e => by subst e; omega
  have hk0 : k ≠ 0 := fun e => by subst e; omega
  by_cases e1 : g = 1
  · exact e1
  · by_cases e2 : k = 1
    · subst e2
      rw [Nat.mul_one] at hk
      rw [← hk] at hg2
      exact absurd hg2 ha
    · exfalso
      rcases Nat.le_total g k with hle | hle
      · exact h3 g (by omega) (by rw [hk]; exact Nat.mul_le_mul_left g hle) ⟨k, hk⟩
      · exact h3 k (by omega) (by rw [hk]; exact Nat.mul_le_mul_right k hle) ⟨g, by rw [hk, Nat.mul_comm]⟩
theorem PrN.euclid {p a b : Nat} (h : PrN p) (hd : p ∣ a * b) : p ∣ a ∨ p ∣ b := by
  by_cases ha : p ∣ a
  · exact .inl ha
  · exact .inr ((h.coprime ha).dvd_of_dvd_mul_left hd)
/-! binomial numbers -/
def bino : Nat → Nat → Nat
  | _, 0 => 1
  | 0, _ + 1 => 0
  | n + 1, k + 1 => bino n k + bino n (k + 1)
theorem bino_zero (n : Nat) : bino n 0 = 1 := by cases n <;> rfl
theorem bino_over : ∀ (n k : Nat), n < k → bino n k = 0
  | 0, 0, h => by omega
  | 0, k + 1, _ => rfl
  | n + 1, 0, h => by omega
  | n + 1, k + 1, h => by
    show bino n k + bino n (k + 1) = 0
    rw [bino_over n k (by omega), bino_over n (k + 1) (by omega)]
theorem bino_self : ∀ n, bino n n = 1
  | 0 => rfl
  | n + 1 => by
    show bino n n + bino n (n + 1) = 1
    rw [bino_self n, bino_over n (n + 1) (by omega)]
theorem bino_mul : ∀ (n k : Nat), (k + 1) * bino (n + 1) (k + 1) = (n + 1) * bino n k
  | 0, 0 => rfl
  | 0, k + 1 => by
    show (k + 2) * (bino 0 (k + 1) + bino 0 (k + 2)) = 1 * bino 0 (k + 1)
    rw [show bino 0 (k + 1) = 0 from rfl, show bino 0 (k + 2) = 0 from rfl, Nat.add_zero, Nat.mul_zero, Nat.mul_zero]
  | n + 1, 0 => by
    have h := bino_mul n 0
    have e : bino (n + 1 + 1) (0 + 1) = bino (n + 1) 0 + bino (n + 1) 1 := rfl
    rw [e, bino_zero]
    rw [bino_zero] at h
    have h2 : bino (n + 1) (0 + 1) = bino (n + 1) 1 := rfl
    rw [h2] at h
    omega
  | n + 1, k + 1 => by
    have h1 := bino_mul n k
    have h2 := bino_mul n (k + 1)
    have e1 : bino (n + 1 + 1) (k + 1 + 1) = bino (n + 1) (k + 1) + bino (n + 1) (k + 1 + 1) := rfl
    have e2 : bino (n + 1) (k + 1) = bino n k + bino n (k + 1) := rfl
    rw [e1, Nat.mul_add, h2]
    have h3 : (k + 1 + 1) * bino (n + 1) (k + 1) = (n + 1) * bino n k + bino (n + 1) (k + 1) := by rw [← h1, Nat.succ_mul]
    rw [h3, e2]
    generalize bino n k = x
    generalize bino n (k + 1) = y
    grind
def binS (n a : Nat) : Nat → Nat
  | 0 => 0
  | m + 1 => binS n a m + bino n m * a ^ m
theorem binS_step (n a : Nat) : ∀ m, binS (n + 1) a (m + 1) = a * binS n a m + binS n a (m + 1)
  | 0 => by simp [binS, bino_zero]
  | m + 1 => by
    have h := binS_step n a m
    show binS (n + 1) a (m + 1) + (bino n m + bino n (m + 1)) * a ^ (m + 1) = a * (binS n a m + bino n m * a ^ m) + (binS n a (m + 1) + bino n (m + 1) * a ^ (m + 1))
    rw [h, Nat.pow_succ]
    grind
theorem binS_eq (a : Nat) : ∀ n, (a + 1) ^ n = binS n a (n + 1)
  | 0 => by simp [binS, bino_zero]
  | n + 1 => by
    rw [Nat.pow_succ, binS_eq a n, binS_step]
    have : binS n a (n + 1 + 1) = binS n a (n + 1) := by
      show binS n a (n + 1) + bino n (n + 1) * a ^ (n + 1) = _
      rw [bino_over n (n + 1) (by omega), Nat.zero_mul, Nat.add_zero]
    rw [this, Nat.mul_add, Nat.mul_one, Nat.mul_comm]
theorem bino_dvd {p k : Nat} (hp : PrN p) (h0 : 0 < k) (h : k < p) : p ∣ bino p k := by
  obtain ⟨j, rfl⟩ : ∃ j, k = j + 1 := ⟨k - 1, by omega⟩
  obtain ⟨n, rfl⟩ : ∃ n, p = n + 1 := ⟨p - 1, by omega⟩
  have h1 : n + 1 ∣ (j + 1) * bino (n + 1) (j + 1) := ⟨bino n j, bino_mul n j⟩
  exact (hp.coprime (fun hd => by have := Nat.le_of_dvd (by omega) hd; omega)).dvd_of_dvd_mul_left h1
theorem binS_mod {p : Nat} (hp : PrN p) (a : Nat) : ∀ m, m < p → binS p a (m + 1) % p = 1 % p
  | 0, _ => by simp [binS, bino_zero]
  | m + 1, h => by
    show (binS p a (m + 1) + bino p (m + 1) * a ^ (m + 1)) % p = 1 % p
    rw [Nat.add_mod, binS_mod hp a m (by omega), Nat.mod_eq_zero_of_dvd (Nat.dvd_mul_right_of_dvd (bino_dvd hp (by omega) h) _), Nat.add_zero, Nat.mod_mod]
theorem fermat {p : Nat} (hp : PrN p) : ∀ a, a ^ p % p = a % p
  | 0 => by
    have := hp.1
    rw [Nat.zero_pow (by omega)]
  | a + 1 => by
    have h2 := hp.1
    rw [binS_eq]
    show (binS p a p + bino p p * a ^ p) % p = _
    have h3 := binS_mod hp a (p - 1) (by omega)
    rw [show p - 1 + 1 = p by omega] at h3
    rw [bino_self, Nat.one_mul, Nat.add_mod, h3, fermat hp a, ← Nat.add_mod, Nat.add_comm]
theorem fermat_inv {p a : Nat} (hp : PrN p) (ha : ¬ p ∣ a) : a * a ^ (p - 2) % p = 1 := by
  have h2 := hp.1
  have hf := fermat hp a
  have e : a ^ p = a * (a * a ^ (p - 2)) := by
    rw [← Nat.pow_succ', ← Nat.pow_succ']
    congr 1
    omega
  have hpos : 0 < a * a ^ (p - 2) := Nat.pos_of_ne_zero fun h0 => ha (by
    have ha0 : a = 0 := by
      rcases Nat.mul_eq_zero.1 h0 with h | h
      · exact h
      · exact (Nat.pow_eq_zero.1 h).1
    rw [ha0]
    exact Nat.dvd_zero p)
  generalize a * a ^ (p - 2) = x at *
  have h3 : p ∣ a * (x - 1) := by
    have h4 : a * x % p = a % p := by rw [← e]; exact hf
    have h5 : a * (x - 1) = a * x - a := by rw [Nat.mul_sub, Nat.mul_one]
    rw [h5]
    have h9 : a ≤ a * x := Nat.le_mul_of_pos_right a hpos
    have h10 : (a * x - a) % p = 0 := Nat.sub_mod_eq_zero_of_mod_eq h4
    exact Nat.dvd_of_mod_eq_zero h10
  have h6 := (hp.coprime ha).dvd_of_dvd_mul_left h3
  obtain ⟨k, hk⟩ := h6
  have h7 : x = 1 + p * k := by omega
  rw [h7, Nat.add_mul_mod_self_left, Nat.mod_eq_of_lt (by omega)]
end Go.Proofs.Vc

namespace Go.Proofs.Vc
open Go
set_option linter.unusedVariables false
theorem invM_spec {a p : Int} (hp : Prm p) (ha : ¬ a % p = 0) : a * invM a p % p = 1 := by
  obtain ⟨h1, h2⟩ := hp.nat
  have hp2 := hp.1
  have h3 := Int.emod_nonneg a (show p ≠ 0 by omega)
  have h4 := Int.emod_lt_of_pos a (show 0 < p by omega)
  have h5 : ¬ p.toNat ∣ (a % p).toNat := fun hd => by
    rcases Nat.eq_zero_or_pos (a % p).toNat with h | h
    · omega
    · have := Nat.le_of_dvd h hd
      omega
  have h6 := fermat_inv h1 h5
  have h7 : a * invM a p % p = (((a % p).toNat * (a % p).toNat ^ (p.toNat - 2) % p.toNat : Nat) : Int) := by
    unfold invM powM
    rw [show (p - 2).toNat = p.toNat - 2 by omega]
    simp only [Int.natCast_emod, Int.natCast_mul, h2]
    rw [show (((a % p).toNat : Nat) : Int) = a % p by omega, Int.mul_emod, Int.emod_emod, ← Int.mul_emod]
    conv => rhs; rw [Int.mul_emod, Int.emod_emod, ← Int.mul_emod]
  rw [h7, h6]
  rfl
theorem emod_zero_iff {a p : Int} : a % p = 0 ↔ p ∣ a := ⟨Int.dvd_of_emod_eq_zero, Int.emod_eq_zero_of_dvd⟩
theorem Prm.euclid {p a b : Int} (hp : Prm p) (h : a * b % p = 0) : a % p = 0 ∨ b % p = 0 := by
  obtain ⟨h1, h2⟩ := hp.nat
  have h3 : p.toNat ∣ a.natAbs * b.natAbs := by
    rw [← Int.natAbs_mul]
    exact Int.ofNat_dvd_left.1 (by rw [h2]; exact emod_zero_iff.1 h)
  rcases h1.euclid h3 with h | h
  · left; rw [emod_zero_iff, ← h2]; exact Int.ofNat_dvd_left.2 h
  · right; rw [emod_zero_iff, ← h2]; exact Int.ofNat_dvd_left.2 h
/-- one step of the combination -/
structure Cb where
  v : Int
  m : Int
def Cb.start : Cb := ⟨0, 1⟩
def Cb.k (s : Cb) (r p : Int) : Int := ((r % p - s.v % p) % p * invM s.m p) % p
def Cb.step (s : Cb) (r p : Int) : Cb := ⟨s.v + s.m * s.k r p, s.m * p⟩
def cbRun (rs ps : List Int) : Nat → Cb
  | 0 => Cb.start
  | i + 1 => (cbRun rs ps i).step (rs.getD i 0) (ps.getD i 0)
def Cb.Ok (s : Cb) (i : Nat) : Prop := 0 ≤ s.v ∧ s.v < s.m ∧ s.m ≤ ((10 ^ (10 * i) : Nat) : Int)
theorem Cb.k_bound {s : Cb} {r p : Int} (hp : 2 ≤ p) : 0 ≤ s.k r p ∧ s.k r p < p := ⟨Int.emod_nonneg _ (by omega), Int.emod_lt_of_pos _ (by omega)⟩
theorem Cb.Ok.start : Cb.start.Ok 0 := ⟨by decide, by decide, by decide⟩
theorem Cb.Ok.step {s : Cb} {i : Nat} (h : s.Ok i) {r p : Int} (hp : Prm p) : (s.step r p).Ok (i + 1) := by
  obtain ⟨h1, h2, h3⟩ := h
  obtain ⟨k1, k2⟩ := Cb.k_bound (s := s) (r := r) hp.1
  have hm : s.m * s.k r p ≤ s.m * (p - 1) := Int.mul_le_mul_of_nonneg_left (by omega) (by omega)
  have hm0 : 0 ≤ s.m * s.k r p := Int.mul_nonneg (by omega) k1
  rw [Int.mul_sub, Int.mul_one] at hm
  have e1 : 10 ^ (10 * (i + 1)) = 10 ^ (10 * i) * 10000000000 := by rw [Nat.mul_add, Nat.pow_add]
  have e2 : s.m * p ≤ s.m * 10000000000 := Int.mul_le_mul_of_nonneg_left (by have := hp.2.1; omega) (by omega)
  refine ⟨?_, ?_, ?_⟩ <;> simp only [Cb.step]
  · omega
  · omega
  · rw [e1]
    have : ((10 ^ (10 * i) * 10000000000 : Nat) : Int) = ((10 ^ (10 * i) : Nat) : Int) * 10000000000 := by rw [Int.natCast_mul]; rfl
    rw [this]
    have e3 : s.m * 10000000000 ≤ ((10 ^ (10 * i) : Nat) : Int) * 10000000000 := Int.mul_le_mul_of_nonneg_right h3 (by decide)
    omega
theorem cbRun_ok {rs ps : List Int} (hps : ∀ p ∈ ps, Prm p) : ∀ i, i ≤ ps.length → (cbRun rs ps i).Ok i
  | 0, _ => Cb.Ok.start
  | i + 1, h => (cbRun_ok hps i (by omega)).step (hps _ (by
      rw [List.getD_eq_getElem?_getD, List.getElem?_eq_getElem (by omega)]
      exact List.getElem_mem _))
/-- a prime divides the product of the primes before it exactly if it is one of them -/
theorem cbRun_dvd {rs ps : List Int} (hps : ∀ p ∈ ps, Prm p) {p : Int} (hp : Prm p) : ∀ i, i ≤ ps.length → ((cbRun rs ps i).m % p = 0 ↔ p ∈ ps.take i)
  | 0, _ => by
    have := hp.1
    simp only [List.take_zero, List.not_mem_nil, iff_false]
    show ¬ (1 : Int) % p = 0
    rw [Int.emod_eq_of_lt (by decide) (by omega)]
    decide
  | i + 1, h => by
    have hget : ps[i]? = some ps[i] := List.getElem?_eq_getElem (by omega)
    have hq : Prm ps[i] := hps _ (List.getElem_mem _)
    have hd : ps.getD i 0 = ps[i] := by rw [List.getD_eq_getElem?_getD, hget]; rfl
    have ih := cbRun_dvd (rs := rs) hps hp i (by omega)
    rw [List.take_add_one, hget, List.mem_append]
    show (cbRun rs ps i).m * ps.getD i 0 % p = 0 ↔ _
    rw [hd]
    constructor
    · intro h9
      rcases hp.euclid h9 with h8 | h8
      · exact .inl (ih.1 h8)
      · right
        have h7 := emod_zero_iff.1 h8
        obtain ⟨k, hk⟩ := h7
        have hp1 := hp.1
        have hq1 := hq.1
        have hk0 : 0 < k := by
          rcases Int.lt_or_le 0 k with h | h
          · exact h
          · have := Int.mul_le_mul_of_nonneg_left h (show 0 ≤ p by omega)
            rw [Int.mul_zero] at this
            omega
        by_cases hk1 : k = 1
        · subst hk1
          rw [Int.mul_one] at hk
          simp [hk]
        · exfalso
          rcases Int.le_total p k with hle | hle
          · refine hq.2.2 p hp1 ?_ ((tmod_zero (by omega)).2 h8)
            rw [hk]
            exact Int.mul_le_mul_of_nonneg_left hle (by omega)
          · refine hq.2.2 k (by omega) ?_ ((tmod_zero (by omega)).2 (emod_zero_iff.2 ⟨p, by rw [hk, Int.mul_comm]⟩))
            conv => rhs; rw [hk]
            exact Int.mul_le_mul_of_nonneg_right hle (by omega)
    · rintro (h9 | h9)
      · rw [Int.mul_emod, ih.2 h9, Int.zero_mul, Int.zero_emod]
      · have : p = ps[i] := by simpa using h9
        rw [this, Int.mul_emod_left]
end Go.Proofs.Vc
