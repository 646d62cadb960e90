/- A helper of the claim: general lemmas and walks of functions, printed by a program of this session. Conditions: none. -/
import Derived.Test.YtnbcedkpkcgmkaaGreatDoorQX
import Derived.Lib.TrailingZeros
import Derived.Test.YtnbcedkpkcgmkaaGreatDoorXN
import Derived.Test.YtnbcedkpkcgmkaaGreatDoorQ3
namespace Go.Proofs.Vc
open Go
/-- how often 2 divides (0 for 0) -/
def tz (N : Nat) : Nat := if h : N = 0 then 0 else if N % 2 = 1 then 0 else tz (N / 2) + 1
termination_by N
decreasing_by omega
theorem tz_zero : tz 0 = 0 := by rw [tz]; simp
theorem tz_odd {N : Nat} (h : N % 2 = 1) : tz N = 0 := by rw [tz]; simp [h]
theorem tz_even {N : Nat} (h0 : 0 < N) (h : N % 2 = 0) : tz N = tz (N / 2) + 1 := by
  rw [tz, dif_neg (by omega), if_neg (by omega)]
theorem tz_two {N : Nat} (h0 : 0 < N) : tz (2 * N) = tz N + 1 := by
  rw [tz_even (by omega) (by omega), Nat.mul_div_cancel_left _ (by decide)]
theorem tz_pow {N : Nat} (h0 : 0 < N) : ∀ k, tz (2 ^ k * N) = k + tz N
  | 0 => by simp
  | k + 1 => by
    rw [Nat.pow_succ, Nat.mul_comm (2 ^ k) 2, Nat.mul_assoc, tz_two (Nat.mul_pos (Nat.pow_pos (by decide)) h0), tz_pow h0 k]
    omega
theorem tz_spec : ∀ N : Nat, 0 < N → ∃ m, N = 2 ^ tz N * m ∧ m % 2 = 1 := by
  intro N
  induction N using Nat.strongRecOn with
  | _ N ih =>
    intro h0
    rcases Nat.mod_two_eq_zero_or_one N with h | h
    · obtain ⟨m, h1, h2⟩ := ih (N / 2) (by omega) (by omega)
      refine ⟨m, ?_, h2⟩
      rw [tz_even h0 h, Nat.pow_succ, Nat.mul_assoc, Nat.mul_left_comm, ← h1]
      omega
    · exact ⟨N, by rw [tz_odd h]; simp, h⟩
theorem tz_le {N k : Nat} (h0 : 0 < N) (h : N < 2 ^ k) : tz N < k := by
  obtain ⟨m, h1, h2⟩ := tz_spec N h0
  rcases Nat.lt_or_ge (tz N) k with h9 | h9
  · exact h9
  · have h3 : 2 ^ k ≤ 2 ^ tz N := Nat.pow_le_pow_right (by decide) h9
    have h4 : 2 ^ tz N * 1 ≤ 2 ^ tz N * m := Nat.mul_le_mul_left _ (by omega)
    omega
/-- the words above the first that is not zero do not count -/
theorem tz_low {M R k : Nat} (h0 : 0 < M) (h : M < 2 ^ k) : tz (M + 2 ^ k * R) = tz M := by
  obtain ⟨m, h1, h2⟩ := tz_spec M h0
  have h3 := tz_le h0 h
  obtain ⟨j, hj⟩ : ∃ j, k = tz M + (j + 1) := ⟨k - tz M - 1, by omega⟩
  have e : M + 2 ^ k * R = 2 ^ tz M * (m + 2 * (2 ^ j * R)) := by
    rw [hj, Nat.pow_add, Nat.mul_add, ← h1, Nat.pow_succ]
    congr 1
    rw [Nat.mul_assoc, Nat.mul_comm (2 ^ j) 2, Nat.mul_assoc]
  have hpos : 0 < m + 2 * (2 ^ j * R) := by omega
  have hodd : (m + 2 * (2 ^ j * R)) % 2 = 1 := by omega
  rw [e, tz_pow hpos, tz_odd hodd, Nat.add_zero]
theorem tz_ctz {x : Nat} (h0 : 0 < x) (h : x < 18446744073709551616) : Lib.ctz 64 x = tz x := by
  unfold Lib.ctz
  rw [if_neg (by omega)]
  obtain ⟨m, h1, h2⟩ := Lib.ctzFrom_spec 64 x h0 h
  conv => rhs; rw [h1]
  rw [tz_pow (by omega), tz_odd (by omega), Nat.add_zero]
end Go.Proofs.Vc

namespace Go.Proofs.Vc
open Go
/-- the nearest whole number; a half goes to the even one -/
def halfEven (x : Rat) : Int := if 0 < (2 * (x - (x.floor : Rat)) - 1).num.sign ∨ ((2 * (x - (x.floor : Rat)) - 1).num.sign = 0 ∧ x.floor.natAbs % 2 = 1) then x.floor + 1 else x.floor
theorem halfEven_up {x : Rat} (h : 0 < (2 * (x - (x.floor : Rat)) - 1).num.sign ∨ ((2 * (x - (x.floor : Rat)) - 1).num.sign = 0 ∧ x.floor.natAbs % 2 = 1)) : halfEven x = x.floor + 1 := by
  unfold halfEven
  rw [if_pos h]
theorem halfEven_down {x : Rat} (h : ¬ (0 < (2 * (x - (x.floor : Rat)) - 1).num.sign ∨ ((2 * (x - (x.floor : Rat)) - 1).num.sign = 0 ∧ x.floor.natAbs % 2 = 1))) : halfEven x = x.floor := by
  unfold halfEven
  rw [if_neg h]
/-- the nearest multiple of 1 over 2 to the n -/
def dyR (r : Rat) (n : Nat) : Rat := Rat.divInt (halfEven (r * (((2 ^ n : Nat) : Int) : Rat))) ((2 ^ n : Nat) : Int)
theorem two_pow_sz (n : Nat) : Sz (n + 1) (((2 ^ n : Nat) : Int) : Rat) := intR_sz (by
  rw [Int.natAbs_natCast]
  exact Nat.lt_of_le_of_lt (Nat.pow_le_pow_left (by decide) n) (Nat.pow_lt_pow_right (by decide) (by omega))) (by omega)
theorem two_pow_ne (e : Nat) : ((2 ^ e : Nat) : Int) ≠ 0 := by
  have : 0 < 2 ^ e := Nat.pow_pos (by decide)
  omega
theorem len_succ {g : Mem} {ng : Bool} {A : Option Addr} {n k : Nat} {F : Int} (h : IsZ g ng A n (F + 1)) (hF : F.natAbs < 4294967296 ^ k) : n ≤ k + 1 :=
  h.len (by
    rw [Nat.pow_succ]
    have : 0 < 4294967296 ^ k := Nat.pow_pos (by decide)
    omega)
theorem hval_odd {x : Nat} {xs : List Nat} (h : xs[0]? = some x) : hval xs % 2 = x % 2 := by
  have h1 := h_val_drop_get h
  rw [List.drop_zero] at h1
  omega
section
open Go.RowKit
theorem bits_and_u32_nat (a b : Nat) (ha : a < 4294967296) (hb : b < 4294967296) : bits .and .u32 (a : Int) (b : Int) = ((a &&& b : Nat) : Int) := by
  have hx : a &&& b ≤ a := Nat.and_le_left
  have h1 : (BitVec.ofInt 32 (a : Int)).toNat = a := by
    rw [BitVec.ofInt_natCast, BitVec.toNat_ofNat]; exact Nat.mod_eq_of_lt (by omega)
  have h2 : (BitVec.ofInt 32 (b : Int)).toNat = b := by
    rw [BitVec.ofInt_natCast, BitVec.toNat_ofNat]; exact Nat.mod_eq_of_lt (by omega)
  show IntKind.u32.wrap ((BitVec.ofInt 32 (a : Int) &&& BitVec.ofInt 32 (b : Int)).toNat : Int) = _
  rw [BitVec.toNat_and, h1, h2, IntKind.wrap_u32]
  omega
theorem does_odd_u32 {P : Program} {S : World → Prop} {kn : Kn} {o : Oper} {t yt : TypeId} {x y : Operand} {a : Nat} (ho : o.op = .binOp .and t x y yt) (hx : kev kn x = some (.int .u32 (a : Int))) (hy : kev kn y = some (.int .u32 1)) (ha : a < 4294967296) : Does P S kn o (.int .u32 ((a % 2 : Nat) : Int)) :=
  Does.int (does_and ho hx hy) (by
    rw [show (1 : Int) = ((1 : Nat) : Int) from rfl, bits_and_u32_nat a 1 ha (by decide), Nat.and_one_is_mod])
end
end Go.Proofs.Vc

namespace Go.Proofs.Vc
open Go
set_option linter.unusedVariables false
theorem odd_coprime_pow {m k : Nat} (h : m % 2 = 1) : Nat.gcd (2 ^ k) m = 1 := by
  have h2 : Nat.Coprime 2 m := by
    unfold Nat.Coprime
    rw [Nat.gcd_rec, h]
    rfl
  exact Nat.Coprime.pow_left k h2
theorem tz_dvd {N j : Nat} (h : j ≤ tz N) : N = N / 2 ^ j * 2 ^ j := by
  rcases Nat.eq_zero_or_pos N with h0 | h0
  · subst h0; simp
  · obtain ⟨m, h1, h2⟩ := tz_spec N h0
    have h3 : 2 ^ j ∣ N := by
      rw [h1]
      exact Nat.dvd_trans (Nat.pow_dvd_pow 2 h) (Nat.dvd_mul_right _ _)
    exact (Nat.div_mul_cancel h3).symm
/-- what is left of a reduced pair when the common power of two goes over -/
theorem shift_coprime {N D k j : Nat} (hD : 0 < D) (hc : Nat.gcd N D = 1) (hj : j = min k (tz D)) : Nat.gcd (N * 2 ^ (k - j)) (D / 2 ^ j) = 1 := by
  have hd : D = D / 2 ^ j * 2 ^ j := tz_dvd (by omega)
  have hdv : D / 2 ^ j ∣ D := ⟨2 ^ j, hd⟩
  have hc1 : Nat.Coprime N (D / 2 ^ j) := Nat.Coprime.coprime_dvd_right hdv hc
  by_cases hk : k ≤ tz D
  · rw [show k - j = 0 by omega, Nat.pow_zero, Nat.mul_one]
    exact hc1
  · have e : j = tz D := by omega
    obtain ⟨m, h1, h2⟩ := tz_spec D hD
    have hm : D / 2 ^ j = m := by
      have h3 := Nat.mul_div_cancel_left m (show 0 < 2 ^ tz D from Nat.pow_pos (by decide))
      rw [← h1] at h3
      rw [e]
      exact h3
    rw [hm] at hc1 ⊢
    exact Nat.Coprime.mul_left hc1 (odd_coprime_pow h2)
theorem shift_pos {D j : Nat} (hD : 0 < D) (hj : j ≤ tz D) : 0 < D / 2 ^ j := by
  have := tz_dvd hj
  rcases Nat.eq_zero_or_pos (D / 2 ^ j) with h | h
  · rw [h, Nat.zero_mul] at this; omega
  · exact h
theorem pow_split {k j : Nat} (h : j ≤ k) : 2 ^ k = 2 ^ (k - j) * 2 ^ j := by
  rw [← Nat.pow_add]
  congr 1
  omega
theorem divInt_one (z : Int) : Rat.divInt z 1 = (z : Rat) := by
  rw [show (1 : Int) = ((1 : Nat) : Int) from rfl, Rat.divInt_ofNat]
  exact Rat.mkRat_one z
theorem rat_mulR (r : Rat) (z : Int) : mkRat (r.num * z) r.den = r * (z : Rat) := by
  have := rat_mul r (z : Rat)
  rw [Rat.num_intCast, Rat.den_intCast, Nat.mul_one] at this
  exact this
theorem shift_up {r : Rat} {k j : Nat} (hj : j = min k (tz r.den)) : mkRat (sg (decide (r.num < 0)) (r.num.natAbs * 2 ^ (k - j))) (r.den / 2 ^ j) = r * (((2 ^ k : Nat) : Int) : Rat) := by
  have hd : r.den = r.den / 2 ^ j * 2 ^ j := tz_dvd (by omega)
  have hp : 0 < r.den / 2 ^ j := shift_pos (Nat.pos_of_ne_zero r.den_nz) (by omega)
  have h2 : 0 < 2 ^ j := Nat.pow_pos (by decide)
  rw [sg_abs, ← rat_mulR, Rat.mkRat_eq_iff (by omega) r.den_nz]
  conv => lhs; rw [hd]
  rw [pow_split (k := k) (j := j) (by omega), Int.natCast_mul, Int.natCast_mul]
  simp only [Int.mul_assoc]
  congr 2
  rw [Int.mul_comm]
theorem rat_divR (r : Rat) {K : Nat} (hK : 0 < K) : mkRat r.num (r.den * K) = r / ((K : Int) : Rat) := by
  have h1 := rat_mul r ((K : Int) : Rat)⁻¹
  have h2 := inv_parts (z := ((K : Int) : Rat)) (by rw [Rat.num_intCast]; omega)
  rw [Rat.num_intCast, Rat.den_intCast, Int.natAbs_natCast] at h2
  rw [h2.1, h2.2, show r.num * ((1 : Nat) : Int) = r.num by omega] at h1
  rw [h1, Rat.div_def]
theorem shift_down {r : Rat} {k j : Nat} (hj : j = min k (tz r.num.natAbs)) : mkRat (sg (decide (r.num < 0)) (r.num.natAbs / 2 ^ j)) (r.den * 2 ^ (k - j)) = r / (((2 ^ k : Nat) : Int) : Rat) := by
  have hd : r.num.natAbs = r.num.natAbs / 2 ^ j * 2 ^ j := tz_dvd (by omega)
  have h2 : 0 < 2 ^ j := Nat.pow_pos (by decide)
  have h3 : 0 < 2 ^ (k - j) := Nat.pow_pos (by decide)
  have h4 : 0 < 2 ^ k := Nat.pow_pos (by decide)
  have hD := Nat.pos_of_ne_zero r.den_nz
  have e : r.num = sg (decide (r.num < 0)) (r.num.natAbs / 2 ^ j) * ((2 ^ j : Nat) : Int) := by
    rw [← sg_mulN, ← hd, sg_num]
  rw [← rat_divR r h4, Rat.mkRat_eq_iff (Nat.mul_ne_zero (by omega) (by omega)) (Nat.mul_ne_zero (by omega) (by omega))]
  conv => rhs; rw [e]
  rw [pow_split (k := k) (j := j) (by omega)]
  simp only [Int.natCast_mul, Int.mul_assoc]
  ac_rfl
theorem shift_gcd_down (r : Rat) {k j : Nat} (hj : j = min k (tz r.num.natAbs)) : r.num.natAbs / 2 ^ j = 0 ∨ Nat.gcd (r.num.natAbs / 2 ^ j) (r.den * 2 ^ (k - j)) = 1 := by
  rcases Nat.eq_zero_or_pos r.num.natAbs with h0 | h0
  · left; rw [h0]; simp
  · right
    rw [Nat.gcd_comm]
    exact shift_coprime h0 (by rw [Nat.gcd_comm]; exact r.reduced) hj
theorem int_half_den {F : Int} : ((F : Rat) / (((2 ^ 1 : Nat) : Int) : Rat)).den = 1 ↔ F.natAbs % 2 = 0 := by
  rw [← rat_divR (F : Rat) (K := 2 ^ 1) (by decide), Rat.num_intCast, Rat.den_intCast]
  constructor
  · intro h
    have h1 := Rat.mkRat_self (mkRat F (1 * 2 ^ 1))
    rw [h, Rat.mkRat_eq_iff (by decide) (by decide)] at h1
    omega
  · intro h
    obtain ⟨m, hm⟩ : ∃ m, F = m * 2 := ⟨F / 2, by omega⟩
    rw [hm, show mkRat (m * 2) (1 * 2 ^ 1) = mkRat m 1 from Rat.mkRat_mul_right (by decide) (n := m) (d := 1), Rat.mkRat_one, Rat.den_intCast]
theorem odd_of_half {F : Int} (h : (!decide (((F : Rat) / (((2 ^ 1 : Nat) : Int) : Rat)).den = 1)) = true) : F.natAbs % 2 = 1 := by
  have h1 := mt int_half_den.2 (of_decide_eq_false (by simpa using h))
  omega
theorem even_of_half {F : Int} (h : (!decide (((F : Rat) / (((2 ^ 1 : Nat) : Int) : Rat)).den = 1)) = false) : F.natAbs % 2 = 0 :=
  int_half_den.1 (of_decide_eq_true (by simpa using h))
theorem half_of : Rat.divInt 1 2 = (1 / 2 : Rat) := by decide +kernel
theorem half_sign {x : Rat} : (x - Rat.divInt 1 2).num.sign = (2 * x - 1).num.sign := by
  have h : 2 * x - 1 = 2 * (x - Rat.divInt 1 2) := by
    rw [half_of]
    grind
  rw [h]
  generalize x - Rat.divInt 1 2 = y
  rcases Int.lt_trichotomy y.num 0 with h1 | h1 | h1
  · have h2 : (2 * y).num < 0 := neg_num.1 (by have := neg_num.2 h1; grind)
    rw [Int.sign_eq_neg_one_of_neg h1, Int.sign_eq_neg_one_of_neg h2]
  · have h2 : y = 0 := Rat.num_eq_zero.1 h1
    rw [h2, Rat.mul_zero]
  · have h2 : 0 < (2 * y).num := pos_num.1 (by have := pos_num.2 h1; grind)
    rw [Int.sign_eq_one_of_pos h1, Int.sign_eq_one_of_pos h2]
theorem dyR_div (r : Rat) (n : Nat) : dyR r n = ((halfEven (r * (((2 ^ n : Nat) : Int) : Rat)) : Int) : Rat) / (((2 ^ n : Nat) : Int) : Rat) := by
  unfold dyR
  rw [Rat.divInt_eq_div]
theorem IsRat.to {g : Mem} {p q : Int} {a : Option Addr} {x y : Rat} (h : IsRat g p q a x) (e : x = y) : IsRat g p q a y := e ▸ h
theorem halfEven_sz {k : Nat} {x : Rat} (h : Sz k x) : Sz (k + 1) ((halfEven x : Int) : Rat) := by
  have h1 := floor_abs x
  have h2 := h.1
  have h3 := h.pos
  have h4 : 10 ^ (k + 1) = 10 ^ k * 10 := Nat.pow_succ ..
  refine intR_sz ?_ (by omega)
  unfold halfEven
  split <;> omega
theorem dyR_fitH {k n : Nat} {r : Rat} (h : Sz k r) (hn : n ≤ 4096) (hk : k ≤ 1000 := by decide) : FitH (dyR r n) := by
  rw [dyR_div]
  exact ((halfEven_sz (h.mul (two_pow_sz n))).div (two_pow_sz n)).fitH (by omega)
end Go.Proofs.Vc
