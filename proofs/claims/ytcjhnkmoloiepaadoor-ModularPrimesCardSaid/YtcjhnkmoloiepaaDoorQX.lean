/- A helper of the claim: general lemmas and walks of functions, printed by a program of this session. Conditions: none. -/
import Derived.Test.YtcjhnkmoloiepaaDoorQ3
namespace Go.Proofs.Vc
open Go Go.Lib Go.RowKit
set_option linter.unusedVariables false
set_option linter.unusedSimpArgs false
set_option linter.unusedSectionVars false
theorem bits_val {xs : List Nat} {n t : Nat} (hw : Words xs) (hl : xs.length = n) (hn : 0 < n) (ht : xs[n - 1]? = some t) (h0 : 0 < t) : bitLen (val xs) = 64 * (n - 1) + bitLen t := by
  have e1 := val_split xs (n - 1) (by omega)
  rw [val_drop_get ht, List.drop_eq_nil_of_le (by omega)] at e1
  have hlow := val_lt (hw.take (n - 1))
  rw [List.length_take, Nat.min_eq_left (by omega)] at hlow
  simp only [val, Nat.mul_zero, Nat.add_zero] at e1
  have hb := bitLen_spec t
  have hp := bitLen_pos h0
  have hq : (18446744073709551616 : Nat) ^ (n - 1) = 2 ^ (64 * (n - 1)) := by rw [show (18446744073709551616 : Nat) = 2 ^ 64 by decide, ← Nat.pow_mul]
  rw [hq] at e1 hlow
  refine bitLen_unique ?_ ?_ (by omega)
  · rw [e1, Nat.pow_add]
    have h2 : 2 ^ (64 * (n - 1)) * (t + 1) ≤ 2 ^ (64 * (n - 1)) * 2 ^ bitLen t := Nat.mul_le_mul_left _ hb.1
    rw [Nat.mul_add, Nat.mul_one] at h2
    omega
  · rw [e1, show 64 * (n - 1) + bitLen t - 1 = 64 * (n - 1) + (bitLen t - 1) by omega, Nat.pow_add]
    exact Nat.le_trans (Nat.mul_le_mul_left _ (hb.2 (by omega))) (Nat.le_add_left ..)
def absR (r : Rat) : Rat := if r.num < 0 then -r else r
/-- is it an int64? -/
def I64 (r : Rat) : Prop := r.den = 1 ∧ -9223372036854775808 ≤ r.num ∧ r.num < 9223372036854775808
instance (r : Rat) : Decidable (I64 r) := by unfold I64; exact inferInstance
/-- the generator of the sums of multiples -/
def gcdR (r x : Rat) : Rat := mkRat ((Nat.gcd (r.num.natAbs * x.den) (x.num.natAbs * r.den) : Nat) : Int) (r.den * x.den)
/-- is it a square? -/
def SqR (r : Rat) : Prop := 0 ≤ r.num ∧ isq r.num.natAbs * isq r.num.natAbs = r.num.natAbs ∧ isq r.den * isq r.den = r.den
instance (r : Rat) : Decidable (SqR r) := by unfold SqR; exact inferInstance
def rootR (r : Rat) : Rat := if SqR r then mkRat ((isq r.num.natAbs : Nat) : Int) (isq r.den) else 0
theorem absR_sign {r : Rat} : r.num.sign < 0 ↔ r.num < 0 := by
  rcases Int.lt_trichotomy r.num 0 with h | h | h
  · rw [Int.sign_eq_neg_one_of_neg h]; omega
  · rw [h]; decide
  · rw [Int.sign_eq_one_of_pos h]; omega
theorem i64_neg {x : Nat} (h : x ≤ 9223372036854775808) : IntKind.i64.wrap (-(IntKind.i64.wrap (x : Int))) = -(x : Int) := by
  rw [IntKind.wrap_i64, IntKind.wrap_i64]
  omega
theorem Sz.nat {k : Nat} {r : Rat} (h : Sz k r) : r.num.natAbs < 18446744073709551616 ^ k ∧ r.den < 18446744073709551616 ^ k := ⟨Nat.lt_of_lt_of_le h.1 (ten_le k), Nat.lt_of_lt_of_le h.2 (ten_le k)⟩
theorem isq_half_len {N k n : Nat} (h : isq N < 18446744073709551616 ^ k) : isq N < 18446744073709551616 ^ k := h
theorem isq_le_self (N : Nat) : isq N ≤ N := by
  have := (isq_spec N).1
  rcases Nat.eq_zero_or_pos (isq N) with h | h
  · omega
  · exact Nat.le_trans (Nat.le_mul_of_pos_left _ h) this
theorem root_coprime {r : Rat} (h : SqR r) : Nat.gcd (isq r.num.natAbs) (isq r.den) = 1 := by
  obtain ⟨h0, h1, h2⟩ := h
  have hr : Nat.Coprime r.num.natAbs r.den := r.reduced
  rw [← h1, ← h2] at hr
  have := Nat.Coprime.coprime_mul_left hr
  exact Nat.Coprime.coprime_mul_left_right this
theorem root_sg {r : Rat} (h : SqR r) : mkRat (sg false (isq r.num.natAbs)) (isq r.den) = rootR r := by
  unfold rootR
  rw [if_pos h]
  rfl
theorem pow_len {g : Mem} {A : Option Addr} {n a k e N X : Nat} (h : IsNat g A n X) (hX : X = a ^ e) (ha : a < 10 ^ k) (he : e ≤ N) : n ≤ k * N + 1 :=
  h.len (by
    have h1 : a ^ e ≤ 10 ^ (k * N) := by
      refine Nat.le_trans (Nat.pow_le_pow_left (Nat.le_of_lt ha) e) ?_
      rw [← Nat.pow_mul]
      exact Nat.pow_le_pow_right (by decide) (Nat.mul_le_mul_left _ he)
    rw [hX]
    refine Nat.lt_of_le_of_lt h1 ?_
    refine Nat.lt_of_le_of_lt (ten_le _) (Nat.pow_lt_pow_right (by decide) (Nat.lt_succ_self _)))
theorem lenLe {g : Mem} {A : Option Addr} {n X Y Z k : Nat} (h : IsNat g A n Z) (hz : Z ≤ X * Y) (hX : X < 18446744073709551616 ^ k) (hY : Y < 18446744073709551616 ^ k) : n ≤ k + k := h.len (Nat.lt_of_le_of_lt hz (prodLt hX hY))
theorem rat_pow (r : Rat) (n : Nat) : mkRat (sg (decide (r.num < 0) && decide (n % 2 = 1)) (r.num.natAbs ^ n)) (r.den ^ n) = r ^ n := by
  have h1 : sg (decide (r.num < 0) && decide (n % 2 = 1)) (r.num.natAbs ^ n) = r.num ^ n := by
    rcases Int.lt_or_le r.num 0 with h | h
    · rw [decide_eq_true h, Bool.true_and]
      obtain ⟨p, hp⟩ : ∃ p : Nat, r.num = -(p : Int) := ⟨r.num.natAbs, by omega⟩
      rw [hp, Int.natAbs_neg, Int.natAbs_natCast]
      rcases Nat.mod_two_eq_zero_or_one n with h2 | h2
      · rw [decide_eq_false (by omega)]
        obtain ⟨m, rfl⟩ : ∃ m, n = 2 * m := ⟨n / 2, by omega⟩
        simp only [sg, Bool.false_eq_true, if_false]
        rw [Int.pow_mul, show (-(p : Int)) ^ 2 = (p : Int) ^ 2 by grind, ← Int.pow_mul]
        exact Int.natCast_pow _ _
      · rw [decide_eq_true h2]
        obtain ⟨m, rfl⟩ : ∃ m, n = 2 * m + 1 := ⟨n / 2, by omega⟩
        simp only [sg, if_true]
        rw [Int.pow_succ, Int.pow_mul, show (-(p : Int)) ^ 2 = (p : Int) ^ 2 by grind, ← Int.pow_mul, Nat.pow_succ, Int.natCast_mul, Int.natCast_pow]
        grind
    · rw [decide_eq_false (by omega), Bool.false_and]
      simp only [sg, Bool.false_eq_true, if_false]
      obtain ⟨p, hp⟩ : ∃ p : Nat, r.num = (p : Int) := ⟨r.num.natAbs, by omega⟩
      rw [hp, Int.natAbs_natCast]
      exact Int.natCast_pow _ _
  rw [h1, ← Rat.num_pow, ← Rat.den_pow]
  exact Rat.mkRat_self _
end Go.Proofs.Vc
namespace Go.Proofs.Vc
open Go Go.Lib Go.RowKit
theorem bits_and_i64_nat (a b : Nat) (ha : a < 9223372036854775808) (hb : b < 9223372036854775808) : bits .and .i64 (a : Int) (b : Int) = ((a &&& b : Nat) : Int) := by
  have hx : a &&& b ≤ a := Nat.and_le_left
  have h1 : (BitVec.ofInt 64 (a : Int)).toNat = a := by
    rw [BitVec.ofInt_natCast, BitVec.toNat_ofNat]; exact Nat.mod_eq_of_lt (by omega)
  have h2 : (BitVec.ofInt 64 (b : Int)).toNat = b := by
    rw [BitVec.ofInt_natCast, BitVec.toNat_ofNat]; exact Nat.mod_eq_of_lt (by omega)
  show IntKind.i64.wrap ((BitVec.ofInt 64 (a : Int) &&& BitVec.ofInt 64 (b : Int)).toNat : Int) = _
  rw [BitVec.toNat_and, h1, h2, IntKind.wrap_i64]
  omega
theorem does_odd_i64 {P : Program} {S : World → Prop} {kn : Kn} {o : Oper} {t yt : TypeId} {x y : Operand} {a : Nat} (ho : o.op = .binOp .and t x y yt) (hx : kev kn x = some (.int .i64 (a : Int))) (hy : kev kn y = some (.int .i64 1)) (ha : a < 9223372036854775808) : Does P S kn o (.int .i64 ((a % 2 : Nat) : Int)) :=
  Does.int (does_and ho hx hy) (by rw [show (1 : Int) = ((1 : Nat) : Int) from rfl, bits_and_i64_nat a 1 ha (by decide), Nat.and_one_is_mod])
theorem does_half_i64 {P : Program} {S : World → Prop} {kn : Kn} {o : Oper} {t yt : TypeId} {x y : Operand} {k' : IntKind} {a : Nat} (ho : o.op = .binOp .shr t x y yt) (hx : kev kn x = some (.int .i64 (a : Int))) (hy : kev kn y = some (.int k' 1)) : Does P S kn o (.int .i64 ((a / 2 : Nat) : Int)) :=
  Does.int (does_shr ho hx hy (by decide)) (by
    show ((a : Int).fdiv (2 ^ min 1 64)) = _
    rw [show min 1 64 = 1 by decide, Int.pow_succ, Int.pow_zero, Int.one_mul, Int.fdiv_eq_ediv_of_nonneg _ (by decide)]
    rfl)
theorem half_odd {i j f e : Nat} (h : i * j + f = e) (ho : j % 2 = 1) : i * (j / 2) + (i * (j / 2) + (f + i)) = e ∧ 0 < j := by
  have h1 : j = 2 * (j / 2) + 1 := by omega
  refine ⟨?_, by omega⟩
  rw [← h]
  generalize j / 2 = q at *
  subst h1
  grind
theorem half_even {i j f e : Nat} (h : i * j + f = e) (ho : j % 2 = 0) : i * (j / 2) + (i * (j / 2) + f) = e ∧ True := by
  have h1 : j = 2 * (j / 2) := by omega
  refine ⟨?_, trivial⟩
  rw [← h]
  generalize j / 2 = q at *
  subst h1
  grind
theorem half_le {i j f e : Nat} (h : i * j + f = e) (hj : 1 < j) : i + i ≤ e := by
  have : i * 2 ≤ i * j := Nat.mul_le_mul_left _ hj
  omega
end Go.Proofs.Vc

namespace Go.Proofs.Vc
open Go Go.Lib Go.RowKit
set_option linter.unusedVariables false
theorem absR_sz {k : Nat} {r : Rat} (h : Sz k r) : Sz k (absR r) := by
  unfold absR
  split
  · exact h.neg
  · exact h
theorem one_lt_ten {k : Nat} (h : 0 < k) : 1 < 10 ^ k := Nat.lt_of_lt_of_le (show 1 < 10 ^ 1 by decide) (Nat.pow_le_pow_right (by decide) h)
theorem Sz.pos {k : Nat} {r : Rat} (h : Sz k r) : 0 < k := by
  rcases Nat.eq_zero_or_pos k with h0 | h0
  · subst h0
    have := h.2
    have := r.den_nz
    omega
  · exact h0
theorem intR_sz {k : Nat} {z : Int} (h : z.natAbs < 10 ^ k) (h0 : 0 < k) : Sz k (z : Rat) := ⟨by rw [Rat.num_intCast]; exact h, by rw [Rat.den_intCast]; exact one_lt_ten h0⟩
theorem Sz.numI {k : Nat} {r : Rat} (h : Sz k r) : Sz k (r.num : Rat) := intR_sz h.1 h.pos
theorem Sz.denI {k : Nat} {r : Rat} (h : Sz k r) : Sz k ((r.den : Int) : Rat) := intR_sz (by rw [Int.natAbs_natCast]; exact h.2) h.pos
theorem floor_abs (r : Rat) : r.floor.natAbs ≤ r.num.natAbs := by
  rw [Rat.floor_def]
  have hd : (0 : Int) < (r.den : Int) := by have := r.den_nz; omega
  rcases Int.lt_or_le r.num 0 with h | h
  · have h1 : r.num ≤ r.num / (r.den : Int) := by
      refine (Int.le_ediv_iff_mul_le hd).2 ?_
      have : r.num * (r.den : Int) ≤ r.num * 1 := Int.mul_le_mul_of_nonpos_left (by omega) (by omega)
      omega
    have h2 : r.num / (r.den : Int) < 0 := Int.ediv_neg_of_neg_of_pos h hd
    omega
  · have h1 : r.num / (r.den : Int) ≤ r.num := Int.ediv_le_self _ h
    have h2 : 0 ≤ r.num / (r.den : Int) := Int.ediv_nonneg h (by omega)
    omega
theorem floor_sz {k : Nat} {r : Rat} (h : Sz k r) : Sz k (r.floor : Rat) := intR_sz (Nat.lt_of_le_of_lt (floor_abs r) h.1) h.pos
theorem int_sz {x : Int} (h1 : -9223372036854775808 ≤ x) (h2 : x ≤ 9223372036854775807) : Sz 20 (x : Rat) := intR_sz (by
  have : (10 : Nat) ^ 20 = 100000000000000000000 := by decide
  omega) (by decide)
theorem rootR_sz {k : Nat} {r : Rat} (h : Sz k r) : Sz k (rootR r) := by
  unfold rootR
  split
  · have h0 : isq r.den ≠ 0 := by
      have := isq_pos (Nat.pos_of_ne_zero r.den_nz)
      omega
    have h1 := mkRat_le (n := ((isq r.num.natAbs : Nat) : Int)) (d := isq r.den) h0
    rw [Int.natAbs_natCast] at h1
    exact ⟨Nat.lt_of_le_of_lt (Nat.le_trans h1.1 (isq_le_self _)) h.1, Nat.lt_of_le_of_lt (Nat.le_trans h1.2 (isq_le_self _)) h.2⟩
  · exact ⟨Nat.pow_pos (by decide), one_lt_ten h.pos⟩
theorem gcdR_sz {k m : Nat} {r x : Rat} (h : Sz k r) (hx : Sz m x) : Sz (k + m) (gcdR r x) := by
  have h0 : r.den * x.den ≠ 0 := Nat.mul_ne_zero r.den_nz x.den_nz
  have h1 := mkRat_le (n := ((Nat.gcd (r.num.natAbs * x.den) (x.num.natAbs * r.den) : Nat) : Int)) (d := r.den * x.den) h0
  rw [Int.natAbs_natCast] at h1
  have hb : r.num.natAbs * x.den < 10 ^ (k + m) := by rw [Nat.pow_add]; exact Nat.mul_lt_mul'' h.1 hx.2
  have hc : x.num.natAbs * r.den < 10 ^ (k + m) := by rw [Nat.pow_add, Nat.mul_comm]; exact Nat.mul_lt_mul'' h.2 hx.1
  have hd : r.den * x.den < 10 ^ (k + m) := by rw [Nat.pow_add]; exact Nat.mul_lt_mul'' h.2 hx.2
  refine ⟨Nat.lt_of_le_of_lt h1.1 ?_, Nat.lt_of_le_of_lt h1.2 hd⟩
  rcases Nat.eq_zero_or_pos (r.num.natAbs * x.den) with e | e
  · rw [e, Nat.gcd_zero_left]; exact hc
  · exact Nat.lt_of_le_of_lt (Nat.gcd_le_left _ e) hb
theorem bitLen_sz {x k : Nat} (h : x < 10 ^ k) : bitLen x ≤ 4 * k := bitLen_le_of (by
  rw [Nat.pow_mul]
  exact Nat.lt_of_lt_of_le h (Nat.pow_le_pow_left (by decide) k))
/-- powers; 0 to a negative power is 0 -/
def powR (r : Rat) (n : Int) : Rat := if n < 0 then r⁻¹ ^ n.natAbs else r ^ n.natAbs
theorem pow_sz {k : Nat} {r : Rat} (h : Sz k r) (n : Nat) : Sz (k * n + 1) (r ^ n) := by
  have hp : ∀ {a : Nat}, a < 10 ^ k → a ^ n < 10 ^ (k * n + 1) := by
    intro a ha
    have h1 : a ^ n ≤ 10 ^ (k * n) := by
      rw [Nat.pow_mul]
      exact Nat.pow_le_pow_left (Nat.le_of_lt ha) n
    exact Nat.lt_of_le_of_lt h1 (Nat.pow_lt_pow_right (by decide) (Nat.lt_succ_self _))
  refine ⟨?_, by rw [Rat.den_pow]; exact hp h.2⟩
  rw [Rat.num_pow, Int.natAbs_pow]
  exact hp h.1
theorem powR_sz {k : Nat} {r : Rat} (h : Sz k r) (n : Int) : Sz (k * n.natAbs + 1) (powR r n) := by
  unfold powR
  split
  · exact pow_sz h.inv _
  · exact pow_sz h _
end Go.Proofs.Vc
