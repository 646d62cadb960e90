/- A helper of the claim: general lemmas and walks of functions, printed by a program of this session. Conditions: none. -/
import Derived.Test.YtcjhnkmoloiepaaDoorQ1
import Derived.Lib.ItoaMem
import Derived.Lib.Builder
import Derived.Lib.AppendStr
import Derived.Lib.UnsafeStr
import Derived.Laws.BytesArg
import Derived.Lib.LaidTab
import Derived.Sort.Grow
import Derived.Deep.Draws
import Derived.Shelf.Strconv.Itoa3
namespace Go.Proofs.Vc
open Go
set_option linter.unusedVariables false
theorem cmpN_neg {a b : Nat} : cmpN a b < 0 ↔ a < b := by
  unfold cmpN
  split
  · simp_all
  · split <;> simp_all
theorem cmpN_zero {a b : Nat} : cmpN a b = 0 ↔ a = b := by
  unfold cmpN
  split
  · constructor
    · intro h; simp at h
    · intro h; omega
  · split <;> simp_all
theorem cmpN_nonneg {a b : Nat} : 0 ≤ cmpN a b ↔ b ≤ a := by
  have := @cmpN_neg a b
  omega
theorem splice_uN_list (k : IntKind) (us ws : List Nat) : splice (uN k us).toArray 0 (uN k ws) = (uN k (ws ++ us.drop ws.length)).toArray := by
  simp [splice, uN, List.map_drop]
/-- shifted so far that the top word's top bit is set, a number keeps its length -/
theorem norm_len {xs : List Nat} {n x s : Nat} (hw : Words xs) (hl : xs.length = n) (hn : 0 < n) (hx : xs[n - 1]? = some x) (hs : s = 64 - bitLen x) : val xs * 2 ^ s < 18446744073709551616 ^ n := by
  have h1 := val_take_succ hx
  rw [show n - 1 + 1 = n by omega, val_all (by omega)] at h1
  have h2 := val_lt (hw.take (n - 1))
  rw [List.length_take, Nat.min_eq_left (by omega)] at h2
  have h3 := (bitLen_spec x).1
  have h4 := bitLen_le64 (hw.get hx)
  have h5 : (x + 1) * 2 ^ s ≤ 18446744073709551616 := by
    refine Nat.le_trans (Nat.mul_le_mul_right _ (show x + 1 ≤ 2 ^ bitLen x from h3)) ?_
    rw [← Nat.pow_add, hs, show bitLen x + (64 - bitLen x) = 64 by omega]
    decide
  have h6 : val xs < 18446744073709551616 ^ (n - 1) * (x + 1) := by
    rw [h1, Nat.mul_add, Nat.mul_one]
    omega
  have h7 : 18446744073709551616 ^ n = 18446744073709551616 ^ (n - 1) * 18446744073709551616 := by
    rw [← Nat.pow_succ, Nat.succ_eq_add_one, show n - 1 + 1 = n by omega]
  rw [h7]
  refine Nat.lt_of_lt_of_le ((Nat.mul_lt_mul_right (Nat.pow_pos (by decide))).2 h6) ?_
  rw [Nat.mul_assoc]
  exact Nat.mul_le_mul_left _ h5
theorem rest_zero {us : List Nat} {j m : Nat} (hw : Words us) (h : val (us.drop j) < 18446744073709551616 ^ m) (hl : j + m ≤ us.length) : val (us.drop (j + m)) = 0 ∧ val ((us.drop j).take m) = val (us.drop j) := by
  have h1 := val_split (us.drop j) m (by rw [List.length_drop]; omega)
  rw [List.drop_drop] at h1
  have h2 : val (us.drop (j + m)) = 0 := by
    rcases Nat.eq_zero_or_pos (val (us.drop (j + m))) with h0 | h0
    · exact h0
    · have := Nat.mul_le_mul_left (18446744073709551616 ^ m) h0
      omega
  rw [h2] at h1
  exact ⟨h2, by omega⟩
/-- what the guess of a digit may rely on -/
theorem digit_top {us vs : List Nat} {j n u2 u1 u0 v1 v0 q : Nat} (hw : Words us) (hv : Words vs) (hn : 2 ≤ n) (hl : j + n + 1 ≤ us.length) (hvl : vs.length = n) (hu2 : us[j + n]? = some u2) (hu1 : us[j + n - 1]? = some u1) (hu0 : us[j + n - 2]? = some u0)
    (hv1 : vs[n - 1]? = some v1) (hv0 : vs[n - 2]? = some v0) (hU : val (us.drop j) < 18446744073709551616 ^ (n + 1)) (hq : q * val vs ≤ val (us.drop j)) : q * (v1 * 18446744073709551616 + v0) ≤ (u2 * 18446744073709551616 + u1) * 18446744073709551616 + u0 := by
  obtain ⟨hr, _⟩ := rest_zero hw hU (by omega)
  have e1 := val_split (us.drop j) (n - 2) (by rw [List.length_drop]; omega)
  rw [List.drop_drop] at e1
  have a0 := val_drop_get (xs := us) (i := j + (n - 2)) (x := u0) (by rw [show j + (n - 2) = j + n - 2 by omega]; exact hu0)
  have a1 := val_drop_get (xs := us) (i := j + (n - 2) + 1) (x := u1) (by rw [show j + (n - 2) + 1 = j + n - 1 by omega]; exact hu1)
  have a2 := val_drop_get (xs := us) (i := j + (n - 2) + 1 + 1) (x := u2) (by rw [show j + (n - 2) + 1 + 1 = j + n by omega]; exact hu2)
  rw [show j + (n - 2) + 1 + 1 + 1 = j + (n + 1) by omega, hr] at a2
  have e2 := val_split vs (n - 2) (by omega)
  have b0 := val_drop_get (xs := vs) (i := n - 2) hv0
  have b1 := val_drop_get (xs := vs) (i := n - 2 + 1) (x := v1) (by rw [show n - 2 + 1 = n - 1 by omega]; exact hv1)
  rw [List.drop_eq_nil_of_le (show vs.length ≤ n - 2 + 1 + 1 by omega)] at b1
  have hlow : val ((us.drop j).take (n - 2)) < 18446744073709551616 ^ (n - 2) := by
    have := val_lt ((hw.drop j).take (n - 2))
    rw [List.length_take, List.length_drop, Nat.min_eq_left (by omega)] at this
    exact this
  simp only [val, Nat.mul_zero, Nat.add_zero] at b1 a2
  rw [a1, a2] at a0
  rw [b1] at b0
  rw [a0] at e1
  rw [b0] at e2
  have e3 : u0 + 18446744073709551616 * (u1 + 18446744073709551616 * u2) = (u2 * 18446744073709551616 + u1) * 18446744073709551616 + u0 := by omega
  have e4 : v0 + 18446744073709551616 * v1 = v1 * 18446744073709551616 + v0 := by omega
  rw [e3] at e1
  rw [e4] at e2
  obtain ⟨T, hT⟩ : ∃ T, T = (u2 * 18446744073709551616 + u1) * 18446744073709551616 + u0 := ⟨_, rfl⟩
  obtain ⟨W, hW⟩ : ∃ W, W = v1 * 18446744073709551616 + v0 := ⟨_, rfl⟩
  obtain ⟨p, hp⟩ : ∃ p, p = 18446744073709551616 ^ (n - 2) := ⟨_, rfl⟩
  rw [← hT, ← hp] at e1
  rw [← hW, ← hp] at e2
  rw [← hp] at hlow
  rw [← hT, ← hW]
  clear hT hW hp e3 e4
  have h1 : q * W * p < (T + 1) * p := by
    have h2 : q * W * p ≤ q * val vs := by
      rw [e2, Nat.mul_add, Nat.mul_comm p W, ← Nat.mul_assoc]
      omega
    have h3 : (T + 1) * p = p * T + p := by rw [Nat.add_mul, Nat.one_mul, Nat.mul_comm]
    omega
  have h4 := Nat.lt_of_mul_lt_mul_right h1
  omega
/-- a digit is right at once -/
theorem digit_now {r d V U q p : Nat} (hV : 0 < V) (h : r + d * V = U + 0 * p) (hge : U / V ≤ d) : r + d * V = U ∧ r < V := by
  rw [Nat.zero_mul, Nat.add_zero] at h
  refine ⟨h, ?_⟩
  have h1 : d ≤ U / V := (Nat.le_div_iff_mul_le hV).2 (by omega)
  have h2 := Nat.lt_div_mul_add hV (a := U)
  have h3 : d = U / V := Nat.le_antisymm h1 hge
  rw [← h3] at h2
  omega
/-- a digit is too great -/
theorem digit_down {r d V U p : Nat} (hV : 0 < V) (h : r + d * V = U + p) (hr : r < p) (hU : U / V ≤ d) : U / V ≤ d - 1 ∧ 0 < d := by
  have h1 : U < d * V := by omega
  have h2 : U / V < d := (Nat.div_lt_iff_lt_mul hV).2 h1
  generalize U / V = f at *
  omega
theorem digit_add {r r2 d V U p : Nat} (h : r + d * V = U + p) (hd : 0 < d) (h2 : r2 + 1 * p = r + V) : r2 + (d - 1) * V = U := by
  obtain ⟨e, rfl⟩ : ∃ e, d = e + 1 := ⟨d - 1, by omega⟩
  rw [Nat.add_mul] at h
  rw [Nat.add_sub_cancel]
  generalize e * V = x at *
  omega
theorem digit_more {r r2 d V U p : Nat} (h : r + d * V = U + p) (hd : 0 < d) (h2 : r2 + 0 * p = r + V) : r2 + (d - 1) * V = U + p := by
  obtain ⟨e, rfl⟩ : ∃ e, d = e + 1 := ⟨d - 1, by omega⟩
  rw [Nat.add_mul] at h
  rw [Nat.add_sub_cancel]
  generalize e * V = x at *
  omega
/-- a round of the division -/
theorem divide_step {X Q V A U r q p u : Nat} (hA : X + p * 18446744073709551616 * (Q * V) = A) (hX : X = u + p * U) (hr : r + q * V = U) : (u + p * r) + p * ((q + 18446744073709551616 * Q) * V) = A := by
  subst hX hr
  rw [← hA]
  grind
theorem divide_end {R Q V A S : Nat} (hS : 0 < S) (hV : 0 < V) (h : R + Q * (V * S) = A * S) (hR : R < V * S) : Q = A / V ∧ R / S = A % V := by
  have hp : 0 < V * S := Nat.mul_pos hV hS
  have h1 : A * S / (V * S) = Q := by rw [← h, Nat.add_mul_div_right _ _ hp, Nat.div_eq_of_lt hR, Nat.zero_add]
  have h2 : A * S % (V * S) = R := by rw [← h, Nat.add_mul_mod_self_right, Nat.mod_eq_of_lt hR]
  refine ⟨?_, ?_⟩
  · rw [← h1, Nat.mul_div_mul_right _ _ hS]
  · rw [← h2, Nat.mul_mod_mul_right, Nat.mul_div_cancel _ hS]
/-- the middle of a row -/
theorem does_slice_mid {P : Program} {S : World → Prop} {kn : Kn} {o : Oper} {t e : TypeId} {x y z : Operand} {b off n c l m r : Nat} {k1 k2 : IntKind} {i1 i2 : Int} (ho : o.op = .slice t x (some y) (some z) none) (hu : P.underlying t = some (.slice e)) (hs : sizeB P e = some 1) (hx : kev kn x = some (.slice (some ⟨b, off, none⟩) n c))
    (hy : kev kn y = some (.int k1 i1)) (hl : i1 = (l : Int)) (hz : kev kn z = some (.int k2 i2)) (hh : i2 = ((l + m : Nat) : Int)) (hr : off + l = r) (h1 : l < c) (h2 : l + m ≤ c) : Does P S kn o (.slice (some ⟨b, r, none⟩) m (c - l)) := by
  have := does_slice (S := S) (l := l) (h := l + m) ho hu hs hx ⟨k1, i1, hy, hl⟩ ⟨k2, i2, hz, hh⟩ (by omega) h2
  rw [if_neg (by omega), Nat.mul_one, Nat.add_sub_cancel_left] at this
  rw [← hr]
  simp only [Option.map, addr_add] at this
  exact this
theorem stepK_copyN {P : Program} {ops : Array Oper} {Q : Exit → Act → World → Prop} {nn : Nat} {kn : Kn} {o : Oper} {rest : List Oper} {w0 w : World} {M : List Nat} {g0 g : Mem} {own : List (Nat × Obj)} {d : Nat} {x y : Operand} {dT sT e t : TypeId} {b L c1 m c2 : Nat} {A : Option Addr} {kd : IntKind} {us ws : List Nat} (k : Nat) (hdst : o.dst = some d) (hg : o.guard = none) (hd : Nat.ble (d + 1) nn = true)
    (ho : o.op = .call { callee := .builtin .copy, args := #[x, y], argTypes := #[dT, sT] }) (hu : P.underlying dT = some (.slice e)) (hsz : (P.info? e).map (·.size) = some 1)
    (hx : kev kn x = some (.slice (some ⟨b, 0, none⟩) L c1)) (hy : kev kn y = some (.slice A m c2)) (hst : St w0 M g0 g own w) (hk : own[k]? = some (b, .cells (uN kd us).toArray t (0, 0)))
    (hs : SlN g kd A m ws) (hm0 : 0 < m) (hL : us.length = L) (hmL : m ≤ L)
    (h : ∀ w', St w0 M g0 g (own.set k (b, .cells (uN kd (ws ++ us.drop ws.length)).toArray t (0, 0))) w' → wpK P ops Q nn rest ((d, .int .i64 (m : Int)) :: kn) w') : wpK P ops Q nn (o :: rest) kn w := by
  obtain ⟨b3, o3, rfl, hb3⟩ := hs.some_ hm0
  have hl := hs.1
  refine stepK_copy k hdst hg hd ho hu hsz hx hy hst hk (cs := uN kd ws) ?_ ?_ ?_ ?_ ?_
  · rw [uN_length, hl]
    exact (Nat.min_eq_left hmL).symm
  · intro j v hj
    rw [uN_get] at hj
    cases hw : ws[j]? with
    | none => rw [hw] at hj; cases hj
    | some z =>
      rw [hw] at hj
      cases hj
      rw [addr_add]
      exact hst.agree.cell (hb3.at_ j z hw)
  · rw [uN_length]
    simp [uN_length]
    omega
  · intro v hv
    obtain ⟨z, _, rfl⟩ := List.mem_map.1 hv
    rfl
  · intro w' hst'
    rw [splice_uN_list] at hst'
    rw [uN_length, hl]
    exact h w' hst'
theorem trimmed_last {ws : List Nat} {n x : Nat} (h : Trimmed ws) (hl : ws.length = n) (hx : ws[n - 1]? = some x) : 0 < x := by
  rcases Nat.eq_zero_or_pos x with h0 | h0
  · subst h0
    exact absurd (by rw [List.getLast?_eq_getElem?, hl]; exact hx) h
  · exact h0
theorem val_one {ws : List Nat} {x : Nat} (hl : ws.length = 1) (hx : ws[0]? = some x) : val ws = x := by
  match ws, hl with
  | [y], _ =>
    simp at hx
    subst hx
    simp [val]
theorem val_zeros {ws : List Nat} (m : Nat) : val (ws ++ (List.replicate m 0).drop ws.length) = val ws := by
  rw [val_append, List.drop_replicate, val_rep, Nat.mul_zero, Nat.add_zero]
theorem words_zeros {ws : List Nat} (h : Words ws) (m : Nat) : Words (ws ++ (List.replicate m 0).drop ws.length) := by
  refine h.append ?_
  rw [List.drop_replicate]
  exact Words.rep _
theorem len_zeros {ws : List Nat} {m : Nat} (h : ws.length ≤ m) : (ws ++ (List.replicate m 0).drop ws.length).length = m := by
  rw [List.length_append, List.drop_replicate, List.length_replicate]
  omega
theorem next_lt {us : List Nat} {j x V : Nat} (hx : us[j]? = some x) (hlt : x < 18446744073709551616) (h : val (us.drop (j + 1)) < V) : val (us.drop j) < 18446744073709551616 * V := by
  rw [val_drop_get hx]
  have := Nat.mul_le_mul_left 18446744073709551616 (show val (us.drop (j + 1)) + 1 ≤ V from h)
  omega
theorem divide_round {us us3 qs : List Nat} {j m d V A : Nat} (hjl : j + m + 1 ≤ us.length) (hl3 : us3.length = us.length) (ht : us3.take j = us.take j) (hd : us3.drop (j + m + 1) = us.drop (j + m + 1)) (hz : val (us.drop (j + m + 1)) = 0) (hq : j < qs.length)
    (hs : val ((us3.drop j).take (m + 1)) + d * V = val (us.drop j)) (hlt : val ((us3.drop j).take (m + 1)) < V) (hA : val us + 18446744073709551616 ^ (j + 1) * (val (qs.drop (j + 1)) * V) = A) :
    val (us3.drop j) < V ∧ val us3 + 18446744073709551616 ^ j * (val ((qs.set j d).drop j) * V) = A := by
  have h1 := val_split (us3.drop j) (m + 1) (by rw [List.length_drop]; omega)
  rw [List.drop_drop, show j + (m + 1) = j + m + 1 by omega, hd, hz, Nat.mul_zero, Nat.add_zero] at h1
  refine ⟨by rw [h1]; exact hlt, ?_⟩
  rw [← h1] at hs
  rw [val_split us3 j (by omega), ht, drop_set_ge hq]
  rw [pow_succ64] at hA
  exact divide_step hA (val_split us j (by omega)) hs
theorem divide_first {N M n m s k : Nat} (hN : N < 18446744073709551616 ^ n) (hM : 18446744073709551616 ^ (m - 1) ≤ M) (hm : 0 < m) (hmn : m ≤ n) (hk : k = n - m + 1) : N * 2 ^ s < 18446744073709551616 ^ k * (M * 2 ^ s) := by
  have h1 : N < 18446744073709551616 ^ k * M := by
    refine Nat.lt_of_lt_of_le hN (Nat.le_trans ?_ (Nat.mul_le_mul_left _ hM))
    rw [← Nat.pow_add]
    exact Nat.pow_le_pow_right (by decide) (by omega)
  rw [← Nat.mul_assoc]
  exact (Nat.mul_lt_mul_right (Nat.pow_pos (by decide))).2 h1
theorem shift_len {N n s : Nat} (hN : N < 18446744073709551616 ^ n) (hs : s ≤ 64) : N * 2 ^ s < 18446744073709551616 ^ (n + 1) := by
  have h1 : (2 : Nat) ^ s ≤ 2 ^ 64 := Nat.pow_le_pow_right (by decide) hs
  rw [Nat.pow_succ]
  exact Nat.lt_of_lt_of_le ((Nat.mul_lt_mul_right (Nat.pow_pos (show 0 < 2 by decide))).2 hN) (Nat.mul_le_mul_left _ h1)
theorem seg_lt {us : List Nat} {j m : Nat} (h : Words us) : val ((us.drop j).take m) < 18446744073709551616 ^ m := by
  have h1 := val_lt ((h.drop j).take m)
  refine Nat.lt_of_lt_of_le h1 (Nat.pow_le_pow_right (by decide) ?_)
  rw [List.length_take]
  exact Nat.min_le_left _ _
end Go.Proofs.Vc

namespace Go.Proofs.Vc
open Go
set_option linter.unusedVariables false
theorem gcd_step {x y : Nat} : Nat.gcd y (x % y) = Nat.gcd x y := by rw [Nat.gcd_comm y, ← Nat.gcd_rec, Nat.gcd_comm]
theorem IsNat.word {g : Mem} {A : Option Addr} {N : Nat} (h : IsNat g A 1 N) : ∃ b o, A = some ⟨b, o, none⟩ ∧ N < 18446744073709551616 ∧ gcell g b (o + 0) = some (.int .u64 (N : Int)) := by
  obtain ⟨ws, hs, hw, ht, rfl⟩ := h
  obtain ⟨b, o, rfl, hc⟩ := hs.some_ (by decide)
  obtain ⟨x, hx⟩ := get_of_lt (ws := ws) (j := 0) (by have := hs.1; omega)
  rw [val_one hs.1 hx]
  exact ⟨b, o, rfl, hw.get hx, hc.at_ 0 x hx⟩
end Go.Proofs.Vc

namespace Go.Proofs.Vc
open Go Go.RowKit
set_option linter.unusedVariables false
/-- byte i of a string -/
def bt (s : ByteArray) (i : Nat) : Nat := if h : i < s.size then (s[i]'h).toNat else 0
theorem bt_eq {s : ByteArray} {i : Nat} (h : i < s.size) : (s[i]'h).toNat = bt s i := by simp [bt, h]
theorem bt_lt (s : ByteArray) (i : Nat) : bt s i < 256 := by
  unfold bt
  split
  · exact (s[i]).toNat_lt
  · decide
theorem bt_extract {s : ByteArray} {p q i : Nat} (hq : q ≤ s.size) (hi : p + i < q) : bt (s.extract p q) i = bt s (p + i) := by
  have h1 : i < (s.extract p q).size := by rw [ByteArray.size_extract]; omega
  rw [← bt_eq h1, ByteArray.getElem_extract, bt_eq (by omega)]
theorem size_tail {s : ByteArray} {p : Nat} : (s.extract p s.size).size = s.size - p := by rw [ByteArray.size_extract, Nat.min_self]
theorem extract_tail {s : ByteArray} {p k : Nat} : (s.extract p s.size).extract k (s.extract p s.size).size = s.extract (p + k) s.size := by
  rw [ByteArray.extract_extract, size_tail]
  rcases Nat.le_total p s.size with h | h
  · congr 1
    omega
  · apply ByteArray.ext_getElem
    · rw [ByteArray.size_extract, ByteArray.size_extract]; omega
    · intro i hi
      rw [ByteArray.size_extract] at hi
      omega
theorem bytes_ext {a b : ByteArray} (hs : a.size = b.size) (h : ∀ i, i < a.size → bt a i = bt b i) : a = b := by
  refine ByteArray.ext_getElem hs fun i hi hi' => ?_
  have h1 := h i hi
  rw [← bt_eq hi, ← bt_eq hi'] at h1
  exact UInt8.toNat_inj.1 h1
/-- all bytes are decimal digits -/
def AllDig (s : ByteArray) : Prop := ∀ i, i < s.size → 48 ≤ bt s i ∧ bt s i ≤ 57
/-- the number that the first n digits stand for -/
def dval (s : ByteArray) : Nat → Nat
  | 0 => 0
  | n + 1 => 10 * dval s n + (bt s n - 48)
theorem dval_lt {s : ByteArray} (h : AllDig s) : ∀ n, n ≤ s.size → dval s n < 10 ^ n
  | 0, _ => by simp [dval]
  | n + 1, hn => by
    have h1 := dval_lt h n (by omega)
    have h2 := h n (by omega)
    simp only [dval, Nat.pow_succ]
    omega
theorem ten_le (n : Nat) : 10 ^ n ≤ 18446744073709551616 ^ n := Nat.pow_le_pow_left (by decide) n
theorem IsNat.lit {g : Mem} {b : Nat} {t : TypeId} {f : Nat × Nat} {x : Nat} (h0 : x ≠ 0) (hx : x < 18446744073709551616) : IsNat (gput g b (.cells [Value.int .u64 (x : Int)].toArray t f)) (some ⟨b, 0, none⟩) 1 x :=
  ⟨[x], SlN.put_uN (ws := [x]), Words.cons hx Words.nil, by simp [Trimmed]; omega, by simp [val]⟩
theorem St.lit {w0 w : World} {g0 g : Mem} {own : List (Nat × Obj)} {b : Nat} {t : TypeId} {x : Nat} (h : St w0 [] g0 g (own ++ [(b, .cells [Value.int .u64 (x : Int)].toArray t (0, 0))]) w) (h0 : x ≠ 0) (hx : x < 18446744073709551616) :
    ∃ g', St w0 [] g0 g' own w ∧ g.le g' ∧ IsNat g' (some ⟨b, 0, none⟩) 1 x := by
  have hk : (own ++ [(b, Obj.cells [Value.int .u64 (x : Int)].toArray t (0, 0))])[own.length]? = some (b, .cells [Value.int .u64 (x : Int)].toArray t (0, 0)) := by simp
  obtain ⟨h8, h9⟩ := h.publish own.length hk
  have he : (own ++ [(b, Obj.cells [Value.int .u64 (x : Int)].toArray t (0, 0))]).eraseIdx own.length = own := by
    rw [List.eraseIdx_append_of_length_le (Nat.le_refl _)]
    simp
  rw [he] at h8
  exact ⟨_, h8, h9, IsNat.lit h0 hx⟩
/-- a chunk of k digits behind p digits -/
theorem chunk_step {s : ByteArray} {p i wv : Nat} (h : dval s p * 10 ^ i + wv = dval s (p + i)) : dval s p * 10 ^ (i + 1) + (10 * wv + (bt s (p + i) - 48)) = dval s (p + (i + 1)) := by
  show _ = 10 * dval s (p + i) + (bt s (p + i) - 48)
  rw [← h, Nat.pow_succ, ← Nat.mul_assoc]
  omega
theorem chunk_lt {i k wv d : Nat} (hi : i < k) (hk : k ≤ 19) (hw : wv < 10 ^ i) (hd : d ≤ 9) : 10 * wv + d < 10 ^ (i + 1) ∧ 10 * wv + d < 18446744073709551616 := by
  have h1 : 10 ^ (i + 1) = 10 ^ i * 10 := Nat.pow_succ ..
  have h2 : 10 ^ (i + 1) ≤ 10 ^ 19 := Nat.pow_le_pow_right (by decide) (by omega)
  have h3 : (10 : Nat) ^ 19 = 10000000000000000000 := by decide
  omega
theorem does_index_bt {P : Program} {S : World → Prop} {kn : Kn} {o : Oper} {t : TypeId} {x y : Operand} {s : ByteArray} {k : IntKind} {i : Int} {j : Nat} (ho : o.op = .index t x y) (hu : P.underlying t = some .string) (hx : kev kn x = some (.string s)) (hy : kev kn y = some (.int k i)) (hj : i = (j : Int)) (hlt : j < s.size) :
    Does P S kn o (.int .u8 ((bt s j : Nat) : Int)) := (does_index_string ho hu hx hy hj hlt).cast (by rw [bt_eq hlt])
theorem size_pos_of_ne {s : ByteArray} (h : s ≠ ⟨#[]⟩) : 0 < s.size := Nat.pos_of_ne_zero fun e => h (bytes_ext e fun i hi => by omega)
end Go.Proofs.Vc

namespace Go.Proofs.Vc
open Go Go.RowKit
set_option linter.unusedVariables false
def smallR (r : Rat) : Prop := r.num.natAbs < 2147483648 ∧ r.den < 2147483648
/-- p / q, or 0 / 0 for 0 -/
def LowR (p q : Int) (r : Rat) : Prop := smallR r ∧ p = r.num ∧ (q = (r.den : Int) ∨ (q = 0 ∧ r = 0))
def BigR (g : Mem) (b : Nat) (r : Rat) : Prop := ¬ smallR r ∧ ∃ A n c B m d, gcell g b 0 = some (.bool (decide (r.num < 0))) ∧ gcell g b 1 = some (.slice A n c) ∧ gcell g b 2 = some (.slice B m d) ∧ IsNat g A n r.num.natAbs ∧ IsNat g B m r.den
def IsRat (g : Mem) (p q : Int) (a : Option Addr) (r : Rat) : Prop := (a = none ∧ LowR p q r) ∨ (p = 0 ∧ q = 0 ∧ ∃ b, a = some ⟨b, 0, none⟩ ∧ BigR g b r)
theorem BigR.mono {g g' : Mem} {b : Nat} {r : Rat} (h : BigR g b r) (hle : g.le g') : BigR g' b r := by
  obtain ⟨hs, A, n, c, B, m, d, h1, h2, h3, h4, h5⟩ := h
  exact ⟨hs, A, n, c, B, m, d, gcell_le hle h1, gcell_le hle h2, gcell_le hle h3, h4.mono hle, h5.mono hle⟩
theorem IsRat.mono {g g' : Mem} {p q : Int} {a : Option Addr} {r : Rat} (h : IsRat g p q a r) (hle : g.le g') : IsRat g' p q a r :=
  h.imp id fun ⟨h1, h2, b, h3, h4⟩ => ⟨h1, h2, b, h3, h4.mono hle⟩
theorem IsRat.low {g : Mem} {p q : Int} {r : Rat} (h : IsRat g p q none r) : LowR p q r := by
  rcases h with ⟨_, h⟩ | ⟨_, _, b, h, _⟩
  · exact h
  · cases h
theorem IsRat.big {g : Mem} {p q : Int} {a : Option Addr} {r : Rat} (h : IsRat g p q a r) (ha : a ≠ none) : p = 0 ∧ q = 0 ∧ ∃ b, a = some ⟨b, 0, none⟩ ∧ BigR g b r := by
  rcases h with ⟨h, _⟩ | h
  · exact absurd h ha
  · exact h
theorem IsRat.of_low {g : Mem} {p q : Int} {r : Rat} (h : LowR p q r) : IsRat g p q none r := .inl ⟨rfl, h⟩
theorem LowR.zero : LowR 0 0 0 := ⟨⟨by decide, by decide⟩, rfl, .inr ⟨rfl, rfl⟩⟩
theorem IsRat.zero (g : Mem) : IsRat g 0 0 none 0 := .of_low .zero
theorem LowR.bound {p q : Int} {r : Rat} (h : LowR p q r) : -2147483648 < p ∧ p < 2147483648 ∧ 0 ≤ q ∧ q < 2147483648 := by
  obtain ⟨h1, h2, h3⟩ := h
  have := h1.1
  have := h1.2
  rcases h3 with h3 | ⟨h3, _⟩ <;> omega
theorem LowR.q0 {p q : Int} {r : Rat} (h : LowR p q r) (hq : q = 0) : r = 0 ∧ p = 0 := by
  obtain ⟨h1, h2, h3⟩ := h
  rcases h3 with h3 | ⟨_, h3⟩
  · have := r.den_nz
    omega
  · subst h3
    exact ⟨rfl, h2⟩
theorem LowR.q1 {p q : Int} {r : Rat} (h : LowR p q r) (hq : q ≠ 0) : p = r.num ∧ q = (r.den : Int) := by
  obtain ⟨h1, h2, h3⟩ := h
  rcases h3 with h3 | ⟨h3, _⟩
  · exact ⟨h2, h3⟩
  · exact absurd h3 hq
/-- what 'low' gives -/
theorem LowR.norm {p q : Int} {r : Rat} (h : LowR p q r) : (if q = 0 then (p, (1 : Int)) else (p, q)) = (r.num, (r.den : Int)) := by
  by_cases hq : q = 0
  · obtain ⟨h1, h2⟩ := h.q0 hq
    subst h1 h2
    rw [if_pos hq]
    rfl
  · obtain ⟨h1, h2⟩ := h.q1 hq
    rw [if_neg hq, h1, h2]
/-- a signed number -/
def sg (b : Bool) (N : Nat) : Int := if b then -(N : Int) else (N : Int)
theorem sg_natAbs (b : Bool) (N : Nat) : (sg b N).natAbs = N := by cases b <;> simp [sg]
theorem sg_neg {b : Bool} {N : Nat} (h : 0 < N) : decide (sg b N < 0) = b := by cases b <;> simp [sg] <;> omega
theorem sg_zero (b : Bool) : sg b 0 = 0 := by cases b <;> rfl
theorem sg_num (r : Rat) : sg (decide (r.num < 0)) r.num.natAbs = r.num := by
  unfold sg
  by_cases h : r.num < 0
  · rw [if_pos (by simpa using h)]; omega
  · rw [if_neg (by simpa using h)]; omega
theorem mkRat_num {b : Bool} {N M : Nat} (hM : 0 < M) (hc : Nat.gcd N M = 1) : (mkRat (sg b N) M).num = sg b N ∧ (mkRat (sg b N) M).den = M := by
  have := Rat.mk_eq_mkRat (sg b N) M (by omega) (by rw [sg_natAbs]; exact hc)
  rw [← this]
  exact ⟨rfl, rfl⟩
theorem IsRat.mk_zero (g : Mem) (b : Bool) (M : Nat) : IsRat g 0 0 none (mkRat (sg b 0) M) := by
  rw [sg_zero, Rat.zero_mkRat]
  exact IsRat.zero g
theorem IsRat.mk_small {g : Mem} {b : Bool} {N M : Nat} (hM : 0 < M) (hc : Nat.gcd N M = 1) (hN : N < 2147483648) (hM2 : M < 2147483648) : IsRat g (sg b N) (M : Int) none (mkRat (sg b N) M) := by
  obtain ⟨h1, h2⟩ := mkRat_num (b := b) hM hc
  exact .of_low ⟨⟨by rw [h1, sg_natAbs]; exact hN, by rw [h2]; exact hM2⟩, h1.symm, .inl (by rw [h2])⟩
theorem IsRat.mk_big {g : Mem} {bl : Nat} {b : Bool} {N M : Nat} {A B : Option Addr} {n c m d : Nat} {t : TypeId} {f : Nat × Nat} (hgn : g bl = none) (hN : IsNat g A n N) (hMn : IsNat g B m M) (hN0 : 0 < N) (hM : 0 < M) (hc : Nat.gcd N M = 1) (hbig : ¬ (N < 2147483648 ∧ M < 2147483648)) :
    IsRat (gput g bl (.cells [Value.bool b, .slice A n c, .slice B m d].toArray t f)) 0 0 (some ⟨bl, 0, none⟩) (mkRat (sg b N) M) := by
  obtain ⟨h1, h2⟩ := mkRat_num (b := b) hM hc
  refine .inr ⟨rfl, rfl, bl, rfl, ?_, A, n, c, B, m, d, ?_, ?_, ?_, ?_, ?_⟩
  · unfold smallR
    rw [h1, h2, sg_natAbs]
    exact hbig
  · rw [gcell_put, h1, sg_neg hN0]; rfl
  · rw [gcell_put]; rfl
  · rw [gcell_put]; rfl
  · rw [h1, sg_natAbs]; exact hN.mono (gput_le hgn)
  · rw [h2]; exact hMn.mono (gput_le hgn)
theorem mkRat_gcd {b : Bool} {N M : Nat} (hM : 0 < M) : mkRat (sg b (N / Nat.gcd N M)) (M / Nat.gcd N M) = mkRat (sg b N) M := by
  have hg : 0 < Nat.gcd N M := Nat.gcd_pos_of_pos_right _ hM
  have h1 : M / Nat.gcd N M * Nat.gcd N M = M := Nat.div_mul_cancel (Nat.gcd_dvd_right ..)
  have h2 : N / Nat.gcd N M * Nat.gcd N M = N := Nat.div_mul_cancel (Nat.gcd_dvd_left ..)
  have h3 : M / Nat.gcd N M ≠ 0 := fun e => by rw [e, Nat.zero_mul] at h1; omega
  rw [Rat.mkRat_eq_iff h3 (by omega)]
  generalize Nat.gcd N M = g at *
  generalize N / g = x at *
  generalize M / g = y at *
  subst h1 h2
  cases b <;> simp [sg] <;> grind
theorem gcd_coprime {N M : Nat} (hM : 0 < M) : Nat.gcd (N / Nat.gcd N M) (M / Nat.gcd N M) = 1 := Nat.coprime_div_gcd_div_gcd (Nat.gcd_pos_of_pos_right _ hM)
theorem divInt_sg {n d : Int} (hd : d ≠ 0) : Rat.divInt n d = mkRat (sg (decide (n < 0) != decide (d < 0)) n.natAbs) d.natAbs := by
  rcases Int.lt_or_gt_of_ne hd with h | h
  · have e1 : Rat.divInt n d = Rat.divInt (-n) (-d) := (Rat.neg_divInt_neg ..).symm
    rw [e1, show -d = (d.natAbs : Int) by omega, Rat.divInt_ofNat]
    congr 1
    by_cases hn : n < 0
    · simp [sg, hn, h]; omega
    · simp [sg, hn, h]; omega
  · have e1 : d = (d.natAbs : Int) := by omega
    rw [e1, Rat.divInt_ofNat, ← e1]
    congr 1
    have hd0 : ¬ d < 0 := by omega
    by_cases hn : n < 0
    · simp [sg, hn, hd0]; omega
    · simp [sg, hn, hd0]; omega
theorem u64_magnitude {n : Int} (h1 : -9223372036854775808 ≤ n) (h2 : n < 0) : IntKind.u64.wrap (IntKind.i64.wrap (-n)) = ((n.natAbs : Nat) : Int) := by
  rcases Int.lt_or_eq_of_le h1 with h | h
  · rw [wrap_i64 (by omega) (by omega), IntKind.wrap_u64]; omega
  · subst h; decide
section
variable {P : Program} {fn : Func} {n : Nat} {kn : Kn} {w0 w : World} {g0 g : Mem} {own : List (Nat × Obj)} {Post : Value → Mem → Prop}
/-- a variable in memory, and a value -/
theorem ret2c {t u : Tmp} {ty : TypeId} {b k m : Nat} {l : List Value} {e : TypeId} {f : Nat × Nat} {v2 : Value} (hr : fn.results = #[.cell t ty, .tmp u]) (hv : kget kn t = some (.pointer (some ⟨b, 0, none⟩))) (ha : aggOf P ty = some true) (hs : sizeB P ty = some m) (hl : l.length = m) (h2 : kget kn u = some v2) (hst : St w0 [] g0 g own w) (hk : own[k]? = some (b, .cells l.toArray e f))
    (h : Post (.tuple #[.agg l.toArray, v2]) g) : atK (bodyPost P fn (Ret w0 g0 Post) .ret) n kn w := fun a hka => by
  refine ⟨hka.defers, .tuple #[.agg l.toArray, v2], ?_, Ret.mk hst h⟩
  have e1 := hka.get t _ hv
  have e2 := hka.get u _ h2
  rw [Array.getD_eq_getD_getElem?] at e1 e2
  have h1 := run_loadN (P := P) (b := b) (i := 0) ha hs hl (w := w) (fun j v hj => by
    rw [Nat.zero_add]
    exact hst.cell_own k hk (by simpa using hj))
  simp [results, hr, e1, e2, asAddr, h1]
end
theorem St.own_none {w0 w : World} {M : List Nat} {g0 g : Mem} {own : List (Nat × Obj)} (h : St w0 M g0 g own w) (k : Nat) {b : Nat} {o : Obj} (hk : own[k]? = some (b, o)) : g b = none := (h.owns _ (List.mem_of_getElem? hk)).2.1
theorem IsNat.small1 {g : Mem} {A : Option Addr} {n N : Nat} (h : IsNat g A n N) (h0 : 0 < N) (hs : N < 2147483648) : n = 1 := by
  have h1 := h.len (k := 1) (by rw [Nat.pow_one]; omega)
  have h2 : n ≠ 0 := fun e => by have := h.zero_iff.1 e; omega
  omega
/-! arithmetic of signed fractions -/
def Fit (r : Rat) : Prop := r.num.natAbs < 18446744073709551616 ^ 1099511627776 ∧ r.den < 18446744073709551616 ^ 1099511627776
theorem Fit.neg {r : Rat} (h : Fit r) : Fit (-r) := ⟨by rw [Rat.neg_num, Int.natAbs_neg]; exact h.1, by rw [Rat.neg_den]; exact h.2⟩
theorem rat_zero_iff {r : Rat} : r.num = 0 ↔ r = 0 := Rat.num_eq_zero
theorem rat_inv (r : Rat) : mkRat (sg (decide (r.num < 0)) r.den) r.num.natAbs = r⁻¹ := by
  by_cases h0 : r.num = 0
  · have : r = 0 := rat_zero_iff.1 h0
    subst this
    rw [Rat.inv_zero]
    rfl
  · rw [Rat.inv_def, divInt_sg h0]
    congr 2
    have : ¬ ((r.den : Int) < 0) := by omega
    simp [this]
theorem Fit.inv {r : Rat} (h : Fit r) : Fit r⁻¹ := by
  by_cases h0 : r.num = 0
  · have : r = 0 := rat_zero_iff.1 h0
    subst this
    rw [Rat.inv_zero]
    exact h
  · have h1 := mkRat_num (b := decide (r.num < 0)) (N := r.den) (M := r.num.natAbs) (by omega) (by rw [Nat.gcd_comm]; exact r.reduced)
    rw [rat_inv] at h1
    exact ⟨by rw [h1.1, sg_natAbs]; exact h.2, by rw [h1.2]; exact h.1⟩
theorem rat_add (a b : Rat) : mkRat (a.num * (b.den : Int) + b.num * (a.den : Int)) (a.den * b.den) = a + b := by
  rw [← Rat.mkRat_add_mkRat _ _ a.den_nz b.den_nz, Rat.mkRat_self, Rat.mkRat_self]
theorem rat_mul (a b : Rat) : mkRat (a.num * b.num) (a.den * b.den) = a * b := by
  rw [← Rat.mkRat_mul_mkRat, Rat.mkRat_self, Rat.mkRat_self]
theorem divInt_nat (n : Int) (a b : Nat) : Rat.divInt n ((a : Int) * (b : Int)) = mkRat n (a * b) := by
  rw [show (a : Int) * (b : Int) = ((a * b : Nat) : Int) by simp, Rat.divInt_ofNat]
theorem sg_mulN (b : Bool) (N k : Nat) : sg b (N * k) = sg b N * (k : Int) := by cases b <;> simp [sg, Int.neg_mul]
theorem sg_abs (r : Rat) (k : Nat) : sg (decide (r.num < 0)) (r.num.natAbs * k) = r.num * (k : Int) := by rw [sg_mulN, sg_num]
theorem sg_add (b : Bool) (U V : Nat) : sg b (U + V) = sg b U + sg b V := by cases b <;> simp [sg] <;> omega
theorem sg_sub {b c : Bool} {U V : Nat} (h : V ≤ U) (hbc : b ≠ c) : sg b (U - V) = sg b U + sg c V := by cases b <;> cases c <;> simp [sg] at * <;> omega
theorem sg_mul (b c : Bool) (U V : Nat) : sg (b != c) (U * V) = sg b U * sg c V := by cases b <;> cases c <;> simp [sg, Int.neg_mul, Int.mul_neg]
theorem mulb {a b : Int} (h1 : -2147483648 < a) (h2 : a < 2147483648) (h3 : -2147483648 < b) (h4 : b < 2147483648) : -4611686014132420609 ≤ a * b ∧ a * b ≤ 4611686014132420609 := by
  have e1 : (a * b).natAbs ≤ 2147483647 * 2147483647 := by
    rw [Int.natAbs_mul]
    exact Nat.mul_le_mul (by omega) (by omega)
  omega
theorem lenMul {g : Mem} {A : Option Addr} {n X Y a b : Nat} (h : IsNat g A n (X * Y)) (hX : X < 18446744073709551616 ^ a) (hY : Y < 18446744073709551616 ^ b) : n ≤ a + b := h.len (by
  rw [Nat.pow_add]
  exact Nat.mul_lt_mul'' hX hY)
theorem smallR.bound {r : Rat} (h : smallR r) : -2147483648 < r.num ∧ r.num < 2147483648 ∧ 0 < r.den ∧ r.den < 2147483648 := by
  have h1 := h.1
  have h2 := h.2
  have h3 := r.den_nz
  omega
theorem LowR.neg {p q : Int} {r : Rat} (h : LowR p q r) : LowR (-p) q (-r) := by
  obtain ⟨h1, h2, h3⟩ := h
  refine ⟨⟨by rw [Rat.neg_num, Int.natAbs_neg]; exact h1.1, by rw [Rat.neg_den]; exact h1.2⟩, by rw [Rat.neg_num, h2], ?_⟩
  rcases h3 with h3 | ⟨h3, h4⟩
  · exact .inl (by rw [Rat.neg_den]; exact h3)
  · subst h4; exact .inr ⟨h3, by simp⟩
theorem BigR.num0 {g : Mem} {b : Nat} {r : Rat} (h : BigR g b r) : r.num ≠ 0 := fun e => by
  have : r = 0 := rat_zero_iff.1 e
  subst this
  exact h.1 ⟨by decide, by decide⟩
theorem IsRat.neg_big {g : Mem} {bl : Nat} {r : Rat} {A B : Option Addr} {n c m d : Nat} {t : TypeId} {f : Nat × Nat} (hgn : g bl = none) (hs : ¬ smallR r) (h0 : r.num ≠ 0) (hN : IsNat g A n r.num.natAbs) (hM : IsNat g B m r.den) :
    IsRat (gput g bl (.cells [Value.bool (!decide (r.num < 0)), .slice A n c, .slice B m d].toArray t f)) 0 0 (some ⟨bl, 0, none⟩) (-r) := by
  refine .inr ⟨rfl, rfl, bl, rfl, ?_, A, n, c, B, m, d, ?_, ?_, ?_, ?_, ?_⟩
  · unfold smallR
    rw [Rat.neg_num, Rat.neg_den, Int.natAbs_neg]
    exact hs
  · rw [gcell_put, Rat.neg_num]
    show some (Value.bool _) = some (Value.bool _)
    congr 2
    by_cases h : r.num < 0
    · simp [h]; omega
    · simp [h]; omega
  · rw [gcell_put]; rfl
  · rw [gcell_put]; rfl
  · rw [Rat.neg_num, Int.natAbs_neg]; exact hN.mono (gput_le hgn)
  · rw [Rat.neg_den]; exact hM.mono (gput_le hgn)
theorem does_eql_nilD {P : Program} {S : World → Prop} {kn : Kn} {o : Oper} {t yt e : TypeId} {x y : Operand} {a : Option Addr} (ho : o.op = .binOp .eql t x y yt) (hu : P.underlying t = some (.pointer e)) (hx : kev kn x = some (.pointer a)) (hy : kev kn y = some (.pointer none)) : Does P S kn o (.bool (decide (a = none))) :=
  (does_eql_nil ho hu hx hy).cast (by cases a <;> rfl)
theorem does_neq_nilD {P : Program} {S : World → Prop} {kn : Kn} {o : Oper} {t yt e : TypeId} {x y : Operand} {a : Option Addr} (ho : o.op = .binOp .neq t x y yt) (hu : P.underlying t = some (.pointer e)) (hx : kev kn x = some (.pointer a)) (hy : kev kn y = some (.pointer none)) : Does P S kn o (.bool (decide (a ≠ none))) :=
  (does_neq_nil ho hu hx hy).cast (by cases a <;> rfl)
theorem lenAdd {g : Mem} {A : Option Addr} {n X Y a : Nat} (h : IsNat g A n (X + Y)) (hX : X < 18446744073709551616 ^ a) (hY : Y < 18446744073709551616 ^ a) : n ≤ a + 1 := h.len (by
  rw [Nat.pow_succ]
  generalize 18446744073709551616 ^ a = p at *
  omega)
theorem lenAdd2 {g : Mem} {A : Option Addr} {n X Y a b : Nat} (h : IsNat g A n (X + Y)) (hX : X < 18446744073709551616 ^ (a + b)) (hY : Y < 18446744073709551616 ^ (a + b)) : n ≤ a + b + 1 := lenAdd h hX hY
theorem lenSub2 {g : Mem} {A : Option Addr} {n X Y a b : Nat} (h : IsNat g A n (X - Y)) (hX : X < 18446744073709551616 ^ (a + b)) : n ≤ a + b := h.len (Nat.lt_of_le_of_lt (Nat.sub_le _ _) hX)
theorem prodLt {X Y a b : Nat} (hX : X < 18446744073709551616 ^ a) (hY : Y < 18446744073709551616 ^ b) : X * Y < 18446744073709551616 ^ (a + b) := by
  rw [Nat.pow_add]
  exact Nat.mul_lt_mul'' hX hY
theorem lenAddK {g : Mem} {A : Option Addr} {n X Y U V k : Nat} (h : IsNat g A n (X * Y + U * V)) (hX : X < 18446744073709551616 ^ k) (hY : Y < 18446744073709551616 ^ k) (hU : U < 18446744073709551616 ^ k) (hV : V < 18446744073709551616 ^ k) : n ≤ k + k + 1 := lenAdd2 h (prodLt hX hY) (prodLt hU hV)
theorem lenSubK {g : Mem} {A : Option Addr} {n X Y k Z : Nat} (h : IsNat g A n (X * Y - Z)) (hX : X < 18446744073709551616 ^ k) (hY : Y < 18446744073709551616 ^ k) : n ≤ k + k := lenSub2 h (prodLt hX hY)
theorem floor_pos {r : Rat} {q : Nat} (h : ¬ r.num < 0) (hq : q = r.num.natAbs / r.den) : sg false q = r.floor := by
  rw [Rat.floor_def, hq]
  have e : r.num = ((r.num.natAbs : Nat) : Int) := by omega
  conv => rhs; rw [e]
  rfl
theorem floor_neg {r : Rat} {q : Nat} (h : r.num < 0) (hq : q = if r.num.natAbs % r.den = 0 then r.num.natAbs / r.den else r.num.natAbs / r.den + 1) : sg true q = r.floor := by
  rw [Rat.floor_def]
  have hd : 0 < r.den := Nat.pos_of_ne_zero r.den_nz
  have e : r.num = -((r.num.natAbs : Nat) : Int) := by omega
  have h1 := Nat.div_add_mod r.num.natAbs r.den
  have h2 := Nat.mod_lt r.num.natAbs hd
  generalize r.num.natAbs = N at *
  generalize r.den = D at *
  rw [e]
  show -(q : Int) = _
  have hD : (0 : Int) < (D : Int) := by omega
  have h1i : (D : Int) * ((N / D : Nat) : Int) + ((N % D : Nat) : Int) = (N : Int) := by exact_mod_cast h1
  by_cases h0 : N % D = 0
  · rw [if_pos h0] at hq
    rw [h0] at h1i
    refine ((Int.ediv_emod_unique (a := -(N : Int)) (b := (D : Int)) (r := 0) (q := -(q : Int)) hD).2 ⟨?_, Int.le_refl _, hD⟩).1.symm
    rw [hq, Int.mul_neg]
    generalize ((N / D : Nat) : Int) = k at *
    omega
  · rw [if_neg h0] at hq
    have h2i : ((N % D : Nat) : Int) < (D : Int) := by exact_mod_cast h2
    have h3i : 0 < ((N % D : Nat) : Int) := by exact_mod_cast (Nat.pos_of_ne_zero h0)
    refine ((Int.ediv_emod_unique (a := -(N : Int)) (b := (D : Int)) (r := (D : Int) - ((N % D : Nat) : Int)) (q := -(q : Int)) hD).2 ⟨?_, by omega, by omega⟩).1.symm
    have e2 : (q : Int) = ((N / D : Nat) : Int) + 1 := by rw [hq]; rfl
    rw [e2, Int.mul_neg, Int.mul_add, Int.mul_one]
    generalize (D : Int) * ((N / D : Nat) : Int) = k at *
    generalize ((N % D : Nat) : Int) = m at *
    omega
theorem mkRat_one (n : Int) : mkRat n 1 = (n : Rat) := by rw [Rat.mkRat_one]
theorem LowR.int {n : Int} (h1 : -2147483648 < n) (h2 : n < 2147483648) : LowR n 1 (n : Rat) := ⟨⟨by rw [Rat.num_intCast]; omega, by rw [Rat.den_intCast]; decide⟩, (Rat.num_intCast n).symm, .inl (by rw [Rat.den_intCast]; rfl)⟩
theorem sg_int (n : Int) : sg (decide (n < 0)) n.natAbs = n := by
  unfold sg
  by_cases h : n < 0
  · rw [if_pos (by simpa using h)]; omega
  · rw [if_neg (by simpa using h)]; omega
end Go.Proofs.Vc

namespace Go.Proofs.Vc
open Go Go.Lib Go.RowKit
set_option linter.unusedVariables false
set_option linter.unusedSimpArgs false
def Lb (s : ByteArray) : List UInt8 := s.data.toList
theorem Lb_ext {a b : ByteArray} (h : Lb a = Lb b) : a = b := ByteArray.ext (Array.toList_inj.1 h)
theorem Lb_length (s : ByteArray) : (Lb s).length = s.size := by simp [Lb]
theorem Lb_mk (l : List UInt8) : Lb ⟨l.toArray⟩ = l := rfl
theorem Lb_get {s : ByteArray} {i : Nat} (h : i < s.size) : (Lb s)[i]? = some (s[i]'h) := by
  have h' : i < s.data.size := h
  simp only [Lb, Array.getElem?_toList, Array.getElem?_eq_getElem h']
  rfl
theorem Lb_bt {s : ByteArray} {i : Nat} {c : UInt8} (h : (Lb s)[i]? = some c) : bt s i = c.toNat := by
  have hi : i < s.size := by
    rcases Nat.lt_or_ge i s.size with h' | h'
    · exact h'
    · rw [List.getElem?_eq_none (by rw [Lb_length]; exact h')] at h; cases h
  rw [Lb_get hi] at h
  cases h
  exact (bt_eq hi).symm
theorem Lb_append (a b : ByteArray) : Lb (a ++ b) = Lb a ++ Lb b := by simp [Lb]
theorem Lb_extract (s : ByteArray) (p q : Nat) : Lb (s.extract p q) = ((Lb s).take q).drop p := by
  simp only [Lb, ByteArray.data_extract, Array.toList_extract, List.extract_eq_take_drop, List.drop_take]
/-- the number that digits stand for -/
def dvL (l : List UInt8) : Nat := l.foldl (fun a c => 10 * a + (c.toNat - 48)) 0
theorem dvL_snoc (l : List UInt8) (c : UInt8) : dvL (l ++ [c]) = 10 * dvL l + (c.toNat - 48) := by simp [dvL]
theorem dval_eq (s : ByteArray) : ∀ n, n ≤ s.size → dval s n = dvL ((Lb s).take n)
  | 0, _ => by simp [dval, dvL]
  | n + 1, h => by
    have h1 := Lb_get (s := s) (i := n) (by omega)
    have h2 : (Lb s).take (n + 1) = (Lb s).take n ++ [s[n]'(by omega)] := by rw [List.take_add_one, h1]; rfl
    rw [h2, dvL_snoc, ← dval_eq s n (by omega), bt_eq]
    rfl
theorem dval_all (s : ByteArray) : dval s s.size = dvL (Lb s) := by
  rw [dval_eq s _ (Nat.le_refl _), List.take_of_length_le (by rw [Lb_length]; exact Nat.le_refl _)]
def DigL (l : List UInt8) : Prop := ∀ c ∈ l, 48 ≤ c.toNat ∧ c.toNat ≤ 57
structure PlainL (l : List UInt8) : Prop where
  ne : l ≠ []
  lead : l.head? = some 48 → l.length = 1
  dig : DigL l
theorem u8_of_digit {c : UInt8} (h : 48 ≤ c.toNat) : UInt8.ofNat (48 + (c.toNat - 48)) = c := by
  rw [show 48 + (c.toNat - 48) = c.toNat by omega]
  exact UInt8.ofNat_toNat
theorem snoc_ind {P : List UInt8 → Prop} (h0 : P []) (h1 : ∀ l c, P l → P (l ++ [c])) (l : List UInt8) : P l := by
  have key : ∀ n (l : List UInt8), l.length = n → P l := by
    intro n
    induction n with
    | zero => intro l hl; rw [List.eq_nil_of_length_eq_zero hl]; exact h0
    | succ n ih =>
      intro l hl
      have hne : l ≠ [] := fun e => by subst e; simp at hl
      rw [← List.dropLast_concat_getLast hne]
      exact h1 _ _ (ih _ (by simp [hl]))
  exact key _ l rfl
theorem dvL_ge (l : List UInt8) (c : UInt8) : dvL l ≤ dvL (l ++ [c]) := by rw [dvL_snoc]; omega
theorem dvL_pos : ∀ (l : List UInt8), l ≠ [] → DigL l → l.head? ≠ some 48 → 0 < dvL l := by
  intro l
  induction l using snoc_ind with
  | h0 => intro h; exact absurd rfl h
  | h1 l c ih =>
    intro _ hd hh
    cases l with
    | nil =>
      have h1 := hd c (by simp)
      have h2 : c ≠ 48 := fun e => hh (by rw [e]; rfl)
      have h3 : c.toNat ≠ 48 := fun e => h2 (UInt8.toNat_inj.1 e)
      simp [dvL]
      omega
    | cons a r =>
      have := ih (by simp) (fun x hx => hd x (by simp at hx ⊢; rcases hx with hx | hx <;> simp [hx])) (by simpa using hh)
      have h2 := dvL_ge (a :: r) c
      omega
theorem plainL_eq : ∀ (l : List UInt8), PlainL l → l = decDigits (dvL l) := by
  intro l
  induction l using snoc_ind with
  | h0 => intro h; exact absurd rfl h.ne
  | h1 l c ih =>
    intro h
    have hc := h.dig c (by simp)
    cases l with
    | nil =>
      rw [dvL_snoc]
      have : 10 * dvL [] + (c.toNat - 48) = c.toNat - 48 := by simp [dvL]
      rw [this, decDigits_one (by omega), u8_of_digit hc.1]
      rfl
    | cons a r =>
      have hh : (a :: r).head? ≠ some 48 := fun e => by
        have := h.lead (by simpa using e)
        simp at this
      have hd : DigL (a :: r) := fun x hx => h.dig x (by simp at hx ⊢; rcases hx with hx | hx <;> simp [hx])
      have hp := dvL_pos (a :: r) (by simp) hd hh
      have hl := ih ⟨by simp, fun e => absurd e hh, hd⟩
      rw [dvL_snoc, decDigits, dif_neg (by omega)]
      rw [show (10 * dvL (a :: r) + (c.toNat - 48)) / 10 = dvL (a :: r) by omega, show (10 * dvL (a :: r) + (c.toNat - 48)) % 10 = c.toNat - 48 by omega, u8_of_digit hc.1, ← hl]
theorem u8_dig {k : Nat} (h : k < 10) : (UInt8.ofNat (48 + k)).toNat = 48 + k := by
  show (48 + k) % 2 ^ 8 = 48 + k
  omega
theorem decDigits_ne (N : Nat) : decDigits N ≠ [] := by
  rw [decDigits]
  split <;> simp
theorem decDigits_props (N : Nat) : DigL (decDigits N) ∧ dvL (decDigits N) = N ∧ (0 < N → (decDigits N).head? ≠ some 48) := by
  induction N using Nat.strongRecOn with
  | _ N ih =>
    rw [decDigits]
    by_cases h : N < 10
    · rw [dif_pos h]
      have e := u8_dig h
      refine ⟨?_, ?_, ?_⟩
      · intro c hc
        have : c = UInt8.ofNat (48 + N) := by simpa using hc
        rw [this, e]
        omega
      · simp only [dvL, List.foldl_cons, List.foldl_nil]
        rw [e]
        omega
      · intro h0 hh
        have h1 : UInt8.ofNat (48 + N) = 48 := by simpa using hh
        have h2 : (UInt8.ofNat (48 + N)).toNat = 48 := by rw [h1]; rfl
        omega
    · rw [dif_neg h]
      obtain ⟨h1, h2, h3⟩ := ih (N / 10) (by omega)
      have e := u8_dig (show N % 10 < 10 by omega)
      refine ⟨?_, ?_, ?_⟩
      · intro c hc
        rw [List.mem_append] at hc
        rcases hc with hc | hc
        · exact h1 c hc
        · have : c = UInt8.ofNat (48 + N % 10) := by simpa using hc
          rw [this, e]
          omega
      · rw [dvL_snoc, h2, e]
        omega
      · intro _ hh
        refine h3 (by omega) ?_
        cases hl : decDigits (N / 10) with
        | nil => exact absurd hl (decDigits_ne _)
        | cons a r => rw [hl] at hh; simpa using hh
theorem decDigits_plain (N : Nat) : PlainL (decDigits N) := by
  obtain ⟨h1, h2, h3⟩ := decDigits_props N
  refine ⟨decDigits_ne N, fun hh => ?_, h1⟩
  rcases Nat.eq_zero_or_pos N with h0 | h0
  · subst h0; rw [decDigits_one (by decide)]; rfl
  · exact absurd hh (h3 h0)
theorem decDigits_inj {a b : Nat} (h : decDigits a = decDigits b) : a = b := by
  rw [← (decDigits_props a).2.1, h, (decDigits_props b).2.1]
theorem dec_not {N : Nat} {c : UInt8} (h : c.toNat < 48) : c ∉ decDigits N := fun hm => by
  have := (decDigits_props N).1 c hm
  omega
/-- the canonical text -/
def ratL (r : Rat) : List UInt8 := itoa r.num ++ (if r.den = 1 then [] else 47 :: decDigits r.den)
def ratS (r : Rat) : ByteArray := ⟨(ratL r).toArray⟩
theorem itoa_sg (b : Bool) (N : Nat) (h : b = true → 0 < N) : itoa (sg b N) = if b then 45 :: decDigits N else decDigits N := by
  cases b
  · simp [sg, itoa_nonneg]
  · have := h rfl
    simp [sg, itoa_neg N this]
theorem itoa_num (r : Rat) : itoa r.num = if r.num < 0 then 45 :: decDigits r.num.natAbs else decDigits r.num.natAbs := by
  have h := itoa_sg (decide (r.num < 0)) r.num.natAbs (fun e => by have : r.num < 0 := by simpa using e
                                                                   omega)
  rw [sg_num] at h
  rw [h]
  simp
/-- a text, cut as the reader cuts it -/
structure Cut (l : List UInt8) (neg : Bool) (top bottom : List UInt8) (found : Bool) : Prop where
  eq : l = (if neg then [45] else []) ++ (top ++ if found then 47 :: bottom else [])
  neg0 : neg = false → (top ++ if found then 47 :: bottom else []).head? ≠ some 45
  top47 : (47 : UInt8) ∉ top
  one : found = false → bottom = [49]
structure Okay (neg : Bool) (top bottom : List UInt8) (found : Bool) : Prop where
  ptop : PlainL top
  pbot : PlainL bottom
  nzero : ¬ (neg = true ∧ top = [48])
  nb : ¬ (found = true ∧ (bottom = [48] ∨ bottom = [49]))
  gcd : found = true → Nat.gcd (dvL top) (dvL bottom) = 1
theorem dvL_one : dvL [49] = 1 := rfl
theorem plain_zero {l : List UInt8} (h : PlainL l) (h0 : dvL l = 0) : l = [48] := by rw [plainL_eq l h, h0, decDigits_one (by decide)]; rfl
theorem plain_one {l : List UInt8} (h : PlainL l) (h0 : dvL l = 1) : l = [49] := by rw [plainL_eq l h, h0, decDigits_one (by decide)]; rfl
theorem okay_den {neg found : Bool} {top bottom : List UInt8} {l : List UInt8} (hc : Cut l neg top bottom found) (h : Okay neg top bottom found) : 0 < dvL bottom ∧ Nat.gcd (dvL top) (dvL bottom) = 1 ∧ (found = false ↔ dvL bottom = 1) := by
  cases found with
  | false => rw [hc.one rfl, dvL_one]; exact ⟨by decide, Nat.gcd_one_right _, by simp⟩
  | true =>
    refine ⟨Nat.pos_of_ne_zero fun e => h.nb ⟨rfl, .inl (plain_zero h.pbot e)⟩, h.gcd rfl, ?_⟩
    constructor
    · intro e; cases e
    · intro e; exact absurd ⟨rfl, .inr (plain_one h.pbot e)⟩ h.nb
/-- what is accepted is the canonical text of the number read -/
theorem okay_text {l : List UInt8} {neg found : Bool} {top bottom : List UInt8} (hc : Cut l neg top bottom found) (h : Okay neg top bottom found) : l = ratL (mkRat (sg neg (dvL top)) (dvL bottom)) := by
  obtain ⟨h1, h2, h3⟩ := okay_den hc h
  obtain ⟨e1, e2⟩ := mkRat_num (b := neg) h1 h2
  have hn : neg = true → 0 < dvL top := fun e => Nat.pos_of_ne_zero fun e0 => h.nzero ⟨e, plain_zero h.ptop e0⟩
  unfold ratL
  rw [e1, e2, itoa_sg neg _ hn, ← plainL_eq top h.ptop, ← plainL_eq bottom h.pbot, hc.eq]
  cases found with
  | false =>
    rw [if_pos (h3.1 rfl)]
    cases neg <;> simp
  | true =>
    rw [if_neg (fun e => Bool.noConfusion (h3.2 e))]
    cases neg <;> simp
theorem split47 : ∀ {a b x y : List UInt8}, (47 : UInt8) ∉ a → (47 : UInt8) ∉ b → (x = [] ∨ ∃ u, x = 47 :: u) → (y = [] ∨ ∃ u, y = 47 :: u) → a ++ x = b ++ y → a = b ∧ x = y
  | [], [], x, y, _, _, _, _, h => ⟨rfl, by simpa using h⟩
  | [], c :: b, x, y, _, hb, hx, _, h => by
    rcases hx with rfl | ⟨u, rfl⟩
    · simp at h
    · simp at h
      exact absurd (by simp [h.1]) hb
  | c :: a, [], x, y, ha, _, _, hy, h => by
    rcases hy with rfl | ⟨u, rfl⟩
    · simp at h
    · simp at h
      exact absurd (by simp [h.1]) ha
  | c :: a, d :: b, x, y, ha, hb, hx, hy, h => by
    simp at h
    obtain ⟨h1, h2⟩ := split47 (fun e => ha (by simp [e])) (fun e => hb (by simp [e])) hx hy h.2
    exact ⟨by rw [h.1, h1], h2⟩
theorem dec_head {N : Nat} {r : List UInt8} : (decDigits N ++ r).head? ≠ some 45 := by
  intro h
  cases hd : decDigits N with
  | nil => exact decDigits_ne N hd
  | cons a t =>
    rw [hd] at h
    have ha : a = 45 := by simpa using h
    have := (decDigits_props N).1 a (by rw [hd]; simp)
    rw [ha] at this
    revert this
    decide
/-- the canonical text is accepted -/
theorem text_okay {l : List UInt8} {neg found : Bool} {top bottom : List UInt8} (hc : Cut l neg top bottom found) {r : Rat} (hr : l = ratL r) : Okay neg top bottom found ∧ neg = decide (r.num < 0) ∧ dvL top = r.num.natAbs ∧ dvL bottom = r.den := by
  have h1 : l = (if r.num < 0 then [45] else []) ++ (decDigits r.num.natAbs ++ if r.den = 1 then [] else 47 :: decDigits r.den) := by
    rw [hr, ratL, itoa_num]
    split <;> simp
  have h2 : neg = decide (r.num < 0) := by
    have e := hc.eq.symm.trans h1
    cases neg with
    | false =>
      by_cases hn : r.num < 0
      · rw [if_pos hn] at e
        exact absurd (by simpa using congrArg List.head? e) (hc.neg0 rfl)
      · simp [hn]
    | true =>
      by_cases hn : r.num < 0
      · simp [hn]
      · rw [if_neg hn] at e
        have := congrArg List.head? e
        exact absurd (by simpa using this.symm) (dec_head (N := r.num.natAbs) (r := if r.den = 1 then [] else 47 :: decDigits r.den))
  have h3 : top ++ (if found then 47 :: bottom else []) = decDigits r.num.natAbs ++ if r.den = 1 then [] else 47 :: decDigits r.den := by
    have e := hc.eq.symm.trans h1
    rw [h2] at e
    by_cases hn : r.num < 0
    · simpa [hn] using e
    · simpa [hn] using e
  obtain ⟨h4, h5⟩ := split47 hc.top47 (dec_not (by decide)) (by cases found <;> simp) (by split <;> simp) h3
  have hden : 0 < r.den := Nat.pos_of_ne_zero r.den_nz
  have h6 : bottom = decDigits r.den ∧ (found = true ↔ r.den ≠ 1) := by
    cases found with
    | false =>
      have e1 : r.den = 1 := by
        rcases Decidable.em (r.den = 1) with e | e
        · exact e
        · rw [if_neg e] at h5; simp at h5
      rw [hc.one rfl, e1, decDigits_one (by decide)]
      exact ⟨rfl, by simp⟩
    | true =>
      have e1 : r.den ≠ 1 := fun e => by rw [if_pos e] at h5; simp at h5
      rw [if_neg e1] at h5
      simp at h5
      exact ⟨h5, by simp [e1]⟩
  have d1 : dvL top = r.num.natAbs := by rw [h4, (decDigits_props _).2.1]
  have d2 : dvL bottom = r.den := by rw [h6.1, (decDigits_props _).2.1]
  refine ⟨⟨by rw [h4]; exact decDigits_plain _, by rw [h6.1]; exact decDigits_plain _, ?_, ?_, ?_⟩, h2, d1, d2⟩
  · rintro ⟨e1, e2⟩
    rw [e2] at d1
    rw [h2] at e1
    have e3 : r.num < 0 := by simpa using e1
    have e4 : dvL [48] = 0 := rfl
    omega
  · rintro ⟨e1, e2⟩
    have e3 := h6.2.1 e1
    rcases e2 with e2 | e2
    · rw [e2] at d2
      have e4 : dvL [48] = 0 := rfl
      omega
    · rw [e2] at d2
      have e4 : dvL [49] = 1 := rfl
      omega
  · intro _
    rw [d1, d2]
    exact r.reduced
theorem ratL_inj {a b : Rat} (h : ratL a = ratL b) : a = b := by
  have hc : Cut (ratL a) (decide (a.num < 0)) (decDigits a.num.natAbs) (if a.den = 1 then [49] else decDigits a.den) (decide (a.den ≠ 1)) := by
    refine ⟨?_, fun _ => dec_head, dec_not (by decide), fun e => ?_⟩
    · rw [ratL, itoa_num]
      by_cases h1 : a.num < 0 <;> by_cases h2 : a.den = 1 <;> simp [h1, h2]
    · have : a.den = 1 := by simpa using e
      rw [if_pos this]
  obtain ⟨_, h1, h2, h3⟩ := text_okay hc rfl
  obtain ⟨_, k1, k2, k3⟩ := text_okay hc h
  refine Rat.ext ?_ (h3.symm.trans k3)
  rw [← sg_num a, ← sg_num b, ← h1, ← h2, k1, k2]
theorem AllDig_iff {s : ByteArray} : AllDig s ↔ DigL (Lb s) := by
  constructor
  · intro h c hc
    obtain ⟨i, hi⟩ := List.mem_iff_getElem?.1 hc
    have hl : i < s.size := by
      rcases Nat.lt_or_ge i s.size with h' | h'
      · exact h'
      · rw [List.getElem?_eq_none (by rw [Lb_length]; exact h')] at hi; cases hi
    rw [← Lb_bt hi]
    exact h i hl
  · intro h i hi
    rw [Lb_bt (Lb_get hi)]
    exact h _ (List.mem_of_getElem? (Lb_get hi))
theorem Lb_ne {s : ByteArray} : Lb s ≠ [] ↔ 0 < s.size := by
  rw [← Lb_length, List.length_pos_iff]
theorem Lb_head {s : ByteArray} (h : 0 < s.size) : ∃ c : UInt8, (Lb s).head? = some c ∧ c.toNat = bt s 0 := by
  refine ⟨_, ?_, bt_eq h⟩
  rw [List.head?_eq_getElem?]
  exact Lb_get h
theorem plain_of {s : ByteArray} (h0 : 0 < s.size) (hl : bt s 0 = 48 → s.size = 1) (hd : AllDig s) : PlainL (Lb s) := by
  refine ⟨Lb_ne.2 h0, fun h => ?_, AllDig_iff.1 hd⟩
  obtain ⟨c, h1, h2⟩ := Lb_head h0
  rw [h1] at h
  cases h
  rw [Lb_length]
  exact hl h2.symm
theorem PlainL.pos {s : ByteArray} (h : PlainL (Lb s)) : 0 < s.size := Lb_ne.1 h.ne
theorem PlainL.lead0 {s : ByteArray} (h : PlainL (Lb s)) (h0 : bt s 0 = 48) : s.size = 1 := by
  obtain ⟨c, h1, h2⟩ := Lb_head h.pos
  rw [← Lb_length]
  refine h.lead ?_
  rw [h1]
  congr 1
  exact UInt8.toNat_inj.1 (h2.trans h0)
theorem PlainL.all {s : ByteArray} (h : PlainL (Lb s)) : AllDig s := AllDig_iff.2 h.dig
theorem no_plain {p : Prop} (h : ¬ p) : (false = true ↔ p) := ⟨(fun e => Bool.noConfusion e), fun e => absurd e h⟩
theorem yes_plain {p : Prop} (h : p) : (true = true ↔ p) := ⟨fun _ => h, fun _ => rfl⟩
/-! reading -/
open Classical in
/-- the number of which s is the canonical text -/
noncomputable def readR (s : ByteArray) : Option Rat := if h : ∃ r, s = ratS r then some h.choose else none
noncomputable def getR (s : ByteArray) : Rat := (readR s).getD 0
theorem readR_text (r : Rat) : readR (ratS r) = some r := by
  have h : ∃ x, ratS r = ratS x := ⟨r, rfl⟩
  unfold readR
  rw [dif_pos h]
  congr 1
  have h1 := h.choose_spec
  have h2 : ratL r = ratL h.choose := by
    have := congrArg Lb h1
    exact this
  exact (ratL_inj h2).symm
theorem readR_some {s : ByteArray} {r : Rat} (h : Lb s = ratL r) : readR s = some r := by
  have : s = ratS r := Lb_ext h
  rw [this]
  exact readR_text r
theorem readR_is {s : ByteArray} {r : Rat} (h : readR s = some r) : s = ratS r := by
  unfold readR at h
  split at h
  · rename_i hx
    cases h
    exact hx.choose_spec
  · cases h
theorem readR_none {s : ByteArray} (h : ∀ r, Lb s ≠ ratL r) : readR s = none := by
  unfold readR
  rw [dif_neg]
  rintro ⟨r, rfl⟩
  exact h r rfl
structure Okay0 (neg : Bool) (top bottom : List UInt8) (found : Bool) : Prop where
  ptop : PlainL top
  pbot : PlainL bottom
  nzero : ¬ (neg = true ∧ top = [48])
  nb : ¬ (found = true ∧ (bottom = [48] ∨ bottom = [49]))
theorem reject0 {s : ByteArray} {neg found : Bool} {top bottom : List UInt8} (hc : Cut (Lb s) neg top bottom found) (h : ¬ Okay0 neg top bottom found) : readR s = none :=
  readR_none fun r hr => h (by
    obtain ⟨h1, _⟩ := text_okay hc hr
    exact ⟨h1.ptop, h1.pbot, h1.nzero, h1.nb⟩)
theorem reject1 {s : ByteArray} {neg found : Bool} {top bottom : List UInt8} (hc : Cut (Lb s) neg top bottom found) (h : found = true ∧ Nat.gcd (dvL top) (dvL bottom) ≠ 1) : readR s = none :=
  readR_none fun r hr => by
    obtain ⟨h1, _⟩ := text_okay hc hr
    exact h.2 (h1.gcd h.1)
theorem accept1 {s : ByteArray} {neg found : Bool} {top bottom : List UInt8} (hc : Cut (Lb s) neg top bottom found) (h : Okay0 neg top bottom found) (hg : found = true → Nat.gcd (dvL top) (dvL bottom) = 1) :
    readR s = some (mkRat (sg neg (dvL top)) (dvL bottom)) ∧ 0 < dvL bottom ∧ Nat.gcd (dvL top) (dvL bottom) = 1 := by
  have h1 : Okay neg top bottom found := ⟨h.ptop, h.pbot, h.nzero, h.nb, hg⟩
  have h2 := okay_den hc h1
  exact ⟨readR_some (okay_text hc h1), h2.1, h2.2.1⟩
theorem Lb_tail {s : ByteArray} {k : Nat} : Lb (s.extract k s.size) = (Lb s).drop k := by
  rw [Lb_extract, List.take_of_length_le (by rw [Lb_length]; exact Nat.le_refl _)]
theorem Lb_cut1 {s : ByteArray} {c : UInt8} (h0 : 0 < s.size) (h : bt s 0 = c.toNat) : Lb s = [c] ++ Lb (s.extract 1 s.size) := by
  rw [Lb_tail]
  obtain ⟨a, h1, h2⟩ := Lb_head h0
  cases hl : Lb s with
  | nil => rw [hl] at h1; cases h1
  | cons x r =>
    rw [hl] at h1
    have h3 : x = a := by simpa using h1
    have h4 : a = c := UInt8.toNat_inj.1 (h2.trans h)
    rw [h3, h4]
    rfl
theorem Lb_head_ne {s : ByteArray} {c : UInt8} (h : 0 < s.size → bt s 0 ≠ c.toNat) : (Lb s).head? ≠ some c := by
  intro e
  rcases Nat.eq_zero_or_pos s.size with h0 | h0
  · have : Lb s = [] := List.eq_nil_of_length_eq_zero (by rw [Lb_length]; exact h0)
    rw [this] at e
    cases e
  · obtain ⟨a, h1, h2⟩ := Lb_head h0
    rw [h1] at e
    cases e
    exact h h0 h2.symm
theorem Lb_cutk {s : ByteArray} {k : Nat} {c : UInt8} (hk : k < s.size) (h : bt s k = c.toNat) : Lb s = Lb (s.extract 0 k) ++ c :: Lb (s.extract (k + 1) s.size) := by
  rw [Lb_tail, Lb_extract, List.drop_zero]
  obtain ⟨x, hx⟩ : ∃ x, (Lb s)[k]? = some x := ⟨_, Lb_get hk⟩
  have h4 : x = c := UInt8.toNat_inj.1 ((Lb_bt hx).symm.trans h)
  have h2 := List.take_append_drop k (Lb s)
  have hl : k < (Lb s).length := by rw [Lb_length]; exact hk
  rw [List.getElem?_eq_getElem hl] at hx
  have h5 : (Lb s)[k] = x := by simpa using hx
  rw [List.drop_eq_getElem_cons hl, h5, h4] at h2
  exact h2.symm
theorem not_mem_take {s : ByteArray} {k : Nat} {c : UInt8} (hk : k ≤ s.size) (h : ∀ j, j < k → bt s j ≠ c.toNat) : c ∉ Lb (s.extract 0 k) := by
  rw [Lb_extract, List.drop_zero]
  intro hm
  obtain ⟨i, hi⟩ := List.mem_iff_getElem?.1 hm
  rw [List.getElem?_take] at hi
  split at hi
  · rename_i hik
    exact h i hik (Lb_bt hi)
  · cases hi
theorem dval_fit {s : ByteArray} (h : AllDig s) : dvL (Lb s) < 10 ^ s.size := by
  rw [← dval_all]
  exact dval_lt h _ (Nat.le_refl _)
theorem dec_len {N : Nat} : N < 10 ^ (decDigits N).length := by
  have h := dval_fit (s := ⟨(decDigits N).toArray⟩) (AllDig_iff.2 (decDigits_props N).1)
  rw [Lb_mk, (decDigits_props N).2.1, ← Lb_length, Lb_mk] at h
  exact h
theorem text_fit {s : ByteArray} {r : Rat} (h : s = ratS r) : r.num.natAbs < 10 ^ s.size ∧ r.den < 10 ^ (s.size + 1) := by
  have hl : s.size = (ratL r).length := by rw [h, ← Lb_length]; rfl
  have h1 := dec_len (N := r.num.natAbs)
  have h2 := dec_len (N := r.den)
  have h3 : (ratL r).length = (itoa r.num).length + (if r.den = 1 then [] else 47 :: decDigits r.den).length := by rw [ratL, List.length_append]
  have h4 : (decDigits r.num.natAbs).length ≤ (itoa r.num).length := by
    rw [itoa_num]
    split <;> simp
  refine ⟨Nat.lt_of_lt_of_le h1 (Nat.pow_le_pow_right (by decide) (by omega)), ?_⟩
  by_cases hd : r.den = 1
  · rw [hd]
    exact Nat.one_lt_pow (by omega) (by decide)
  · rw [if_neg hd, List.length_cons] at h3
    exact Nat.lt_of_lt_of_le h2 (Nat.pow_le_pow_right (by decide) (by omega))
theorem ten_pow_le {k L : Nat} (h : k ≤ L) : 10 ^ k ≤ 18446744073709551616 ^ L := Nat.le_trans (ten_le k) (Nat.pow_le_pow_right (by decide) h)
theorem fit_of {r : Rat} {k : Nat} (h1 : r.num.natAbs < 10 ^ k) (h2 : r.den < 10 ^ k) (hk : k ≤ 1099511627776) : Fit r := by
  have h3 := ten_pow_le hk
  exact ⟨Nat.lt_of_lt_of_le h1 h3, Nat.lt_of_lt_of_le h2 h3⟩
theorem fit_zero : Fit 0 := fit_of (k := 1) (by decide) (by decide) (by decide)
theorem getR_fit {s : ByteArray} (hs : s.size < 1099511627776) : Fit (getR s) := by
  unfold getR
  cases h : readR s with
  | none => exact fit_zero
  | some r =>
    obtain ⟨h1, h2⟩ := text_fit (readR_is h)
    exact fit_of (k := s.size + 1) (Nat.lt_of_lt_of_le h1 (Nat.pow_le_pow_right (by decide) (by omega))) h2 (by omega)
section
variable {P : Program} {ops : Array Oper} {Q : Exit → Act → World → Prop} {n : Nat} {kn : Kn} {o : Oper} {rest : List Oper} {w0 w : World} {M : List Nat} {g0 g : Mem} {own : List (Nat × Obj)} {d : Nat}
theorem stepK_buildSlice_guard {j t' : Nat} {oj : Oper} {b0 : Bool} {t e : TypeId} {len : Nat} {parts : List (Nat × Operand)} {z : Value} {zl l : List Value} {sz by_ : Nat} {vs : List (Nat × Value)} (hdst : o.dst = some d) (hg : o.guard = some (j, b0)) (hj : ops[j]? = some oj) (ht : oj.dst = some t')
    (hb0 : kget kn t' = some (.bool b0)) (hd : Nat.ble (d + 1) n = true) (ho : o.op = .buildSlice t len parts.toArray) (hu : P.underlying t = some (.slice e)) (he : elemInfo P e = some (z, sz, by_))
    (hz : cellsOf z = some zl) (hzs : zl.length = sz) (hs : 0 < sz) (hlen : 0 < len) (hsm : len * sz ≤ 16777216) (hvs : kparts kn parts = some vs) (hf : fillL (fun i => some (i * sz, sz)) (repL len zl) vs = some l) (hst : St w0 M g0 g own w)
    (h : ∀ b w', St w0 M g0 g (own ++ [(b, .cells l.toArray e (0, 0))]) w' → wpK P ops Q n rest ((d, .slice (some ⟨b, 0, none⟩) len len) :: kn) w') : wpK P ops Q n (o :: rest) kn w := by
  intro a ha
  have hw : Region.wanted o (yielded ops a.tmps) = true := by
    have := tmp_of_getD (ha.get t' _ hb0)
    simp [Region.wanted, hg, yielded, hj, ht, this]
  have hr := run_buildSlice' (w := w) ho hu he hz hzs hs hlen hsm hvs hf a.eval (fun x u hu => ha.eval hu)
  unfold wpList
  rw [if_pos hw]
  refine .inl ?_
  unfold Oper.wp
  rw [hr, Oper.upon_value, hdst]
  exact h _ _ (hst.alloc _) _ (ha.put (Nat.le_of_ble_eq_true hd) _)
end
theorem dropWhile_stop {l : List UInt8} {c : UInt8} (h : l.head? ≠ some c) : l.dropWhile (· == c) = l := by
  cases l with
  | nil => rfl
  | cons a r =>
    have : a ≠ c := fun e => h (by rw [e]; rfl)
    simp [List.dropWhile_cons, this]
end Go.Proofs.Vc

namespace Go.Proofs.Vc
open Go Go.Lib Go.RowKit
set_option linter.unusedVariables false
set_option linter.unusedSectionVars false
section
variable {P : Program} {ops : Array Oper} {Q : Exit → Act → World → Prop} {n : Nat} {kn : Kn} {o : Oper} {rest : List Oper} {w w' : World} {d : Nat}
/-- a call whose end is told by R alone -/
theorem stepK_callR {f : FuncId} {args : List Operand} {ts : Array TypeId} {vs : List Value} {R : Ending → World → Prop} (hdst : o.dst = some d) (hg : o.guard = none) (hd : Nat.ble (d + 1) n = true) (ho : o.op = .call { callee := .value (.func f), args := args.toArray, argTypes := ts })
    (hvs : kevs kn args = some vs) (hc : CallTo P f vs.toArray w R) (h : ∀ e w', R e w' → ∃ v, e = .returned v ∧ wpK P ops Q n rest ((d, v) :: kn) w') : wpK P ops Q n (o :: rest) kn w := by
  intro a ha
  refine wpList_plain hg fun K hK => ?_
  refine oper_call ho ha hvs hc fun e w' hr => ?_
  obtain ⟨v, rfl, hk⟩ := h e w' hr
  refine ⟨v, rfl, hK _ _ ?_⟩
  rw [hdst]
  exact hk _ (ha.put (Nat.le_of_ble_eq_true hd) v)
/-- a store of one cell into a block that is known -/
theorem stepK_storeW {t : TypeId} {x y : Operand} {b i : Nat} {v : Value} {c : Array Value} {e : TypeId} (hdst : o.dst = none) (hg : o.guard = none) (ho : o.op = .store t x y) (hx : kev kn x = some (.pointer (some ⟨b, i, none⟩))) (hy : kev kn y = some v) (hl : cellsOf v = some [v])
    (hs : sizeB P t = some 1) (h1 : v.oneCell' = true) (hb : w.heap[b]? = some (.cells c e (0, 0))) (hin : i < c.size)
    (h : wpK P ops Q n rest kn (w.setRow b (c.setIfInBounds i v))) : wpK P ops Q n (o :: rest) kn w := by
  intro a ha
  refine wpList_plain hg fun K hK => ?_
  unfold Oper.wp
  have h2 := run_storeCells_at P b i e [v] 0 c w hb (by simp; omega) (by simpa using h1)
  have hc := cellsOf_eq hl
  simp only [Nat.add_zero] at h2
  have h3 := splice_one c i v hin
  have hr : (execOp a.eval o).run P w = .ok .skip (w.setRow b (splice c i [v])) := by
    have e1 := ha.eval (x := x) hx
    have e2 := ha.eval (x := y) hy
    simp [execOp, ho, e1, e2, Instr.storeAt, Instr.sureAddr, storeVar, hc, run_sizeB hs, h2, splice]
  rw [hr, Oper.upon_skip, hdst, h3]
  exact hK _ _ (h a ha)
theorem cell_at {w : World} {b : Nat} {c : Array Value} {e : TypeId} {f : Nat × Nat} {i : Nat} {v : Value} (hb : w.heap[b]? = some (.cells c e f)) (hi : c[i]? = some v) : w.cell? ⟨b, i, none⟩ = some v := by
  rw [Lib.cell_of_heap hb]; exact hi
theorem grown_setRow (w : World) (b : Nat) (c : Array Value) : w.grownBy (w.setRow b c) (some b) := ⟨rfl, rfl, rfl, by simp, fun k _ hk => setRow_other w b k c (fun e => hk (by rw [e]))⟩
end
/-- a pointer held against itself -/
theorem does_neq_self {P : Program} {S : World → Prop} {kn : Kn} {o : Oper} {t yt te : TypeId} {x y : Operand} {a : Addr} (ho : o.op = .binOp .neq t x y yt) (hu : P.underlying t = some (.pointer te)) (hj : (P.info? te).isSome = true) (hx : kev kn x = some (.pointer (some a))) (hy : kev kn y = some (.pointer (some a))) : Does P S kn o (.bool false) := by
  obtain ⟨j, hj⟩ := Option.isSome_iff_exists.1 hj
  exact does_bin' ho hx hy (fun w => by rw [eqGuard_at_pointer]; rfl) fun w => Lib.run_neq_ptr_same w a hu hj
theorem St.later {w0 w w' : World} {g0 g : Mem} (h : St w0 [] g0 g [] w) (hb : Below w.heap.size w w') : St w0 [] g0 g [] w' := by
  refine ⟨hb.os.trans h.os, hb.tape.trans h.tape, hb.output.trans h.output, Nat.le_trans h.size hb.size, ?_, ?_, h.le, h.ext, (fun _ h => nomatch h), by simp⟩
  · intro k hk hM
    rw [hb.block k (Nat.lt_of_lt_of_le hk h.size)]
    exact h.block k hk hM
  · intro b o hb'
    rw [hb.block b (h.lt_of_g hb')]
    exact h.agree b o hb'
/-- the world is this one -/
def AtW (w x : World) : Prop := x = w
theorem AtW.cell {w x : World} (h : AtW x w) {a : Addr} {v : Value} (hc : w.cell? a = some v) : x.cell? a = some v := by
  cases h; exact hc
theorem results_none {P : Program} {fn : Func} (h : fn.results = #[]) (tmps : Array Value) (w : World) : (results fn tmps).run P w = .ok (.tuple #[]) w := by simp [results, h]
/-! rows and new blocks -/
section
variable {P : Program} {ops : Array Oper} {Q : Exit → Act → World → Prop} {n : Nat} {kn : Kn} {o : Oper} {rest : List Oper} {w0 w w' : World} {M : List Nat} {g0 g : Mem} {own own' : List (Nat × Obj)} {d : Nat}
theorem Row.alloc {E : TypeId} {sz m : Nat} {V : Value} {X : List Value} (h : Row w0 M g0 g own E sz V m X w) (ob : Obj) : Row w0 M g0 g (own ++ [(w.heap.size, ob)]) E sz V m X (w.alloc ob) := by
  refine ⟨h.1, ?_⟩
  rcases h.2 with ⟨h1, h2, h3⟩ | ⟨b, cap, cur, h1, h2, h3, h4, h5, h6, h7⟩
  · exact .inl ⟨h1, h2, h3.alloc ob⟩
  · refine .inr ⟨b, cap, cur, h1, h2, h3, h4, h5, h6, (h7.alloc ob).perm ?_⟩
    rw [List.append_assoc, List.append_assoc]
    exact List.Perm.append_left _ (List.perm_append_comm ..)
theorem Row.sub {E : TypeId} {sz m : Nat} {V : Value} {X : List Value} (h : Row w0 M g0 g own E sz V m X w) (hs : List.Sublist own' own) : Row w0 M g0 g own' E sz V m X w := by
  refine ⟨h.1, ?_⟩
  rcases h.2 with ⟨h1, h2, h3⟩ | ⟨b, cap, cur, h1, h2, h3, h4, h5, h6, h7⟩
  · exact .inl ⟨h1, h2, h3.weaken _ hs⟩
  · exact .inr ⟨b, cap, cur, h1, h2, h3, h4, h5, h6, h7.weaken _ (hs.append_right _)⟩
theorem stepK_buildSlice_row {E : TypeId} {SZ m : Nat} {V : Value} {X : List Value} {t e : TypeId} {len : Nat} {parts : List (Nat × Operand)} {z : Value} {zl l : List Value} {sz by_ : Nat} {vs : List (Nat × Value)} (hdst : o.dst = some d) (hg : o.guard = none) (hd : Nat.ble (d + 1) n = true) (ho : o.op = .buildSlice t len parts.toArray) (hu : P.underlying t = some (.slice e)) (he : elemInfo P e = some (z, sz, by_))
    (hz : cellsOf z = some zl) (hzs : zl.length = sz) (hs : 0 < sz) (hlen : 0 < len) (hsm : len * sz ≤ 16777216) (hvs : kparts kn parts = some vs) (hf : fillL (fun i => some (i * sz, sz)) (repL len zl) vs = some l) (hrow : Row w0 M g0 g own E SZ V m X w)
    (h : ∀ b w', Row w0 M g0 g (own ++ [(b, .cells l.toArray e (0, 0))]) E SZ V m X w' → wpK P ops Q n rest ((d, .slice (some ⟨b, 0, none⟩) len len) :: kn) w') : wpK P ops Q n (o :: rest) kn w :=
  stepK_run hdst hg hd (run_buildSlice' ho hu he hz hzs hs hlen hsm hvs hf) (h _ _ (hrow.alloc _))
/-- a variable, at a place that is told -/
theorem stepK_allocW {elem : TypeId} {v : Value} {l : List Value} (hdst : o.dst = some d) (hg : o.guard = none) (hd : Nat.ble (d + 1) n = true) (ho : o.op = .alloc elem) (hz : zeroOf P elem = some v) (hl : cellsOf v = some l)
    (h : wpK P ops Q n rest ((d, .pointer (some ⟨w.heap.size, 0, none⟩)) :: kn) (w.alloc (.cells l.toArray elem))) : wpK P ops Q n (o :: rest) kn w :=
  stepK_run hdst hg hd (run_alloc ho hz hl) h
theorem does_slice_arr {S : World → Prop} {t e : TypeId} {x : Operand} {b N : Nat} (ho : o.op = .slice t x none none none) (hu : P.underlying t = some (.array N e)) (hs : sizeB P e = some 1) (hx : kev kn x = some (.pointer (some ⟨b, 0, none⟩))) (h0 : 0 < N) : Does P S kn o (.slice (some ⟨b, 0, none⟩) N N) :=
  fun ρ hρ w hw => by
    have h1 := hρ x _ hx
    have hN : N ≠ 0 := by omega
    simp [execOp, ho, h1, Instr.sliceAt, run_underlying hu, Instr.sliceBounds, Instr.sureAddr, run_sizeB hs, Addr.add]
end
theorem IsBuilder.later {T e : TypeId} {B b : Nat} {bs : List Value} {w w' : World} (h : Lib.IsBuilder T e B b bs w) (hb : Below w.heap.size w w') : Lib.IsBuilder T e B b bs w' := by
  have key : ∀ p, Lib.BuilderAt T e B b p bs w → Lib.BuilderAt T e B b p bs w' := fun p h => by
    have hlt := h.lt
    obtain ⟨hB, v, h1, h2, h3⟩ := h
    refine ⟨hB, v, by rw [hb.block b hlt]; exact h1, ?_, h3⟩
    refine h2.kept (row := none) ⟨hb.os, hb.tape, hb.output, hb.size, fun k hk _ => hb.block k hk⟩ ?_
    cases hv : v.ownBlock with
    | none => exact .inl rfl
    | some k => exact .inr (by simp)
  exact h.imp (key _) (key _)
section
variable {P : Program} {kn : Kn} {o : Oper} {w0 w : World} {M : List Nat} {g0 g : Mem} {own : List (Nat × Obj)}
/-- the bytes of an own block as a string -/
theorem does_conv_bytes {sT dT e t : TypeId} {x : Operand} {b N : Nat} {ds : List Nat} {f : Nat × Nat} (k : Nat) (ho : o.op = .convert sT dT x) (hs : P.underlying sT = some (.slice e)) (he : P.underlying e = some (.int .u8)) (hd : P.underlying dT = some .string) (hx : kev kn x = some (.slice (some ⟨b, 0, none⟩) N N))
    (hk : own[k]? = some (b, .cells (uN .u8 ds).toArray t f)) (hl : ds.length = N) : Does P (St w0 M g0 g own) kn o (.string ⟨(ds.map UInt8.ofNat).toArray⟩) :=
  fun ρ hρ w hw => by
    have h1 := hρ x _ hx
    have h2 := run_loadCells_list (P := P) w ⟨b, 0, none⟩ (uN .u8 ds) (fun j v hj => by
      rw [addr_add, Nat.zero_add]
      exact hw.cell_own k hk (by simpa using hj))
    rw [uN_length, hl] at h2
    have h3 : uN .u8 ds = (ds.map fun (x : Nat) => (x : Int)).map (Value.int .u8) := by simp [uN, Function.comp_def]
    rw [h3] at h2
    have h4 := run_bytesToString (P := P) w ⟨b, 0, none⟩ N N _ h2
    simp only [execOp, ho, h1]
    have h5 := run_convert_bytes_string (P := P) w sT dT e (some ⟨b, 0, none⟩) N N hs he hd
    rw [h4] at h5
    have h6 : (List.map (fun (x : Nat) => (x : Int)) ds).foldl (fun r n => r.push (UInt8.ofNat n.toNat)) ByteArray.empty = (⟨(ds.map UInt8.ofNat).toArray⟩ : ByteArray) := by
      rw [foldl_push_bytes]
      simp [ByteArray.empty, ByteArray.emptyWithCapacity, Function.comp_def]
      rfl
    rw [h6] at h5
    simp [h5]
end
/-! chunks of 19 digits -/
theorem dvL_append : ∀ (a b : List UInt8), dvL (a ++ b) = dvL a * 10 ^ b.length + dvL b := by
  intro a b
  induction b using snoc_ind with
  | h0 => simp [dvL]
  | h1 l c ih =>
    rw [← List.append_assoc, dvL_snoc, dvL_snoc, ih, List.length_append, List.length_singleton, Nat.pow_succ, ← Nat.mul_assoc]
    omega
theorem dvL_cons (c : UInt8) (l : List UInt8) : dvL (c :: l) = (c.toNat - 48) * 10 ^ l.length + dvL l := by
  have h := dvL_append [c] l
  have h1 : dvL [c] = c.toNat - 48 := by simp [dvL]
  rw [h1] at h
  exact h
theorem dvL_strip (l : List UInt8) : dvL (l.dropWhile (· == 48)) = dvL l := by
  induction l with
  | nil => rfl
  | cons c r ih =>
    by_cases h : c = 48
    · subst h
      rw [List.dropWhile_cons, if_pos (by decide), ih, dvL_cons]
      have : (48 : UInt8).toNat - 48 = 0 := by decide
      rw [this]
      omega
    · rw [List.dropWhile_cons, if_neg (by simpa using h)]
theorem strip_text {l : List UInt8} {W : Nat} (hd : DigL l) (hv : dvL l = W) (h0 : 0 < W) : l.dropWhile (· == 48) = decDigits W := by
  have hne : l.dropWhile (· == 48) ≠ [] := fun e => by
    have := dvL_strip l
    rw [e, hv] at this
    simp [dvL] at this
    omega
  have hh : (l.dropWhile (· == 48)).head? ≠ some 48 := by
    intro e
    have := List.head?_dropWhile_not (p := (· == (48 : UInt8))) l
    rw [e] at this
    simp at this
  have hp : PlainL (l.dropWhile (· == 48)) := ⟨hne, fun e => absurd e hh, fun c hc => hd c ((List.dropWhile_sublist _).mem hc)⟩
  rw [plainL_eq _ hp, dvL_strip, hv]
theorem pad_text {l : List UInt8} {H W : Nat} (hd : DigL l) (hl : l.length = 19) (hv : dvL l = W) (h0 : 0 < H) : decDigits H ++ l = decDigits (H * 10000000000000000000 + W) := by
  obtain ⟨p1, p2, p3⟩ := decDigits_props H
  have hp : PlainL (decDigits H ++ l) := by
    refine ⟨by simp [decDigits_ne], fun e => ?_, fun c hc => ?_⟩
    · refine absurd ?_ (p3 h0)
      cases hx : decDigits H with
      | nil => exact absurd hx (decDigits_ne H)
      | cons a r => rw [hx] at e; simpa using e
    · rw [List.mem_append] at hc
      rcases hc with hc | hc
      · exact p1 c hc
      · exact hd c hc
  have := plainL_eq _ hp
  rw [dvL_append, p2, hl, hv] at this
  exact this
/-- base 10 to the 19 -/
def pv : List Nat → Nat
  | [] => 0
  | x :: r => x + 10000000000000000000 * pv r
theorem pv_snoc (l : List Nat) (r : Nat) : pv (l ++ [r]) = pv l + 10000000000000000000 ^ l.length * r := by
  induction l with
  | nil => simp [pv]
  | cons x l ih =>
    simp only [List.cons_append, pv, ih, List.length_cons, Nat.pow_succ]
    grind
theorem pv_drop {l : List Nat} {k x : Nat} (h : l[k]? = some x) : pv (l.drop k) = x + 10000000000000000000 * pv (l.drop (k + 1)) := by
  rw [drop_cons_get h]
  rfl
theorem parts_len {N X L k : Nat} (hX : 0 < X) (h : X * 10000000000000000000 ^ k ≤ N) (hN : N < 18446744073709551616 ^ L) : k ≤ 2 * L := by
  rcases Nat.le_total k (2 * L) with h1 | h1
  · exact h1
  · have h2 : 10000000000000000000 ^ (2 * L) ≤ 10000000000000000000 ^ k := Nat.pow_le_pow_right (by decide) h1
    have h3 : 18446744073709551616 ^ L ≤ 10000000000000000000 ^ (2 * L) := by
      rw [Nat.pow_mul]
      exact Nat.pow_le_pow_left (by decide) L
    have h4 := Nat.mul_le_mul_right (10000000000000000000 ^ k) hX
    omega
end Go.Proofs.Vc

namespace Go.Proofs.Vc
open Go Go.Lib
set_option linter.unusedVariables false
theorem digit_lt {Y j : Nat} (hY : Y < 10 ^ j) (h : 0 < j) : Y / 10 < 10 ^ (j - 1) := by
  obtain ⟨i, rfl⟩ : ∃ i, j = i + 1 := ⟨j - 1, by omega⟩
  rw [Nat.pow_succ] at hY
  rw [Nat.add_sub_cancel]
  omega
theorem drop_set_nat {ds : List Nat} {j z : Nat} (h : j < ds.length) : (ds.set j z).drop j = z :: ds.drop (j + 1) := drop_set_ge h
theorem digit_ok {ds : List Nat} {j Y : Nat} (hdd : ∀ d ∈ ds.drop j, 48 ≤ d ∧ d ≤ 57) (h : 0 < j) : ∀ d ∈ (ds.set (j - 1) (48 + Y % 10)).drop (j - 1), 48 ≤ d ∧ d ≤ 57 := by
  intro d hd
  rcases Nat.lt_or_ge (j - 1) ds.length with hl | hl
  · rw [drop_set_nat hl, show j - 1 + 1 = j by omega] at hd
    rcases List.mem_cons.1 hd with hd | hd
    · omega
    · exact hdd d hd
  · rw [List.drop_eq_nil_of_le (by simp; omega)] at hd
    cases hd
theorem digit_put {ds : List Nat} {j Y x : Nat} (hdv : Y * 10 ^ (19 - j) + dvL ((ds.drop j).map UInt8.ofNat) = x) (hdd : ∀ d ∈ ds.drop j, 48 ≤ d ∧ d ≤ 57) (h : 0 < j) (hj : j ≤ 19) (hl : ds.length = 19) :
    Y / 10 * 10 ^ (19 - (j - 1)) + dvL (((ds.set (j - 1) (48 + Y % 10)).drop (j - 1)).map UInt8.ofNat) = x := by
  rw [drop_set_nat (by omega), show j - 1 + 1 = j by omega, List.map_cons, dvL_cons, u8_dig (by omega), List.length_map, List.length_drop, hl, show 19 - (j - 1) = 19 - j + 1 by omega, Nat.pow_succ, ← hdv]
  generalize dvL ((ds.drop j).map UInt8.ofNat) = v
  generalize 10 ^ (19 - j) = p
  have h1 := Nat.div_add_mod Y 10
  have h2 : 48 + Y % 10 - 48 = Y % 10 := by omega
  rw [h2]
  generalize Y / 10 = a at *
  generalize Y % 10 = b at *
  subst h1
  grind
theorem digL_map {ds : List Nat} (hdd : ∀ d ∈ ds, 48 ≤ d ∧ d ≤ 57) : DigL (ds.map UInt8.ofNat) := by
  intro c hc
  obtain ⟨d, hd, rfl⟩ := List.mem_map.1 hc
  have := hdd d hd
  have e : (UInt8.ofNat d).toNat = d := by
    show d % 2 ^ 8 = d
    omega
  rw [e]
  exact this
theorem strip_size {ds : List Nat} (hl : ds.length = 19) : (⟨((Lb ⟨(ds.map UInt8.ofNat).toArray⟩).dropWhile (· == 48)).toArray⟩ : ByteArray).size ≤ 19 := by
  rw [← Lb_length, Lb_mk, Lb_mk]
  have := (List.dropWhile_sublist (l := ds.map UInt8.ofNat) (· == (48 : UInt8))).length_le
  rw [List.length_map, hl] at this
  exact this
theorem pv_pos {ps : List Nat} (hl : ps.getLast? ≠ some 0) : ∀ {k : Nat}, k < ps.length → 0 < pv (ps.drop k) := by
  intro k hk
  obtain ⟨l, r, rfl⟩ : ∃ l r, ps = l ++ [r] := ⟨ps.dropLast, ps.getLast (fun e => by subst e; simp at hk), (List.dropLast_concat_getLast _).symm⟩
  rw [List.getLast?_concat] at hl
  have hr : r ≠ 0 := fun e => hl (by rw [e])
  rw [List.length_append, List.length_singleton] at hk
  rw [List.drop_append_of_le_length (by omega), pv_snoc]
  have h1 : 0 < 10000000000000000000 ^ (l.drop k).length := Nat.pow_pos (by decide)
  have := Nat.mul_pos h1 (Nat.pos_of_ne_zero hr)
  omega
theorem text_first {ps : List Nat} {acc : List UInt8} {ds : List Nat} {k x : Nat} (hacc : acc = (if k = ps.length then [] else decDigits (pv (ps.drop k)))) (hd : DigL (ds.map UInt8.ofNat)) (hv : dvL (ds.map UInt8.ofNat) = x) (hx : ps[k - 1]? = some x) (hk : 0 < k ∧ k = ps.length) (hl : ps.getLast? ≠ some 0) :
    acc ++ Lb ⟨((Lb ⟨(ds.map UInt8.ofNat).toArray⟩).dropWhile (· == 48)).toArray⟩ = decDigits (pv (ps.drop (k - 1))) := by
  rw [if_pos hk.2] at hacc
  subst hacc
  rw [pv_drop hx, show k - 1 + 1 = k by omega, List.drop_eq_nil_of_le (by omega), Lb_mk, Lb_mk, List.nil_append]
  have hx0 : 0 < x := Nat.pos_of_ne_zero fun e => hl (by rw [List.getLast?_eq_getElem?, ← hk.2, hx, e])
  exact strip_text hd hv hx0
theorem text_next {ps : List Nat} {acc : List UInt8} {ds : List Nat} {k x : Nat} (hacc : acc = (if k = ps.length then [] else decDigits (pv (ps.drop k)))) (hd : DigL (ds.map UInt8.ofNat)) (hlen : (ds.map UInt8.ofNat).length = 19) (hv : dvL (ds.map UInt8.ofNat) = x) (hx : ps[k - 1]? = some x) (hk : k ≠ ps.length) (hk0 : 0 < k ∧ k ≤ ps.length) (hl : ps.getLast? ≠ some 0) :
    acc ++ Lb ⟨(ds.map UInt8.ofNat).toArray⟩ = decDigits (pv (ps.drop (k - 1))) := by
  rw [if_neg hk] at hacc
  subst hacc
  rw [pv_drop hx, show k - 1 + 1 = k by omega, Lb_mk, pad_text hd hlen hv (pv_pos hl (by omega))]
  congr 1
  omega
theorem decDigits_len : ∀ (m N : Nat), N < 10 ^ (m + 1) → (decDigits N).length ≤ m + 1
  | 0, N, h => by rw [decDigits_one (by simpa using h)]; simp
  | m + 1, N, h => by
    rw [decDigits]
    by_cases h1 : N < 10
    · rw [dif_pos h1]; simp
    · rw [dif_neg h1, List.length_append, List.length_singleton]
      rw [Nat.pow_succ] at h
      have := decDigits_len m (N / 10) (by omega)
      omega
theorem pv_lt {ps : List Nat} (h : ∀ d ∈ ps, d < 10000000000000000000) : pv ps < 10 ^ (19 * ps.length) := by
  induction ps with
  | nil => simp [pv]
  | cons x r ih =>
    have h1 := h x (by simp)
    have h2 := ih (fun d hd => h d (by simp [hd]))
    rw [List.length_cons, show 19 * (r.length + 1) = 19 * r.length + 19 by omega, Nat.pow_add]
    have h3 : (10 : Nat) ^ 19 = 10000000000000000000 := by decide
    rw [h3]
    simp only [pv]
    generalize 10 ^ (19 * r.length) = p at *
    omega
theorem acc_len {ps : List Nat} {acc : List UInt8} {k : Nat} (hacc : acc = (if k = ps.length then [] else decDigits (pv (ps.drop k)))) (h : ∀ d ∈ ps, d < 10000000000000000000) (hk : k ≤ ps.length) : acc.length ≤ 19 * ps.length := by
  by_cases h1 : k = ps.length
  · rw [if_pos h1] at hacc
    subst hacc
    simp
  · rw [if_neg h1] at hacc
    subst hacc
    have h2 := pv_lt (ps := ps.drop k) (fun d hd => h d (List.mem_of_mem_drop hd))
    rw [List.length_drop] at h2
    have := decDigits_len (19 * (ps.length - k) - 1) _ (by rw [show 19 * (ps.length - k) - 1 + 1 = 19 * (ps.length - k) by omega]; exact h2)
    omega
end Go.Proofs.Vc

namespace Go.Proofs.Vc
open Go Go.Lib Go.RowKit Go.Sort
set_option linter.unusedVariables false
/-- the table of powers of ten lies among what is kept for good -/
def TabG (P : Program) (g : Mem) : Prop := ∀ w, Agree g w → Lib.TabIs P w "internal/strconv.uint64pow10" .u64 Lib.pow10Tab
theorem TabG.mono {P : Program} {g g' : Mem} (h : TabG P g) (hle : g.le g') : TabG P g' := fun w hw => h w fun b o hb => hw b o (hle b o hb)
theorem St.of_below {g : Mem} {w w' : World} (h : Agree g w) (hb : Below w.heap.size w w') : St w [] g g [] w' := (St.init h).later hb
theorem below_grow (w : World) (k : Nat) (os : Array Obj) : Below w.heap.size w (grow (w.drewN k) os) := by
  refine ⟨rfl, rfl, rfl, ?_, fun i hi => ?_⟩
  · show w.heap.size ≤ (w.heap ++ os).size
    simp
  · show (w.heap ++ os)[i]? = w.heap[i]?
    rw [Array.getElem?_append_left hi]
theorem str_append (a b : List UInt8) : (⟨a.toArray⟩ : ByteArray) ++ ⟨b.toArray⟩ = ⟨(a ++ b).toArray⟩ := by
  apply ByteArray.ext
  simp [ByteArray.data_append]
theorem itoa_one_den {r : Rat} (h : r.den = 1) : ratL r = itoa r.num := by simp [ratL, h]
theorem ratS_of {r : Rat} {l : List UInt8} (h : l = ratL r) : (⟨l.toArray⟩ : ByteArray) = ratS r := by rw [h]; rfl
theorem itoa_den (r : Rat) : itoa (r.den : Int) = decDigits r.den := itoa_nonneg r.den
theorem does_add_L {P : Program} {S : World → Prop} {kn : Kn} {o : Oper} {t yt : TypeId} {x y : Operand} {a b : List UInt8} (ho : o.op = .binOp .add t x y yt) (hx : kev kn x = some (.string ⟨a.toArray⟩)) (hy : kev kn y = some (.string ⟨b.toArray⟩)) (hl : a.length + b.length ≤ 9223372036854775807) : Does P S kn o (.string ⟨(a ++ b).toArray⟩) :=
  (does_add_string ho hx hy (by rw [← Lb_length, ← Lb_length, Lb_mk, Lb_mk]; exact hl)).cast (by rw [str_append])
theorem len_small {N : Nat} (h : N < 2147483648) : (decDigits N).length ≤ 10 := decDigits_len 9 N (by omega)
theorem itoa_len (n : Int) : (itoa n).length ≤ (decDigits n.natAbs).length + 1 := by
  unfold itoa
  split
  · simp
  · rename_i h
    rw [show n.toNat = n.natAbs by omega]
    omega
theorem len_big {N k : Nat} (h : N < 18446744073709551616 ^ k) (hk : 0 < k) : (decDigits N).length ≤ 20 * k := by
  have h1 : 18446744073709551616 ^ k ≤ 10 ^ (20 * k) := by
    rw [Nat.pow_mul]
    exact Nat.pow_le_pow_left (by decide) k
  have := decDigits_len (20 * k - 1) N (by rw [show 20 * k - 1 + 1 = 20 * k by omega]; exact Nat.lt_of_lt_of_le h h1)
  omega
theorem ratL_small {r : Rat} (h : smallR r) : (ratL r).length ≤ 22 := by
  have h1 := itoa_len r.num
  have h2 := len_small h.1
  have h3 := len_small h.2
  unfold ratL
  rw [List.length_append]
  split <;> simp <;> omega
theorem ratL_cut (r : Rat) : ratL r = (if r.num < 0 then 45 :: decDigits r.num.natAbs else decDigits r.num.natAbs) ++ (if r.den = 1 then [] else 47 :: decDigits r.den) := by rw [ratL, itoa_num]
/-- cell i of block b, kept for good -/
def GCell (g : Mem) (b i : Nat) (v : Value) : Prop := gcell g b i = some v
theorem GCell.mono {g g' : Mem} {b i : Nat} {v : Value} (h : GCell g b i v) (hle : g.le g') : GCell g' b i v := gcell_le hle h
end Go.Proofs.Vc

namespace Go.Proofs.Vc
open Go Go.Lib
set_option linter.unusedVariables false
def Sz (k : Nat) (r : Rat) : Prop := r.num.natAbs < 10 ^ k ∧ r.den < 10 ^ k
theorem Sz.fit {k : Nat} {r : Rat} (h : Sz k r) (hk : k ≤ 1099511627776) : Fit r := fit_of h.1 h.2 hk
theorem Sz.mono {k m : Nat} {r : Rat} (h : Sz k r) (hk : k ≤ m) : Sz m r := ⟨Nat.lt_of_lt_of_le h.1 (Nat.pow_le_pow_right (by decide) hk), Nat.lt_of_lt_of_le h.2 (Nat.pow_le_pow_right (by decide) hk)⟩
theorem mkRat_le {n : Int} {d : Nat} (hd : d ≠ 0) : (mkRat n d).num.natAbs ≤ n.natAbs ∧ (mkRat n d).den ≤ d := by
  obtain ⟨m, hm, h1, h2⟩ := Rat.mkRat_num_den (n := n) (n' := (mkRat n d).num) (d' := (mkRat n d).den) (z' := (mkRat n d).den_nz) (c := (mkRat n d).reduced) hd rfl
  have hm1 : 1 ≤ m := by omega
  refine ⟨?_, ?_⟩
  · have h3 : n.natAbs = (mkRat n d).num.natAbs * m := by
      conv => lhs; rw [h1]
      rw [Int.natAbs_mul, Int.natAbs_natCast]
    rw [h3]
    exact Nat.le_mul_of_pos_right _ hm1
  · conv => rhs; rw [h2]
    exact Nat.le_mul_of_pos_right _ hm1
theorem Sz.add {k m : Nat} {r x : Rat} (h : Sz k r) (hx : Sz m x) : Sz (k + m + 1) (r + x) := by
  rw [← rat_add]
  obtain ⟨h1, h2⟩ := mkRat_le (n := r.num * (x.den : Int) + x.num * (r.den : Int)) (d := r.den * x.den) (Nat.mul_ne_zero r.den_nz x.den_nz)
  have e1 : (r.num * (x.den : Int) + x.num * (r.den : Int)).natAbs ≤ r.num.natAbs * x.den + x.num.natAbs * r.den := by
    refine Nat.le_trans (Int.natAbs_add_le _ _) ?_
    rw [Int.natAbs_mul, Int.natAbs_mul, Int.natAbs_natCast, Int.natAbs_natCast]
    exact Nat.le_refl _
  have e2 : r.num.natAbs * x.den < 10 ^ (k + m) := by rw [Nat.pow_add]; exact Nat.mul_lt_mul'' h.1 hx.2
  have e3 : x.num.natAbs * r.den < 10 ^ (k + m) := by rw [Nat.add_comm k m, Nat.pow_add]; exact Nat.mul_lt_mul'' hx.1 h.2
  have e4 : r.den * x.den < 10 ^ (k + m) := by rw [Nat.pow_add]; exact Nat.mul_lt_mul'' h.2 hx.2
  refine ⟨?_, ?_⟩
  · rw [Nat.pow_succ]
    omega
  · rw [Nat.pow_succ]
    omega
theorem Sz.mul {k m : Nat} {r x : Rat} (h : Sz k r) (hx : Sz m x) : Sz (k + m) (r * x) := by
  rw [← rat_mul]
  obtain ⟨h1, h2⟩ := mkRat_le (n := r.num * x.num) (d := r.den * x.den) (Nat.mul_ne_zero r.den_nz x.den_nz)
  rw [Int.natAbs_mul] at h1
  have e2 : r.num.natAbs * x.num.natAbs < 10 ^ (k + m) := by rw [Nat.pow_add]; exact Nat.mul_lt_mul'' h.1 hx.1
  have e4 : r.den * x.den < 10 ^ (k + m) := by rw [Nat.pow_add]; exact Nat.mul_lt_mul'' h.2 hx.2
  exact ⟨Nat.lt_of_le_of_lt h1 e2, Nat.lt_of_le_of_lt h2 e4⟩
theorem Sz.neg {k : Nat} {r : Rat} (h : Sz k r) : Sz k (-r) := ⟨by rw [Rat.neg_num, Int.natAbs_neg]; exact h.1, by rw [Rat.neg_den]; exact h.2⟩
theorem Sz.sub {k m : Nat} {r x : Rat} (h : Sz k r) (hx : Sz m x) : Sz (k + m + 1) (r - x) := by
  rw [Rat.sub_eq_add_neg]
  exact h.add hx.neg
theorem Sz.inv {k : Nat} {r : Rat} (h : Sz k r) : Sz k r⁻¹ := by
  by_cases h0 : r.num = 0
  · have : r = 0 := rat_zero_iff.1 h0
    subst this
    rw [Rat.inv_zero]
    exact h
  · have h1 := mkRat_num (b := decide (r.num < 0)) (N := r.den) (M := r.num.natAbs) (by omega) (by rw [Nat.gcd_comm]; exact r.reduced)
    rw [rat_inv] at h1
    exact ⟨by rw [h1.1, sg_natAbs]; exact h.2, by rw [h1.2]; exact h.1⟩
theorem Sz.div {k m : Nat} {r x : Rat} (h : Sz k r) (hx : Sz m x) : Sz (k + m) (r / x) := by
  rw [Rat.div_def]
  exact h.mul hx.inv
theorem getR_sz (s : ByteArray) : Sz (s.size + 1) (getR s) := by
  unfold getR
  cases h : readR s with
  | none => exact ⟨Nat.pow_pos (by decide), Nat.one_lt_pow (by omega) (by decide)⟩
  | some r =>
    obtain ⟨h1, h2⟩ := text_fit (readR_is h)
    exact ⟨Nat.lt_of_lt_of_le h1 (Nat.pow_le_pow_right (by decide) (by omega)), h2⟩
theorem getR_text (r : Rat) : getR (ratS r) = r := by
  unfold getR
  rw [readR_text]
  rfl
theorem ratS_size {k : Nat} {r : Rat} (h : Sz k r) : (ratS r).size ≤ 2 * k + 2 := by
  have hk : 0 < k := Nat.pos_of_ne_zero fun e => by
    subst e
    have := h.2
    have := r.den_nz
    simp at *
    omega
  have h1 := itoa_len r.num
  have h2 := decDigits_len (k - 1) r.num.natAbs (by rw [show k - 1 + 1 = k by omega]; exact h.1)
  have h3 := decDigits_len (k - 1) r.den (by rw [show k - 1 + 1 = k by omega]; exact h.2)
  rw [← Lb_length]
  show (ratL r).length ≤ _
  unfold ratL
  rw [List.length_append]
  split <;> simp <;> omega
theorem ratS_inj {a b : Rat} (h : ratS a = ratS b) : a = b := by
  have h1 := getR_text a
  rw [h, getR_text] at h1
  exact h1.symm
end Go.Proofs.Vc
namespace Go.Proofs.Vc
open Go Go.Lib
/-! texts of small numbers -/
theorem ratS_eval {r : Rat} {n : Int} {d : Nat} (hn : r.num = n) (hd : r.den = d) : ratS r = ⟨(itoa n ++ if d = 1 then [] else 47 :: decDigits d).toArray⟩ := by
  subst hn hd
  rfl
theorem getR_eval {s : ByteArray} {r : Rat} (h : ratS r = s) : getR s = r := by rw [← h, getR_text]
theorem t1 : ratS 1 = ⟨#[49]⟩ := by rw [ratS_eval (n := 1) (d := 1) rfl rfl]; simp [itoa, decDigits_one]
theorem t3 : ratS 3 = ⟨#[51]⟩ := by rw [ratS_eval (n := 3) (d := 1) rfl rfl]; simp [itoa, decDigits_one]
theorem t1_2 : ratS (1 / 2) = ⟨#[49, 47, 50]⟩ := by rw [ratS_eval (n := 1) (d := 2) (by decide +kernel) (by decide +kernel)]; simp [itoa, decDigits_one]
theorem t1_3 : ratS (1 / 3) = ⟨#[49, 47, 51]⟩ := by rw [ratS_eval (n := 1) (d := 3) (by decide +kernel) (by decide +kernel)]; simp [itoa, decDigits_one]
theorem tm2_3 : ratS (-2 / 3) = ⟨#[45, 50, 47, 51]⟩ := by rw [ratS_eval (n := -2) (d := 3) (by decide +kernel) (by decide +kernel)]; simp [itoa, decDigits_one]
theorem t5_6 : ratS (1 / 2 + 1 / 3) = ⟨#[53, 47, 54]⟩ := by rw [ratS_eval (n := 5) (d := 6) (by decide +kernel) (by decide +kernel)]; simp [itoa, decDigits_one]
theorem tm2 : ratS (-2 / 3 * 3) = ⟨#[45, 50]⟩ := by rw [ratS_eval (n := -2) (d := 1) (by decide +kernel) (by decide +kernel)]; simp [itoa, decDigits_one]
theorem tm3_2 : ratS (-((6 : Rat) / 4)) = ⟨#[45, 51, 47, 50]⟩ := by rw [ratS_eval (n := -3) (d := 2) (by decide +kernel) (by decide +kernel)]; simp [itoa, decDigits_one]
end Go.Proofs.Vc
namespace Go.Proofs.Vc
open Go
theorem prefix_iff {s : ByteArray} {c : UInt8} (h : 0 < s.size) : s.extract 0 1 = ⟨#[c]⟩ ↔ (0 < s.size ∧ bt s 0 = c.toNat) := by
  have h1 : bt (s.extract 0 1) 0 = bt s 0 := bt_extract (by omega) (by omega)
  constructor
  · intro e
    refine ⟨h, ?_⟩
    rw [← h1, e]
    rfl
  · intro e
    refine bytes_ext (by rw [ByteArray.size_extract, show (⟨#[c]⟩ : ByteArray).size = 1 from rfl]; omega) fun i hi => ?_
    rw [ByteArray.size_extract] at hi
    obtain rfl : i = 0 := by omega
    rw [h1, e.2]
    rfl
end Go.Proofs.Vc
namespace Go.Proofs.Vc
open Go
instance (s : ByteArray) : Decidable (AllDig s) := inferInstanceAs (Decidable (∀ i, i < s.size → (48 ≤ bt s i ∧ bt s i ≤ 57)))
/-- what is left behind the prefix c, and whether it was there -/
def Cut1 (s : ByteArray) (c : UInt8) (t : ByteArray) (ok : Bool) : Prop := (ok = true ∧ (0 < s.size ∧ bt s 0 = c.toNat) ∧ t = s.extract 1 s.size) ∨ (ok = false ∧ ¬ (0 < s.size ∧ bt s 0 = c.toNat) ∧ t = s)
end Go.Proofs.Vc
namespace Go.Proofs.Vc
open Go
theorem Does.str {P : Program} {S : World → Prop} {kn : Kn} {o : Oper} {a b : ByteArray} (h : Does P S kn o (.string a)) (e : a = b) : Does P S kn o (.string b) := e ▸ h
end Go.Proofs.Vc
namespace Go.Proofs.Vc
open Go
theorem Does.yes {P : Program} {S : World → Prop} {kn : Kn} {o : Oper} {p : Prop} [Decidable p] (h : Does P S kn o (.bool (decide p))) (hp : p) : Does P S kn o (.bool true) := by
  rw [decide_eq_true hp] at h
  exact h
end Go.Proofs.Vc
namespace Go.Proofs.Vc
open Go Go.Lib
theorem Does.no {P : Program} {S : World → Prop} {kn : Kn} {o : Oper} {p : Prop} [Decidable p] (h : Does P S kn o (.bool (decide p))) (hp : ¬ p) : Does P S kn o (.bool false) := by
  rw [decide_eq_false hp] at h
  exact h
theorem t0 : ratS 0 = ⟨#[48]⟩ := by rw [ratS_eval (n := 0) (d := 1) rfl rfl]; simp [itoa, decDigits_one]
theorem rat_shift (x y z : Rat) : x + z - (y + z) = x - y := by grind
theorem rat_back (x y : Rat) : x - y + y = x + 0 := by grind
theorem ratS_lt {k : Nat} {r : Rat} (h : Sz k r) (hk : k ≤ 100000000) : (ratS r).size < 1073741824 := by
  have := ratS_size h
  omega
end Go.Proofs.Vc

namespace Go.Proofs.Vc
open Go Go.RowKit
set_option linter.unusedVariables false
def hval : List Nat → Nat
  | [] => 0
  | x :: r => x + 4294967296 * hval r
theorem h_val_append (a b : List Nat) : hval (a ++ b) = hval a + 4294967296 ^ a.length * hval b := by
  induction a with
  | nil => simp [hval]
  | cons x r ih =>
    simp only [List.cons_append, hval, ih, List.length_cons, Nat.pow_succ]
    rw [Nat.mul_add, ← Nat.add_assoc, ← Nat.mul_assoc, Nat.mul_comm (4294967296 ^ r.length)]
def HWords (ws : List Nat) : Prop := ∀ x ∈ ws, x < 4294967296
theorem HWords.nil : HWords [] := fun _ h => by cases h
theorem HWords.cons {x : Nat} {r : List Nat} (h : x < 4294967296) (hr : HWords r) : HWords (x :: r) := fun y hy => by
  rcases List.mem_cons.1 hy with rfl | hy
  · exact h
  · exact hr y hy
theorem HWords.append {a b : List Nat} (h : HWords a) (hb : HWords b) : HWords (a ++ b) := fun y hy => by
  rcases List.mem_append.1 hy with hy | hy
  · exact h y hy
  · exact hb y hy
theorem HWords.get {ws : List Nat} (h : HWords ws) {j x : Nat} (hj : ws[j]? = some x) : x < 4294967296 := h x (List.mem_of_getElem? hj)
theorem HWords.set {ws : List Nat} (h : HWords ws) {j x : Nat} (hx : x < 4294967296) : HWords (ws.set j x) := fun y hy => by
  rcases List.mem_or_eq_of_mem_set hy with hy | rfl
  · exact h y hy
  · exact hx
theorem HWords.take {ws : List Nat} (h : HWords ws) (n : Nat) : HWords (ws.take n) := fun y hy => h y (List.mem_of_mem_take hy)
theorem HWords.drop {ws : List Nat} (h : HWords ws) (n : Nat) : HWords (ws.drop n) := fun y hy => h y (List.mem_of_mem_drop hy)
theorem HWords.rep (n : Nat) : HWords (List.replicate n 0) := fun y hy => by rw [(List.mem_replicate.1 hy).2]; omega
theorem h_val_lt {ws : List Nat} (h : HWords ws) : hval ws < 4294967296 ^ ws.length := by
  induction ws with
  | nil => simp [hval]
  | cons x r ih =>
    have h1 := ih fun y hy => h y (List.mem_cons_of_mem _ hy)
    have h2 := h x (List.mem_cons_self ..)
    simp only [hval, List.length_cons, Nat.pow_succ]
    generalize 4294967296 ^ r.length = p at *
    omega
theorem h_val_rep (n : Nat) : hval (List.replicate n 0) = 0 := by
  induction n with
  | zero => rfl
  | succ n ih => simp [List.replicate_succ, hval, ih]
def HTrim (ws : List Nat) : Prop := ws.getLast? ≠ some 0
theorem h_trimmed_lower {ws : List Nat} (ht : HTrim ws) (hn : 0 < ws.length) : 4294967296 ^ (ws.length - 1) ≤ hval ws := by
  have h1 : ws = ws.dropLast ++ [ws.getLast (by intro e; subst e; simp at hn)] := (List.dropLast_concat_getLast _).symm
  have h2 : ws.getLast (by intro e; subst e; simp at hn) ≠ 0 := by
    intro e
    apply ht
    rw [List.getLast?_eq_some_getLast (by intro e; subst e; simp at hn), e]
  rw [h1, h_val_append]
  simp only [List.length_append, List.length_dropLast, List.length_singleton, hval, Nat.mul_zero, Nat.add_zero]
  have h3 : ws.length - 1 + 1 - 1 = ws.length - 1 := by omega
  rw [h3]
  have h4 : 1 ≤ ws.getLast (by intro e; subst e; simp at hn) := Nat.one_le_iff_ne_zero.2 h2
  exact Nat.le_trans (Nat.le_mul_of_pos_right _ h4) (Nat.le_add_left _ _)
theorem h_val_pos {ws : List Nat} (ht : HTrim ws) (hn : 0 < ws.length) : 0 < hval ws := Nat.lt_of_lt_of_le (Nat.pow_pos (by decide)) (h_trimmed_lower ht hn)
theorem h_val_zero_iff {ws : List Nat} (ht : HTrim ws) : hval ws = 0 ↔ ws = [] := by
  constructor
  · intro h
    cases ws with
    | nil => rfl
    | cons x r => have := h_val_pos ht (by simp); omega
  · rintro rfl; rfl
theorem h_trimmed_len_lt {a b : List Nat} (ha : HWords a) (hb : HTrim b) (h : a.length < b.length) : hval a < hval b := by
  have h1 := h_val_lt ha
  have h2 := h_trimmed_lower hb (by omega)
  exact Nat.lt_of_lt_of_le (Nat.lt_of_lt_of_le h1 (Nat.pow_le_pow_right (by decide) (by omega))) h2
def IsHat (g : Mem) (A : Option Addr) (n : Nat) (N : Nat) : Prop := ∃ ws, SlN g .u32 A n ws ∧ HWords ws ∧ HTrim ws ∧ hval ws = N
theorem IsHat.mono {g g' : Mem} {A : Option Addr} {n N : Nat} (h : IsHat g A n N) (hle : g.le g') : IsHat g' A n N :=
  let ⟨ws, h1, h2⟩ := h
  ⟨ws, h1.mono hle, h2⟩
theorem IsHat.nil (g : Mem) : IsHat g none 0 0 := ⟨[], SlN.nil g .u32, HWords.nil, by simp [HTrim], rfl⟩
theorem IsHat.zero_iff {g : Mem} {A : Option Addr} {n N : Nat} (h : IsHat g A n N) : n = 0 ↔ N = 0 := by
  obtain ⟨ws, h1, h2, h3, h4⟩ := h
  rw [← h4, h_val_zero_iff h3, ← h1.1]
  simp
theorem IsHat.lt {g : Mem} {A : Option Addr} {n N : Nat} (h : IsHat g A n N) : N < 4294967296 ^ n := by
  obtain ⟨ws, h1, h2, h3, h4⟩ := h
  rw [← h4, ← h1.1]
  exact h_val_lt h2
theorem IsHat.le {g : Mem} {A : Option Addr} {n N : Nat} (h : IsHat g A n N) (hn : 0 < n) : 4294967296 ^ (n - 1) ≤ N := by
  obtain ⟨ws, h1, h2, h3, h4⟩ := h
  rw [← h4, ← h1.1]
  exact h_trimmed_lower h3 (by rw [h1.1]; exact hn)
theorem IsHat.len {g : Mem} {A : Option Addr} {n N k : Nat} (h : IsHat g A n N) (hk : N < 4294967296 ^ k) : n ≤ k := by
  rcases Nat.eq_zero_or_pos n with h0 | h0
  · omega
  · have h1 := h.le h0
    have h2 : n - 1 < k := (Nat.pow_lt_pow_iff_right (by decide)).1 (Nat.lt_of_le_of_lt h1 hk)
    omega
theorem h_val_take_zero {ws : List Nat} {m : Nat} (hm : 0 < m) (h : ws[m - 1]? = some 0) : hval (ws.take (m - 1)) = hval (ws.take m) := by
  have h1 := take_succ_get h
  rw [Nat.sub_add_cancel hm] at h1
  rw [h1, h_val_append]
  simp [hval]
theorem IsHat.of_take {g : Mem} {A : Option Addr} {n m : Nat} {ws : List Nat} (hs : SlN g .u32 A n ws) (hw : HWords ws) (hm : m ≤ n) (hlast : m = 0 ∨ ∃ x, ws[m - 1]? = some x ∧ x ≠ 0) : IsHat g A m (hval (ws.take m)) := by
  refine ⟨ws.take m, hs.take hm, hw.take m, ?_, rfl⟩
  unfold HTrim
  rcases hlast with rfl | ⟨x, hx, hne⟩
  · simp
  · rcases Nat.eq_zero_or_pos m with h0 | h0
    · subst h0; simp
    · rw [getLast_take (by rw [hs.1]; exact hm) h0, hx]
      simpa using hne
theorem h_val_take_succ {ws : List Nat} {i x : Nat} (h : ws[i]? = some x) : hval (ws.take (i + 1)) = hval (ws.take i) + 4294967296 ^ i * x := by
  have hl : i < ws.length := by
    rcases Nat.lt_or_ge i ws.length with h' | h'
    · exact h'
    · rw [List.getElem?_eq_none h'] at h; cases h
  rw [take_succ_get h, h_val_append]
  simp only [hval, List.length_take, Nat.min_eq_left (Nat.le_of_lt hl), Nat.mul_zero, Nat.add_zero]
theorem h_val_take_past {ws : List Nat} {i : Nat} (h : ws.length ≤ i) : hval (ws.take (i + 1)) = hval (ws.take i) := by
  rw [List.take_of_length_le h, List.take_of_length_le (by omega)]
theorem h_val_take_set {ws : List Nat} {i z : Nat} (h : i < ws.length) : hval ((ws.set i z).take (i + 1)) = hval (ws.take i) + 4294967296 ^ i * z := by
  rw [h_val_take_succ (x := z) (by rw [List.getElem?_set_self h]), take_set_le]
theorem h_val_all {ws : List Nat} {n : Nat} (h : ws.length ≤ n) : hval (ws.take n) = hval ws := by rw [List.take_of_length_le h]
theorem h_val_split (ws : List Nat) (k : Nat) (h : k ≤ ws.length) : hval ws = hval (ws.take k) + 4294967296 ^ k * hval (ws.drop k) := by
  have h1 := List.take_append_drop k ws
  rw [← h1, h_val_append, List.length_take, Nat.min_eq_left h, h1]
theorem h_words_lt {xs ys : List Nat} {k x y : Nat} (hl : xs.length = ys.length) (hx : HWords xs) (hxk : xs[k]? = some x) (hyk : ys[k]? = some y) (hd : xs.drop (k + 1) = ys.drop (k + 1)) (h : x < y) : hval xs < hval ys := by
  have hk : k < xs.length := by
    rcases Nat.lt_or_ge k xs.length with h' | h'
    · exact h'
    · rw [List.getElem?_eq_none h'] at hxk; cases hxk
  rw [h_val_split xs k (by omega), h_val_split ys k (by omega), drop_cons_get hxk, drop_cons_get hyk, hd]
  have h1 := h_val_lt (hx.take k)
  rw [List.length_take, Nat.min_eq_left (by omega)] at h1
  simp only [hval]
  generalize 4294967296 ^ k = p at *
  generalize hval (ys.drop (k + 1)) = r
  have h2 : p * (x + 4294967296 * r) + p ≤ p * (y + 4294967296 * r) := by
    rw [← Nat.mul_succ]
    exact Nat.mul_le_mul_left _ (by omega)
  omega
theorem h_sum_step {i x y c A X Y p : Nat} (h : A + c * p = X + Y) : A + p * ((x + y + c) % 4294967296) + (x + y + c) / 4294967296 * (p * 4294967296) = X + p * x + (Y + p * y) := by
  have h1 := Nat.mod_add_div (x + y + c) 4294967296
  generalize (x + y + c) % 4294967296 = z at *
  generalize (x + y + c) / 4294967296 = q at *
  have h2 : p * z + q * (p * 4294967296) = p * (z + 4294967296 * q) := by grind
  have h3 : p * (x + y + c) = p * x + p * y + c * p := by grind
  rw [Nat.add_assoc, h2, h1, h3]
  omega
theorem h_less_step {x y c A X Y p : Nat} (hx : x < 4294967296) (hy : y < 4294967296) (hc : c ≤ 1) (h : A + Y = X + c * p) :
    A + p * ((x + 4294967296 - y - c) % 4294967296) + (Y + p * y) = X + p * x + (if x < y + c then 1 else 0) * (p * 4294967296) := by
  by_cases hlt : x < y + c
  · rw [if_pos hlt, Nat.mod_eq_of_lt (by omega)]
    have h1 : x + 4294967296 - y - c + y + c = x + 4294967296 := by omega
    generalize x + 4294967296 - y - c = z at *
    have h2 : p * z + p * y + c * p = p * x + p * 4294967296 := by
      have : p * z + p * y + c * p = p * (z + y + c) := by grind
      rw [this, h1]
      grind
    omega
  · rw [if_neg hlt]
    have h0 : (x + 4294967296 - y - c) % 4294967296 = x - y - c := by omega
    rw [h0]
    have h1 : x - y - c + y + c = x := by omega
    generalize x - y - c = z at *
    have h2 : p * z + p * y + c * p = p * x := by
      have : p * z + p * y + c * p = p * (z + y + c) := by grind
      rw [this, h1]
    omega
theorem pow_succ32 (i : Nat) : 4294967296 ^ (i + 1) = 4294967296 ^ i * 4294967296 := Nat.pow_succ ..
theorem h_trimmed_append_one {ws : List Nat} {c : Nat} (hc : c ≠ 0) : HTrim (ws ++ [c]) := by simp [HTrim, hc]
theorem h_trimmed_of_ge {ws : List Nat} {n : Nat} (hw : HWords ws) (hl : ws.length = n) (h : n = 0 ∨ 4294967296 ^ (n - 1) ≤ hval ws) : HTrim ws := by
  intro hlast
  rcases h with h | h
  · subst h
    rw [List.length_eq_zero_iff.1 hl] at hlast
    simp at hlast
  · have hn : 0 < ws.length := by
      rcases Nat.eq_zero_or_pos ws.length with h0 | h0
      · rw [List.length_eq_zero_iff.1 h0] at hlast; simp at hlast
      · exact h0
    rw [List.getLast?_eq_getElem?] at hlast
    have h1 := h_val_split ws (ws.length - 1) (by omega)
    rw [drop_cons_get hlast, show ws.length - 1 + 1 = ws.length by omega, List.drop_length] at h1
    have h2 := h_val_lt (hw.take (ws.length - 1))
    rw [List.length_take, Nat.min_eq_left (by omega)] at h2
    simp only [hval, Nat.mul_zero, Nat.add_zero] at h1
    rw [hl] at h1 h2
    omega
theorem h_val_set {ws : List Nat} {j L z old : Nat} (hj : ws[j]? = some old) (h1 : j < L) (h2 : L ≤ ws.length) : hval ((ws.set j z).take L) + 4294967296 ^ j * old = hval (ws.take L) + 4294967296 ^ j * z := by
  have e1 := h_val_split (ws.take L) j (by rw [List.length_take]; omega)
  have e2 := h_val_split ((ws.set j z).take L) j (by rw [List.length_take, List.length_set]; omega)
  have d1 : (ws.take L).drop j = old :: (ws.take L).drop (j + 1) := drop_cons_get (by rw [List.getElem?_take, if_pos h1]; exact hj)
  have d2 : ((ws.set j z).take L).drop j = z :: ((ws.set j z).take L).drop (j + 1) := drop_cons_get (by rw [List.getElem?_take, if_pos h1, List.getElem?_set_self (by omega)])
  have d3 : ((ws.set j z).take L).drop (j + 1) = (ws.take L).drop (j + 1) := by
    apply List.ext_getElem?
    intro i
    rw [List.getElem?_drop, List.getElem?_drop, List.getElem?_take, List.getElem?_take]
    split
    · rw [List.getElem?_set_ne (by omega)]
    · rfl
  have t1 : (ws.take L).take j = ws.take j := by rw [List.take_take, Nat.min_eq_left (by omega)]
  have t2 : ((ws.set j z).take L).take j = ws.take j := by rw [List.take_take, Nat.min_eq_left (by omega), take_set_le]
  rw [e1, e2, d1, d2, d3, t1, t2]
  simp only [hval]
  grind
theorem h_product_step {V V' W x y z q old cy Y : Nat} {i k : Nat} (hvs : V' + 4294967296 ^ (i + k) * old = V + 4294967296 ^ (i + k) * z) (hps : z + q * 4294967296 = x * y + old + cy)
    (hv : V + cy * 4294967296 ^ (i + k) = W + x * 4294967296 ^ i * Y) : V' + q * 4294967296 ^ (i + (k + 1)) = W + x * 4294967296 ^ i * (Y + 4294967296 ^ k * y) := by
  have e1 : 4294967296 ^ (i + (k + 1)) = 4294967296 ^ (i + k) * 4294967296 := by rw [← Nat.add_assoc, Nat.pow_succ]
  have e2 : 4294967296 ^ (i + k) = 4294967296 ^ i * 4294967296 ^ k := Nat.pow_add ..
  rw [e1]
  have h1 : 4294967296 ^ (i + k) * (z + q * 4294967296) = 4294967296 ^ (i + k) * (x * y + old + cy) := by rw [hps]
  have h2 : x * 4294967296 ^ i * (Y + 4294967296 ^ k * y) = x * 4294967296 ^ i * Y + 4294967296 ^ (i + k) * (x * y) := by
    rw [e2]
    generalize 4294967296 ^ i = a
    generalize 4294967296 ^ k = b
    grind
  rw [h2]
  generalize 4294967296 ^ (i + k) = e at *
  generalize x * 4294967296 ^ i * Y = r at *
  generalize x * y = xy at *
  grind
theorem h_byWord_step {X Q x rest d q r : Nat} (hX : X = Q * x + rest) (hq : q = (rest * 4294967296 + d) / x) (hr : r = (rest * 4294967296 + d) % x) : d + 4294967296 * X = (q + 4294967296 * Q) * x + r := by
  have h1 := Nat.div_add_mod' (rest * 4294967296 + d) x
  rw [← hq, ← hr] at h1
  rw [hX]
  have : (q + 4294967296 * Q) * x = q * x + 4294967296 * (Q * x) := by grind
  rw [this]
  generalize Q * x = a at *
  generalize q * x = b at *
  omega
theorem h_byWord_lt {rest d x : Nat} (hr : rest < x) (hd : d < 4294967296) : (rest * 4294967296 + d) / x < 4294967296 := by
  refine (Nat.div_lt_iff_lt_mul (by omega)).2 ?_
  have : (rest + 1) * 4294967296 ≤ 4294967296 * x := by rw [Nat.mul_comm]; exact Nat.mul_le_mul_left _ hr
  omega
theorem pow32 (s : Nat) (hs : s ≤ 32) : 2 ^ s * 2 ^ (32 - s) = 4294967296 := by rw [← Nat.pow_add, show s + (32 - s) = 32 by omega]
theorem h_shl_hi {x s : Nat} (hs : s ≤ 32) : x * 2 ^ s / 4294967296 = x / 2 ^ (32 - s) := by
  rw [← pow32 s hs, Nat.mul_comm (2 ^ s) (2 ^ (32 - s)), Nat.mul_div_mul_right _ _ (Nat.pow_pos (by decide))]
theorem h_shl_lo {x s : Nat} (hs : s ≤ 32) : x * 2 ^ s % 4294967296 = x % 2 ^ (32 - s) * 2 ^ s := by
  rw [← pow32 s hs, Nat.mul_comm (2 ^ s) (2 ^ (32 - s)), Nat.mul_mod_mul_right]
theorem h_left_step {A X x c s p W P0 : Nat} (hs : s ≤ 32) (h : A + c * p = X * 2 ^ s * W) (hp : p = P0 * W) : A + p * (c + x * 2 ^ s % 4294967296) + x / 2 ^ (32 - s) * (p * 4294967296) = (X + P0 * x) * 2 ^ s * W := by
  have h1 := Nat.div_add_mod (x * 2 ^ s) 4294967296
  rw [h_shl_hi hs] at h1
  have h2 : (X + P0 * x) * 2 ^ s * W = X * 2 ^ s * W + p * (x * 2 ^ s) := by rw [hp]; grind
  rw [h2, ← h]
  generalize x * 2 ^ s % 4294967296 = l at *
  generalize x / 2 ^ (32 - s) = hgh at *
  rw [← h1]
  grind
theorem h_right_word {x y R s : Nat} (hs : s < 32) (hx : x < 4294967296) : (x + 4294967296 * (y + 4294967296 * R)) / 2 ^ s % 4294967296 = x / 2 ^ s + y * 2 ^ (32 - s) % 4294967296 := by
  have e := pow32 s (by omega)
  have hp : 0 < 2 ^ s := Nat.pow_pos (by decide)
  have h1 : (x + 4294967296 * (y + 4294967296 * R)) / 2 ^ s = x / 2 ^ s + 2 ^ (32 - s) * (y + 4294967296 * R) := by
    have : 4294967296 * (y + 4294967296 * R) = 2 ^ s * (2 ^ (32 - s) * (y + 4294967296 * R)) := by rw [← Nat.mul_assoc, e]
    rw [this, Nat.add_mul_div_left _ _ hp]
  rw [h1]
  have h2 : x / 2 ^ s < 2 ^ (32 - s) := (Nat.div_lt_iff_lt_mul hp).2 (by rw [Nat.mul_comm, e]; exact hx)
  have h3 : (x / 2 ^ s + 2 ^ (32 - s) * (y + 4294967296 * R)) % 4294967296 = (x / 2 ^ s + y * 2 ^ (32 - s)) % 4294967296 := by
    have : x / 2 ^ s + 2 ^ (32 - s) * (y + 4294967296 * R) = (x / 2 ^ s + y * 2 ^ (32 - s)) + 4294967296 * (2 ^ (32 - s) * R) := by grind
    rw [this, Nat.add_mul_mod_self_left]
  rw [h3]
  have h4 : y * 2 ^ (32 - s) % 4294967296 = y % 2 ^ s * 2 ^ (32 - s) := by rw [← e, Nat.mul_mod_mul_right]
  have h5 : y % 2 ^ s * 2 ^ (32 - s) + 2 ^ (32 - s) ≤ 4294967296 := by
    rw [← Nat.succ_mul, ← e]
    exact Nat.mul_le_mul_right _ (Nat.mod_lt _ hp)
  rw [Nat.add_mod, h4, Nat.mod_eq_of_lt (show x / 2 ^ s < 4294967296 by omega), Nat.mod_eq_of_lt (by omega)]
theorem h_mod_pow_step {Y i : Nat} : Y % 4294967296 ^ (i + 1) = Y % 4294967296 ^ i + 4294967296 ^ i * (Y / 4294967296 ^ i % 4294967296) := by
  rw [Nat.pow_succ, Nat.mod_mul]
theorem h_val_div_pow {xs : List Nat} (h : HWords xs) {i : Nat} (hi : i ≤ xs.length) : hval xs / 4294967296 ^ i = hval (xs.drop i) := by
  rw [h_val_split xs i hi]
  have h1 := h_val_lt (h.take i)
  rw [List.length_take, Nat.min_eq_left hi] at h1
  rw [Nat.add_mul_div_left _ _ (Nat.pow_pos (by decide)), Nat.div_eq_of_lt h1, Nat.zero_add]
theorem h_val_drop_get {xs : List Nat} {i x : Nat} (h : xs[i]? = some x) : hval (xs.drop i) = x + 4294967296 * hval (xs.drop (i + 1)) := by
  rw [drop_cons_get h]
  rfl
theorem h_seg_succ {ws : List Nat} {j i x : Nat} (h : ws[j + i]? = some x) : hval ((ws.drop j).take (i + 1)) = hval ((ws.drop j).take i) + 4294967296 ^ i * x := h_val_take_succ (by rw [drop_get]; exact h)
theorem h_seg_set {ws : List Nat} {j i z : Nat} (h : j + i < ws.length) : hval (((ws.set (j + i) z).drop j).take (i + 1)) = hval ((ws.drop j).take i) + 4294967296 ^ i * z := by
  rw [drop_set_eq, h_val_take_set (by rw [List.length_drop]; omega)]
theorem h_take_step {S V U z x d u cy bo cn bn p : Nat} (h : S + d * V = U + (cy + bo) * p) (hw : z + d * x + cy + bo = u + (cn + bn) * 4294967296) : S + p * z + d * (V + p * x) = U + p * u + (cn + bn) * (p * 4294967296) := by grind
theorem h_put_step {S V U z x u cy cn p : Nat} (h : S + cy * p = U + V) (hw : z + cn * 4294967296 = u + x + cy) : S + p * z + cn * (p * 4294967296) = U + p * u + (V + p * x) := by grind
theorem h_val_take_mod {ws : List Nat} (hw : HWords ws) (n : Nat) : hval (ws.take n) = hval ws % 4294967296 ^ n := by
  rcases Nat.le_total n ws.length with h | h
  · rw [h_val_split ws n h]
    have h1 := h_val_lt (hw.take n)
    rw [List.length_take, Nat.min_eq_left h] at h1
    rw [Nat.add_mul_mod_self_left, Nat.mod_eq_of_lt h1]
  · rw [h_val_all h, Nat.mod_eq_of_lt]
    exact Nat.lt_of_lt_of_le (h_val_lt hw) (Nat.pow_le_pow_right (by decide) h)
theorem h_guess_start {u v1 v0 u0 p : Nat} (hp : 0 < v1) (h0 : u0 < 4294967296) (h : p * (v1 * 4294967296 + v0) ≤ u * 4294967296 + u0) : p ≤ u / v1 := by
  rw [Nat.le_div_iff_mul_le hp]
  have e : p * (v1 * 4294967296 + v0) = p * v1 * 4294967296 + p * v0 := by grind
  rw [e] at h
  generalize p * v1 = a at *
  generalize p * v0 = b at *
  omega
theorem h_guess_down {u v1 v0 u0 p q r : Nat} (he : q * v1 + r = u) (hgt : r * 4294967296 + u0 < q * v0) (hle : p ≤ q) (h : p * (v1 * 4294967296 + v0) ≤ u * 4294967296 + u0) : p ≤ q - 1 := by
  rcases Nat.lt_or_ge p q with hl | hl
  · omega
  · obtain rfl : p = q := by omega
    have e : p * (v1 * 4294967296 + v0) = p * v1 * 4294967296 + p * v0 := by grind
    rw [e] at h
    generalize p * v1 = a at *
    generalize p * v0 = b at *
    omega
theorem h_take_end {S V U z d u cy bo bn p : Nat} (h : S + d * V = U + (cy + bo) * p) (hw : z + cy + bo = u + bn * 4294967296) : S + p * z + d * V = U + p * u + bn * (p * 4294967296) := by grind
theorem h_rest_zero {us : List Nat} {j m : Nat} (hw : HWords us) (h : hval (us.drop j) < 4294967296 ^ m) (hl : j + m ≤ us.length) : hval (us.drop (j + m)) = 0 ∧ hval ((us.drop j).take m) = hval (us.drop j) := by
  have h1 := h_val_split (us.drop j) m (by rw [List.length_drop]; omega)
  rw [List.drop_drop] at h1
  have h2 : hval (us.drop (j + m)) = 0 := by
    rcases Nat.eq_zero_or_pos (hval (us.drop (j + m))) with h0 | h0
    · exact h0
    · have := Nat.mul_le_mul_left (4294967296 ^ m) h0
      omega
  rw [h2] at h1
  exact ⟨h2, by omega⟩
theorem h_digit_top {us vs : List Nat} {j n u2 u1 u0 v1 v0 q : Nat} (hw : HWords us) (hv : HWords vs) (hn : 2 ≤ n) (hl : j + n + 1 ≤ us.length) (hvl : vs.length = n) (hu2 : us[j + n]? = some u2) (hu1 : us[j + n - 1]? = some u1) (hu0 : us[j + n - 2]? = some u0)
    (hv1 : vs[n - 1]? = some v1) (hv0 : vs[n - 2]? = some v0) (hU : hval (us.drop j) < 4294967296 ^ (n + 1)) (hq : q * hval vs ≤ hval (us.drop j)) : q * (v1 * 4294967296 + v0) ≤ (u2 * 4294967296 + u1) * 4294967296 + u0 := by
  obtain ⟨hr, _⟩ := h_rest_zero hw hU (by omega)
  have e1 := h_val_split (us.drop j) (n - 2) (by rw [List.length_drop]; omega)
  rw [List.drop_drop] at e1
  have a0 := h_val_drop_get (xs := us) (i := j + (n - 2)) (x := u0) (by rw [show j + (n - 2) = j + n - 2 by omega]; exact hu0)
  have a1 := h_val_drop_get (xs := us) (i := j + (n - 2) + 1) (x := u1) (by rw [show j + (n - 2) + 1 = j + n - 1 by omega]; exact hu1)
  have a2 := h_val_drop_get (xs := us) (i := j + (n - 2) + 1 + 1) (x := u2) (by rw [show j + (n - 2) + 1 + 1 = j + n by omega]; exact hu2)
  rw [show j + (n - 2) + 1 + 1 + 1 = j + (n + 1) by omega, hr] at a2
  have e2 := h_val_split vs (n - 2) (by omega)
  have b0 := h_val_drop_get (xs := vs) (i := n - 2) hv0
  have b1 := h_val_drop_get (xs := vs) (i := n - 2 + 1) (x := v1) (by rw [show n - 2 + 1 = n - 1 by omega]; exact hv1)
  rw [List.drop_eq_nil_of_le (show vs.length ≤ n - 2 + 1 + 1 by omega)] at b1
  have hlow : hval ((us.drop j).take (n - 2)) < 4294967296 ^ (n - 2) := by
    have := h_val_lt ((hw.drop j).take (n - 2))
    rw [List.length_take, List.length_drop, Nat.min_eq_left (by omega)] at this
    exact this
  simp only [hval, Nat.mul_zero, Nat.add_zero] at b1 a2
  rw [a1, a2] at a0
  rw [b1] at b0
  rw [a0] at e1
  rw [b0] at e2
  have e3 : u0 + 4294967296 * (u1 + 4294967296 * u2) = (u2 * 4294967296 + u1) * 4294967296 + u0 := by omega
  have e4 : v0 + 4294967296 * v1 = v1 * 4294967296 + v0 := by omega
  rw [e3] at e1
  rw [e4] at e2
  obtain ⟨T, hT⟩ : ∃ T, T = (u2 * 4294967296 + u1) * 4294967296 + u0 := ⟨_, rfl⟩
  obtain ⟨W, hW⟩ : ∃ W, W = v1 * 4294967296 + v0 := ⟨_, rfl⟩
  obtain ⟨p, hp⟩ : ∃ p, p = 4294967296 ^ (n - 2) := ⟨_, rfl⟩
  rw [← hT, ← hp] at e1
  rw [← hW, ← hp] at e2
  rw [← hp] at hlow
  rw [← hT, ← hW]
  clear hT hW hp e3 e4
  have h1 : q * W * p < (T + 1) * p := by
    have h2 : q * W * p ≤ q * hval vs := by
      rw [e2, Nat.mul_add, Nat.mul_comm p W, ← Nat.mul_assoc]
      omega
    have h3 : (T + 1) * p = p * T + p := by rw [Nat.add_mul, Nat.one_mul, Nat.mul_comm]
    omega
  have h4 := Nat.lt_of_mul_lt_mul_right h1
  omega
theorem h_divide_step {X Q V A U r q p u : Nat} (hA : X + p * 4294967296 * (Q * V) = A) (hX : X = u + p * U) (hr : r + q * V = U) : (u + p * r) + p * ((q + 4294967296 * Q) * V) = A := by
  subst hX hr
  rw [← hA]
  grind
theorem h_trimmed_last {ws : List Nat} {n x : Nat} (h : HTrim ws) (hl : ws.length = n) (hx : ws[n - 1]? = some x) : 0 < x := by
  rcases Nat.eq_zero_or_pos x with h0 | h0
  · subst h0
    exact absurd (by rw [List.getLast?_eq_getElem?, hl]; exact hx) h
  · exact h0
theorem h_val_one {ws : List Nat} {x : Nat} (hl : ws.length = 1) (hx : ws[0]? = some x) : hval ws = x := by
  match ws, hl with
  | [y], _ =>
    simp at hx
    subst hx
    simp [hval]
theorem h_val_zeros {ws : List Nat} (m : Nat) : hval (ws ++ (List.replicate m 0).drop ws.length) = hval ws := by
  rw [h_val_append, List.drop_replicate, h_val_rep, Nat.mul_zero, Nat.add_zero]
theorem h_words_zeros {ws : List Nat} (h : HWords ws) (m : Nat) : HWords (ws ++ (List.replicate m 0).drop ws.length) := by
  refine h.append ?_
  rw [List.drop_replicate]
  exact HWords.rep _
theorem h_next_lt {us : List Nat} {j x V : Nat} (hx : us[j]? = some x) (hlt : x < 4294967296) (h : hval (us.drop (j + 1)) < V) : hval (us.drop j) < 4294967296 * V := by
  rw [h_val_drop_get hx]
  have := Nat.mul_le_mul_left 4294967296 (show hval (us.drop (j + 1)) + 1 ≤ V from h)
  omega
theorem h_divide_round {us us3 qs : List Nat} {j m d V A : Nat} (hjl : j + m + 1 ≤ us.length) (hl3 : us3.length = us.length) (ht : us3.take j = us.take j) (hd : us3.drop (j + m + 1) = us.drop (j + m + 1)) (hz : hval (us.drop (j + m + 1)) = 0) (hq : j < qs.length)
    (hs : hval ((us3.drop j).take (m + 1)) + d * V = hval (us.drop j)) (hlt : hval ((us3.drop j).take (m + 1)) < V) (hA : hval us + 4294967296 ^ (j + 1) * (hval (qs.drop (j + 1)) * V) = A) :
    hval (us3.drop j) < V ∧ hval us3 + 4294967296 ^ j * (hval ((qs.set j d).drop j) * V) = A := by
  have h1 := h_val_split (us3.drop j) (m + 1) (by rw [List.length_drop]; omega)
  rw [List.drop_drop, show j + (m + 1) = j + m + 1 by omega, hd, hz, Nat.mul_zero, Nat.add_zero] at h1
  refine ⟨by rw [h1]; exact hlt, ?_⟩
  rw [← h1] at hs
  rw [h_val_split us3 j (by omega), ht, drop_set_ge hq]
  rw [pow_succ32] at hA
  exact h_divide_step hA (h_val_split us j (by omega)) hs
theorem h_divide_first {N M n m s k : Nat} (hN : N < 4294967296 ^ n) (hM : 4294967296 ^ (m - 1) ≤ M) (hm : 0 < m) (hmn : m ≤ n) (hk : k = n - m + 1) : N * 2 ^ s < 4294967296 ^ k * (M * 2 ^ s) := by
  have h1 : N < 4294967296 ^ k * M := by
    refine Nat.lt_of_lt_of_le hN (Nat.le_trans ?_ (Nat.mul_le_mul_left _ hM))
    rw [← Nat.pow_add]
    exact Nat.pow_le_pow_right (by decide) (by omega)
  rw [← Nat.mul_assoc]
  exact (Nat.mul_lt_mul_right (Nat.pow_pos (by decide))).2 h1
theorem h_shift_len {N n s : Nat} (hN : N < 4294967296 ^ n) (hs : s ≤ 32) : N * 2 ^ s < 4294967296 ^ (n + 1) := by
  have h1 : (2 : Nat) ^ s ≤ 2 ^ 32 := Nat.pow_le_pow_right (by decide) hs
  rw [Nat.pow_succ]
  exact Nat.lt_of_lt_of_le ((Nat.mul_lt_mul_right (Nat.pow_pos (show 0 < 2 by decide))).2 hN) (Nat.mul_le_mul_left _ h1)
theorem h_seg_lt {us : List Nat} {j m : Nat} (h : HWords us) : hval ((us.drop j).take m) < 4294967296 ^ m := by
  have h1 := h_val_lt ((h.drop j).take m)
  refine Nat.lt_of_lt_of_le h1 (Nat.pow_le_pow_right (by decide) ?_)
  rw [List.length_take]
  exact Nat.min_le_left _ _
theorem IsHat.word {g : Mem} {A : Option Addr} {N : Nat} (h : IsHat g A 1 N) : ∃ b o, A = some ⟨b, o, none⟩ ∧ N < 4294967296 ∧ gcell g b (o + 0) = some (.int .u32 (N : Int)) := by
  obtain ⟨ws, hs, hw, ht, rfl⟩ := h
  obtain ⟨b, o, rfl, hc⟩ := hs.some_ (by decide)
  obtain ⟨x, hx⟩ := get_of_lt (ws := ws) (j := 0) (by have := hs.1; omega)
  rw [h_val_one hs.1 hx]
  exact ⟨b, o, rfl, hw.get hx, hc.at_ 0 x hx⟩
theorem IsHat.lit {g : Mem} {b : Nat} {t : TypeId} {f : Nat × Nat} {x : Nat} (h0 : x ≠ 0) (hx : x < 4294967296) : IsHat (gput g b (.cells [Value.int .u32 (x : Int)].toArray t f)) (some ⟨b, 0, none⟩) 1 x :=
  ⟨[x], SlN.put_uN (ws := [x]), HWords.cons hx HWords.nil, by simp [HTrim]; omega, by simp [hval]⟩
theorem St.litH {w0 w : World} {g0 g : Mem} {own : List (Nat × Obj)} {b : Nat} {t : TypeId} {x : Nat} (h : St w0 [] g0 g (own ++ [(b, .cells [Value.int .u32 (x : Int)].toArray t (0, 0))]) w) (h0 : x ≠ 0) (hx : x < 4294967296) :
    ∃ g', St w0 [] g0 g' own w ∧ g.le g' ∧ IsHat g' (some ⟨b, 0, none⟩) 1 x := by
  have hk : (own ++ [(b, Obj.cells [Value.int .u32 (x : Int)].toArray t (0, 0))])[own.length]? = some (b, .cells [Value.int .u32 (x : Int)].toArray t (0, 0)) := by simp
  obtain ⟨h8, h9⟩ := h.publish own.length hk
  have he : (own ++ [(b, Obj.cells [Value.int .u32 (x : Int)].toArray t (0, 0))]).eraseIdx own.length = own := by
    rw [List.eraseIdx_append_of_length_le (Nat.le_refl _)]
    simp
  rw [he] at h8
  exact ⟨_, h8, h9, IsHat.lit h0 hx⟩
end Go.Proofs.Vc
