/- A helper of the claim: general lemmas and walks of functions, printed by a program of this session. Conditions: none. -/
import Derived.Test.YtnbcedkpkcgmkaaGreatDoorF5
import Derived.Test.YtnbcedkpkcgmkaaGreatDoorProg
import Derived.Test.YtnbcedkpkcgmkaaGreatDoorQ2
import Derived.Shelf.Spec.TrailingZeros
import Derived.Test.YtnbcedkpkcgmkaaGreatDoorXZ
import Derived.Test.YtnbcedkpkcgmkaaGreatDoorFV
import Derived.Test.YtnbcedkpkcgmkaaGreatDoorF4
import Derived.Test.YtnbcedkpkcgmkaaGreatDoorF6
import Derived.Test.YtnbcedkpkcgmkaaGreatDoorF0
namespace Go.Proofs.YtnbcedkpkcgmkaaGreatDoor
open Go Go.RowKit Go.Proofs.Vc
set_option linter.unusedVariables false
set_option linter.unusedSimpArgs false

set_option maxHeartbeats 1000000 in
theorem num_Frac {g : Mem} {w : World} (hag : Agree g w) {n d : Int} (h1 : -9223372036854775808 ≤ n) (h2 : n ≤ 9223372036854775807) (h3 : -9223372036854775808 ≤ d) (h4 : d ≤ 9223372036854775807) (hd : d ≠ 0) :
    CallTo Tryz.prog 41 #[.int .i64 n, .int .i64 d] w (Ret w g fun v g => ∃ p q a, v = .agg #[.int .i64 p, .int .i64 q, .pointer a] ∧ IsRat g p q a (Rat.divInt n d)) := by
  refine CallTo.enter (vs := [.int .i64 n, .int .i64 d]) zf134 (by kernel_rfl) rfl rfl rfl ?_
  have hst := St.init hag
  refine zsr ?_
  refine stepK_alloc rfl rfl rfl rfl zf29 rfl hst ?_
  clear hst
  intro b1 w1 hst
  refine zn4 ?_
  refine zM rfl hst rfl ?_
  refine zM rfl hst rfl ?_
  refine stepK_call rfl rfl rfl rfl rfl hst (num_quotient hst.agree h1 h2 h3 h4 hd) ?_
  clear hst
  intro v2 g2 w2 hst hle2 hcs2 hp2
  obtain ⟨p7, q7, a7, rfl, h7⟩ := hp2
  refine stepK_store 0 rfl rfl rfl rfl rfl rfl zf31 rfl rfl hst rfl (by first | (simp [uN_length]; omega) | simp) ?_
  clear hst
  intro w3 hst
  simp only [zL, splice, Nat.reduceAdd] at hst
  refine znt ?_
  refine cp_ret ?_
  refine ret1c (k := 0) rfl rfl (by kernel_rfl) (by kernel_rfl) rfl hst rfl ?_
  exact ⟨_, _, _, rfl, h7⟩

end Go.Proofs.YtnbcedkpkcgmkaaGreatDoor

namespace Go.Proofs.YtnbcedkpkcgmkaaGreatDoor
open Go Go.RowKit Go.Proofs.Vc
set_option linter.unusedVariables false
set_option linter.unusedSimpArgs false

set_option maxHeartbeats 1000000 in
theorem num_lowestZ {g : Mem} {w : World} (hag : Agree g w) {neg : Bool} {A B : Option Addr} {n c m d : Nat} (ha : IsNat g A n 0) :
    CallTo Tryz.prog 91 #[.bool neg, .slice A n c, .slice B m d] w (Ret w g fun v g => ∃ p q a, v = .agg #[.int .i64 p, .int .i64 q, .pointer a] ∧ IsRat g p q a ((0 : Rat))) := by
  refine CallTo.enter (vs := [.bool neg, .slice A n c, .slice B m d]) zf28 (by kernel_rfl) rfl rfl rfl ?_
  have hst := St.init hag
  have hn0 : n = 0 := ha.zero_iff.2 rfl
  refine zsr ?_
  refine stepK_alloc rfl rfl rfl rfl zf29 rfl hst ?_
  clear hst
  intro b1 w1 hst
  refine znq ?_
  refine zsr ?_
  refine zM rfl hst rfl ?_
  refine stepK_d rfl rfl rfl hst (does_len_slice rfl zf1 rfl) ?_
  refine stepK_d rfl rfl rfl hst (Does.yes (does_eql rfl rfl rfl) (by omega)) ?_
  refine znt ?_
  refine cp_cond_true rfl ?_
  refine zsr ?_
  refine stepK_d rfl rfl rfl hst (does_build rfl zf30 rfl rfl) ?_
  refine stepK_store 0 rfl rfl rfl rfl rfl rfl zf31 rfl rfl hst rfl (by first | (simp [uN_length]; omega) | simp) ?_
  clear hst
  intro w2 hst
  simp only [zL, splice, Nat.reduceAdd] at hst
  refine zn5 ?_
  refine ret1c (k := 0) rfl rfl (by kernel_rfl) (by kernel_rfl) rfl hst rfl ?_
  exact ⟨_, _, _, rfl, IsRat.zero _⟩

end Go.Proofs.YtnbcedkpkcgmkaaGreatDoor

namespace Go.Proofs
open Go Go.Shelf Go.RowKit
def Tryz.tz29_ren : Go.Shelf.Ren := ⟨fun | 29 => 124 | n => n, fun | 0 => 0 | 3 => 3 | 4 => 4 | 5 => 5 | 22 => 84 | 25 => 86 | 54 => 159 | n => n, fun | 1 => 0 | n => n⟩
theorem Tryz.tz29 : Go.Proofs.Lays7.n29 Tryz.prog Tryz.tz29_ren := {
  mixed := by kernel_rfl
  f29 := Tryz.func124.trans (congrArg some (by kernel_rfl))
  t0 := Tryz.underlying0
  a0 := Tryz.isAgg0
  z0 := Tryz.sizeOf0
  v0 := Tryz.zeroValue0
  i0 := by kernel_rfl
  t3 := Tryz.underlying3
  a3 := Tryz.isAgg3
  z3 := Tryz.sizeOf3
  v3 := Tryz.zeroValue3
  i3 := by kernel_rfl
  t4 := Tryz.underlying4
  a4 := Tryz.isAgg4
  z4 := Tryz.sizeOf4
  v4 := Tryz.zeroValue4
  i4 := by kernel_rfl
  t5 := Tryz.underlying5
  a5 := Tryz.isAgg5
  z5 := Tryz.sizeOf5
  v5 := Tryz.zeroValue5
  i5 := by kernel_rfl
  t22 := Tryz.underlying84
  a22 := Tryz.isAgg84
  z22 := Tryz.sizeOf84
  v22 := Tryz.zeroValue84
  i22 := by kernel_rfl
  t25 := Tryz.underlying86
  a25 := Tryz.isAgg86
  z25 := Tryz.sizeOf86
  v25 := Tryz.zeroValue86
  i25 := by kernel_rfl
  t54 := Tryz.underlying159
  a54 := Tryz.isAgg159
  z54 := Tryz.sizeOf159
  g1 := by kernel_rfl }
theorem Tryz.bits_TrailingZeros64 (x : Nat) (hx : x < 18446744073709551616) (w : World) (hT : x ≠ 0 → TabAt 0 Lib.deBruijn64tab w) :
    Calls Tryz.prog 124 #[.int .u64 x] w fun e w' => e = .returned (.int .i64 (Lib.ctz 64 x)) ∧ w' = w := Any7.bits_TrailingZeros64 Tryz.tz29 x hx w hT
end Go.Proofs

namespace Go.Proofs.Vc
open Go Go.RowKit
/-- the table of math/bits lies where the program's first variable lies -/
def TzG (g : Mem) : Prop := ∀ w, Agree g w → TabAt 0 Lib.deBruijn64tab w
theorem TzG.mono {g g' : Mem} (h : TzG g) (hle : g.le g') : TzG g' := fun w hw => h w (fun b o hb => hw b o (hle b o hb))
theorem tz_words {N x R k : Nat} (h0 : 0 < x) (hx : x < 18446744073709551616) (h : N = (x + 18446744073709551616 * R) * 18446744073709551616 ^ k) : tz N = 64 * k + tz x := by
  rw [h, show (18446744073709551616 : Nat) = 2 ^ 64 by decide, ← Nat.pow_mul, Nat.mul_comm, tz_pow (by omega), tz_low h0 hx]
end Go.Proofs.Vc

namespace Go.Proofs.YtnbcedkpkcgmkaaGreatDoor
open Go Go.RowKit Go.Proofs.Vc
set_option linter.unusedVariables false
set_option linter.unusedSimpArgs false


theorem bits_tz64 {g : Mem} {w : World} (hag : Agree g w) (hz : TzG g) {x : Nat} (h0 : 0 < x) (hx : x < 18446744073709551616) : CallTo Tryz.prog 124 #[.int .u64 (x : Int)] w (Ret w g fun v g' => v = .int .i64 (tz x : Int)) :=
  .inl ⟨enters zf135 (by kernel_rfl) rfl _ _, (Tryz.bits_TrailingZeros64 x hx w (fun _ => hz w hag)).mono fun e w' ⟨he, hw⟩ => ⟨_, g, he, by subst hw; exact St.of_below hag (Below.refl _ _), by rw [tz_ctz h0 hx]⟩⟩

set_option maxHeartbeats 1000000 in
theorem num_trailing {g : Mem} {w : World} (hag : Agree g w) (hz : TzG g) {A : Option Addr} {n c N : Nat} (ha : IsNat g A n N) (hn : n ≤ 8796093022207) :
    CallTo Tryz.prog 93 #[.slice A n c] w (Ret w g fun v g => v = .int .i64 (tz N : Int)) := by
  refine CallTo.enter (vs := [.slice A n c]) zf136 (by kernel_rfl) rfl rfl rfl ?_
  have hst := St.init hag
  obtain ⟨xs, hxs, hxw, hxt, hxv⟩ := id ha
  have hlx := hxs.1
  refine zsr ?_
  refine zA rfl hst rfl ?_
  refine znq ?_
  refine zsr ?_
  refine zM rfl hst rfl ?_
  refine stepK_d rfl rfl rfl hst (does_len_slice rfl zf1 rfl) ?_
  refine zM rfl hst rfl ?_
  refine znt ?_
  refine cp_block ?_
  refine cp_loop (ι := Nat) (fun k => [(0, .slice A n c), (5, .slice A n c), (6, .int .i64 (n : Int)), (7, .int .i64 (k : Int))]) (fun k w1 => St w [] g g [] w1 ∧ k ≤ n ∧ val (xs.drop k) * 18446744073709551616 ^ k = N) (fun k => n - k) 0 ?k1 ?i1 ?r1
  case k1 => exact ⟨rfl, rfl, rfl, rfl, trivial⟩
  case i1 =>
    exact ⟨hst, Nat.zero_le _, by rw [List.drop_zero, Nat.pow_zero, Nat.mul_one]; exact hxv⟩
  case r1 =>
    clear hst
    rintro k w1 ⟨hst, hk, hv⟩
    refine zsr ?_
    refine stepK_d rfl rfl rfl hst (does_lss rfl rfl rfl) ?_
    refine znq ?_
    refine cp_if rfl ?_ ?_
    intro c8
    refine cp_skip ?_
    refine cp_then ?_
    refine cp_seq ?_
    refine cp_block ?_
    refine cp_seq ?_
    obtain ⟨b1, o1, e1, hb1⟩ := hxs.some_ (by omega)
    subst e1
    obtain ⟨x, hx⟩ := get_of_lt (ws := xs) (j := k) (by omega)
    have hxl := hxw.get hx
    refine cp_region ?_
    refine zM rfl hst rfl ?_
    refine stepK_d rfl rfl rfl hst (does_indexAddr1 (j := k) rfl zf1 (by kernel_rfl) rfl rfl (by omega) (by omega)) ?_
    refine stepK_d rfl rfl rfl hst (does_load_g1 rfl (by kernel_rfl) rfl (hb1.at_ _ _ hx)) ?_
    refine zA rfl hst rfl ?_
    refine zA rfl hst rfl ?_
    refine zn4 ?_
    refine zM rfl hst rfl ?_
    refine stepK_d rfl rfl rfl hst (does_neq_n (b := 0) rfl rfl rfl) ?_
    refine znt ?_
    refine cp_if rfl ?_ ?_
    intro c13
    refine zsr ?_
    refine zM rfl hst rfl ?_
    refine stepK_d rfl rfl rfl hst (Does.int (does_mul rfl rfl rfl) (wrap_i64 (by omega) (by omega))) ?_
    refine zM rfl hst rfl ?_
    refine stepK_call rfl rfl rfl rfl rfl hst (bits_tz64 hst.agree hz (by omega) hxl) ?_
    clear hst
    intro v2 g2 w2 hst hle2 hcs2 hp2
    obtain rfl := hp2
    have htz := tz_le (N := x) (k := 64) (by omega) hxl
    refine stepK_d rfl rfl rfl hst (Does.int (does_add rfl rfl rfl) (wrap_i64 (by omega) (by omega))) ?_
    refine zA rfl hst rfl ?_
    refine znt ?_
    refine cp_ret ?_
    refine at_block_ret ?_
    refine at_then_ret ?_
    refine at_then_ret ?_
    refine at_block_ret ?_
    refine at_then_ret ?_
    refine ret1 rfl rfl hst ?_
    rw [tz_words (by omega) hxl (show N = (x + 18446744073709551616 * val (xs.drop (k + 1))) * 18446744073709551616 ^ k by rw [← val_drop_get hx]; exact hv.symm)]
    rfl
    intro c13
    refine cp_skip ?_
    refine at_block_normal ?_
    refine cp_then ?_
    refine cp_region ?_
    refine stepK_d rfl rfl rfl hst (Does.int (does_add rfl rfl rfl) (wrap_i64 (by omega) (by omega))) ?_
    refine zM rfl hst rfl ?_
    refine wpK_nil ?_
    refine round_end (k + 1) ?_ ?_ ?_
    exact ⟨rfl, rfl, rfl, rfl, trivial⟩
    refine ⟨hst, by omega, ?_⟩
    rw [← hv, val_drop_get hx, show x = 0 by omega, Nat.zero_add, Nat.pow_succ, Nat.mul_comm (18446744073709551616 ^ k), ← Nat.mul_assoc, Nat.mul_comm 18446744073709551616]
    show n - (k + 1) < n - k
    omega
    intro c8
    refine cp_exit ?_
    refine at_then_exit ?_
    refine at_then_exit ?_
    refine cp_exit_here ?_
    refine cp_then ?_
    refine zsr ?_
    refine zA rfl hst rfl ?_
    refine znt ?_
    refine cp_ret ?_
    refine ret1 rfl rfl hst ?_
    rw [show N = 0 by rw [← hv, List.drop_eq_nil_of_le (by omega)]; exact Nat.zero_mul _, tz_zero]
    rfl

end Go.Proofs.YtnbcedkpkcgmkaaGreatDoor

namespace Go.Proofs.YtnbcedkpkcgmkaaGreatDoor
open Go Go.RowKit Go.Proofs.Vc
set_option linter.unusedVariables false
set_option linter.unusedSimpArgs false


theorem num_lowestC {g : Mem} {w : World} (hag : Agree g w) {neg : Bool} {A B : Option Addr} {n c m d N M : Nat} (ha : IsNat g A n N) (hb : IsNat g B m M) (hM : 0 < M) (hc : N = 0 ∨ Nat.gcd N M = 1) : CallTo Tryz.prog 91 #[.bool neg, .slice A n c, .slice B m d] w (Ret w g fun v g => ∃ p q a, v = .agg #[.int .i64 p, .int .i64 q, .pointer a] ∧ IsRat g p q a (mkRat (sg neg N) M)) := by
  rcases hc with h | hc
  subst h
  have e : mkRat (sg neg 0) M = 0 := by rw [sg_zero, Rat.zero_mkRat]
  rw [e]
  exact num_lowestZ hag ha
  exact num_lowest hag ha hb hM hc

set_option maxHeartbeats 1000000 in
theorem Rat_ShiftP {g : Mem} {w : World} (hag : Agree g w) {p q : Int} {a : Option Addr} {r : Rat} (ha : IsRat g p q a r) (hfa : Fit r) (hz : TzG g) {k : Nat} (hk : k ≤ 4096) :
    CallTo Tryz.prog 37 #[.agg #[.int .i64 p, .int .i64 q, .pointer a], .int .i64 (k : Int)] w (Ret w g fun v g => ∃ p q a, v = .agg #[.int .i64 p, .int .i64 q, .pointer a] ∧ IsRat g p q a (r * (((2 ^ k : Nat) : Int) : Rat))) := by
  refine CallTo.enter (vs := [.agg #[.int .i64 p, .int .i64 q, .pointer a], .int .i64 (k : Int)]) zf137 (by kernel_rfl) rfl rfl rfl ?_
  have hst := St.init hag
  refine zsr ?_
  refine stepK_box rfl rfl rfl rfl rfl rfl hst ?_
  clear hst
  intro b1 w1 hst
  refine stepK_alloc rfl rfl rfl rfl zf29 rfl hst ?_
  clear hst
  intro b2 w2 hst
  refine zn4 ?_
  refine stepK_d rfl rfl rfl hst (does_load_ownN 0 rfl (by kernel_rfl) zf31 rfl rfl rfl) ?_
  refine stepK_call rfl rfl rfl rfl rfl hst (Rat_parts hst.agree ha) ?_
  clear hst
  intro v3 g3 w3 hst hle3 hcs3 hp3
  replace ha := ha.mono hle3
  replace hz := hz.mono hle3
  obtain ⟨A1, n1, c1, B1, m1, d1, rfl, hN1, hD1⟩ := hp3
  refine zM rfl hst rfl ?_
  refine zE rfl hst rfl rfl ?_
  refine zE rfl hst rfl rfl ?_
  refine zE rfl hst rfl rfl ?_
  refine zA rfl hst rfl ?_
  refine zA rfl hst rfl ?_
  refine zA rfl hst rfl ?_
  refine znq ?_
  refine cp_seq ?_
  have l1 := hN1.len hfa.1
  have l2 := hD1.len hfa.2
  obtain ⟨j, hj⟩ : ∃ j, j = min k (tz r.den) := ⟨_, rfl⟩
  refine cp_region ?_
  refine zM rfl hst rfl ?_
  refine stepK_d rfl rfl rfl hst (Does.yes (does_geq rfl rfl rfl) (by omega)) ?_
  refine znt ?_
  refine cp_cond_true rfl ?_
  refine zsr ?_
  refine zM rfl hst rfl ?_
  refine zM rfl hst rfl ?_
  refine stepK_call rfl rfl rfl rfl rfl hst (num_trailing hst.agree hz hD1 (by omega)) ?_
  clear hst
  intro v4 g4 w4 hst hle4 hcs4 hp4
  replace ha := ha.mono hle4
  replace hz := hz.mono hle4
  replace hN1 := hN1.mono hle4
  replace hD1 := hD1.mono hle4
  obtain rfl := hp4
  refine stepK_d rfl rfl rfl hst (Does.nat (b := j) (does_min rfl rfl rfl) (by split <;> omega)) ?_
  refine zA rfl hst rfl ?_
  refine zn4 ?_
  refine zM rfl hst rfl ?_
  refine zM rfl hst rfl ?_
  refine zM rfl hst rfl ?_
  refine zM rfl hst rfl ?_
  refine stepK_d rfl rfl rfl hst (Does.nat (b := k - j) (Does.int (does_sub rfl rfl rfl) (wrap_i64 (by omega) (by omega))) (by omega)) ?_
  refine stepK_call rfl rfl rfl rfl rfl hst (num_left hst.agree hN1 (by omega) (by omega)) ?_
  clear hst
  intro v5 g5 w5 hst hle5 hcs5 hp5
  replace ha := ha.mono hle5
  replace hz := hz.mono hle5
  replace hN1 := hN1.mono hle5
  replace hD1 := hD1.mono hle5
  obtain ⟨A2, n2, c2, rfl, hL⟩ := hp5
  refine zM rfl hst rfl ?_
  refine zM rfl hst rfl ?_
  refine stepK_call rfl rfl rfl rfl rfl hst (num_right hst.agree hD1 (by omega) (by omega)) ?_
  clear hst
  intro v6 g6 w6 hst hle6 hcs6 hp6
  replace ha := ha.mono hle6
  replace hz := hz.mono hle6
  replace hN1 := hN1.mono hle6
  replace hD1 := hD1.mono hle6
  replace hL := hL.mono hle6
  obtain ⟨B2, m2, d2, rfl, hR⟩ := hp6
  refine stepK_call rfl rfl rfl rfl rfl hst (num_lowestC hst.agree hL hR (shift_pos (Nat.pos_of_ne_zero r.den_nz) (by omega)) (.inr (shift_coprime (Nat.pos_of_ne_zero r.den_nz) r.reduced hj))) ?_
  clear hst
  intro v7 g7 w7 hst hle7 hcs7 hp7
  replace ha := ha.mono hle7
  replace hz := hz.mono hle7
  replace hN1 := hN1.mono hle7
  replace hD1 := hD1.mono hle7
  replace hL := hL.mono hle7
  replace hR := hR.mono hle7
  obtain ⟨p9, q9, a9, rfl, hr9⟩ := hp7
  refine stepK_store 1 rfl rfl rfl rfl rfl rfl zf31 rfl rfl hst rfl (by first | (simp [uN_length]; omega) | simp) ?_
  clear hst
  intro w8 hst
  simp only [zL, splice, Nat.reduceAdd] at hst
  refine zn5 ?_
  refine ret1c (k := 1) rfl rfl (by kernel_rfl) (by kernel_rfl) rfl hst rfl ?_
  rw [shift_up hj] at hr9
  exact ⟨_, _, _, rfl, hr9⟩

set_option maxHeartbeats 1000000 in
theorem Rat_ShiftN {g : Mem} {w : World} (hag : Agree g w) {p q : Int} {a : Option Addr} {r : Rat} (ha : IsRat g p q a r) (hfa : Fit r) (hz : TzG g) {k : Nat} (hk : k ≤ 4096) (h0 : 0 < k) :
    CallTo Tryz.prog 37 #[.agg #[.int .i64 p, .int .i64 q, .pointer a], .int .i64 (-(k : Int))] w (Ret w g fun v g => ∃ p q a, v = .agg #[.int .i64 p, .int .i64 q, .pointer a] ∧ IsRat g p q a (r / (((2 ^ k : Nat) : Int) : Rat))) := by
  refine CallTo.enter (vs := [.agg #[.int .i64 p, .int .i64 q, .pointer a], .int .i64 (-(k : Int))]) zf137 (by kernel_rfl) rfl rfl rfl ?_
  have hst := St.init hag
  refine zsr ?_
  refine stepK_box rfl rfl rfl rfl rfl rfl hst ?_
  clear hst
  intro b1 w1 hst
  refine stepK_alloc rfl rfl rfl rfl zf29 rfl hst ?_
  clear hst
  intro b2 w2 hst
  refine zn4 ?_
  refine stepK_d rfl rfl rfl hst (does_load_ownN 0 rfl (by kernel_rfl) zf31 rfl rfl rfl) ?_
  refine stepK_call rfl rfl rfl rfl rfl hst (Rat_parts hst.agree ha) ?_
  clear hst
  intro v3 g3 w3 hst hle3 hcs3 hp3
  replace ha := ha.mono hle3
  replace hz := hz.mono hle3
  obtain ⟨A1, n1, c1, B1, m1, d1, rfl, hN1, hD1⟩ := hp3
  refine zM rfl hst rfl ?_
  refine zE rfl hst rfl rfl ?_
  refine zE rfl hst rfl rfl ?_
  refine zE rfl hst rfl rfl ?_
  refine zA rfl hst rfl ?_
  refine zA rfl hst rfl ?_
  refine zA rfl hst rfl ?_
  refine znq ?_
  refine cp_seq ?_
  have l1 := hN1.len hfa.1
  have l2 := hD1.len hfa.2
  obtain ⟨j, hj⟩ : ∃ j, j = min k (tz r.num.natAbs) := ⟨_, rfl⟩
  refine cp_region ?_
  refine zM rfl hst rfl ?_
  refine stepK_d rfl rfl rfl hst (Does.no (does_geq rfl rfl rfl) (by omega)) ?_
  refine znt ?_
  refine cp_cond_false rfl ?_
  refine zk4 ?_
  refine zM rfl hst rfl ?_
  refine stepK_d rfl rfl rfl hst (Does.nat (b := k) (Does.int (does_neg rfl rfl) (wrap_i64 (by omega) (by omega))) (by omega)) ?_
  refine zM rfl hst rfl ?_
  refine stepK_call rfl rfl rfl rfl rfl hst (num_trailing hst.agree hz hN1 (by omega)) ?_
  clear hst
  intro v4 g4 w4 hst hle4 hcs4 hp4
  replace ha := ha.mono hle4
  replace hz := hz.mono hle4
  replace hN1 := hN1.mono hle4
  replace hD1 := hD1.mono hle4
  obtain rfl := hp4
  refine stepK_d rfl rfl rfl hst (Does.nat (b := j) (does_min rfl rfl rfl) (by split <;> omega)) ?_
  refine zA rfl hst rfl ?_
  refine zn4 ?_
  refine zM rfl hst rfl ?_
  refine zM rfl hst rfl ?_
  refine zM rfl hst rfl ?_
  refine stepK_call rfl rfl rfl rfl rfl hst (num_right hst.agree hN1 (by omega) (by omega)) ?_
  clear hst
  intro v5 g5 w5 hst hle5 hcs5 hp5
  replace ha := ha.mono hle5
  replace hz := hz.mono hle5
  replace hN1 := hN1.mono hle5
  replace hD1 := hD1.mono hle5
  obtain ⟨A2, n2, c2, rfl, hL⟩ := hp5
  refine zM rfl hst rfl ?_
  refine zM rfl hst rfl ?_
  refine stepK_d rfl rfl rfl hst (Does.nat (b := k) (Does.int (does_neg rfl rfl) (wrap_i64 (by omega) (by omega))) (by omega)) ?_
  refine zM rfl hst rfl ?_
  refine stepK_d rfl rfl rfl hst (Does.nat (b := k - j) (Does.int (does_sub rfl rfl rfl) (wrap_i64 (by omega) (by omega))) (by omega)) ?_
  refine stepK_call rfl rfl rfl rfl rfl hst (num_left hst.agree hD1 (by omega) (by omega)) ?_
  clear hst
  intro v6 g6 w6 hst hle6 hcs6 hp6
  replace ha := ha.mono hle6
  replace hz := hz.mono hle6
  replace hN1 := hN1.mono hle6
  replace hD1 := hD1.mono hle6
  replace hL := hL.mono hle6
  obtain ⟨B2, m2, d2, rfl, hR⟩ := hp6
  refine stepK_call rfl rfl rfl rfl rfl hst (num_lowestC hst.agree hL hR (Nat.mul_pos (Nat.pos_of_ne_zero r.den_nz) (Nat.pow_pos (by decide))) (shift_gcd_down r hj)) ?_
  clear hst
  intro v7 g7 w7 hst hle7 hcs7 hp7
  replace ha := ha.mono hle7
  replace hz := hz.mono hle7
  replace hN1 := hN1.mono hle7
  replace hD1 := hD1.mono hle7
  replace hL := hL.mono hle7
  replace hR := hR.mono hle7
  obtain ⟨p9, q9, a9, rfl, hr9⟩ := hp7
  refine stepK_store 1 rfl rfl rfl rfl rfl rfl zf31 rfl rfl hst rfl (by first | (simp [uN_length]; omega) | simp) ?_
  clear hst
  intro w8 hst
  simp only [zL, splice, Nat.reduceAdd] at hst
  refine znt ?_
  refine cp_ret ?_
  refine ret1c (k := 1) rfl rfl (by kernel_rfl) (by kernel_rfl) rfl hst rfl ?_
  rw [shift_down hj] at hr9
  exact ⟨_, _, _, rfl, hr9⟩


theorem Rat_ShiftD {g : Mem} {w : World} (hag : Agree g w) {p q : Int} {a : Option Addr} {r : Rat} (ha : IsRat g p q a r) (hfa : Fit r) (hz : TzG g) {k : Nat} (hk : k ≤ 4096) : CallTo Tryz.prog 37 #[.agg #[.int .i64 p, .int .i64 q, .pointer a], .int .i64 (-(k : Int))] w (Ret w g fun v g => ∃ p q a, v = .agg #[.int .i64 p, .int .i64 q, .pointer a] ∧ IsRat g p q a (r / (((2 ^ k : Nat) : Int) : Rat))) := by
  rcases Nat.eq_zero_or_pos k with h | h
  subst h
  have e : r / (((2 ^ 0 : Nat) : Int) : Rat) = r * (((2 ^ 0 : Nat) : Int) : Rat) := by
    rw [Nat.pow_zero, Rat.div_def, show (((1 : Nat) : Int) : Rat) = 1 from rfl, show (1 : Rat)⁻¹ = 1 by decide +kernel]
  rw [e]
  exact Rat_ShiftP hag ha hfa hz hk
  exact Rat_ShiftN hag ha hfa hz hk h

end Go.Proofs.YtnbcedkpkcgmkaaGreatDoor

namespace Go.Proofs.YtnbcedkpkcgmkaaGreatDoor
open Go Go.RowKit Go.Proofs.Vc
set_option linter.unusedVariables false
set_option linter.unusedSimpArgs false

set_option maxHeartbeats 4000000 in
theorem nearest_Dyadic {g : Mem} {w : World} (hag : Agree g w) (hT : TabG Tryz.prog g) (hz : TzG g) {a : ByteArray} (ha : a.size ≤ 100) {z : Int} (z1 : -9223372036854775808 ≤ z) (z2 : z ≤ 9223372036854775807) :
    CallTo Tryz.prog 10 #[.string a, .int .i64 z] w (Ret w g fun v g => v = .tuple #[.string (if (readR a).isSome ∧ 0 ≤ z ∧ z ≤ 4096 then ratS (dyR (getR a) z.toNat) else ⟨#[]⟩), .int .i64 (if (readR a).isSome then (if 0 ≤ z ∧ z ≤ 4096 then 0 else 3) else 1)]) := by
  refine CallTo.enter (vs := [.string a, .int .i64 z]) zf138 (by kernel_rfl) rfl rfl rfl ?_
  have hst := St.init hag
  have sx := (getR_sz a).mono (m := 101) (by omega)
  have fx := sx.fit (by decide)
  refine zsr ?_
  refine zA rfl hst rfl ?_
  refine zA rfl hst rfl ?_
  refine zn4 ?_
  refine zM rfl hst rfl ?_
  refine stepK_call rfl rfl rfl rfl rfl hst (num_Of hst.agree (by omega)) ?_
  clear hst
  intro v1 g1 w1 hst hle1 hcs1 hp1
  replace hT := hT.mono hle1
  replace hz := hz.mono hle1
  obtain ⟨p1, q1, a1, rfl, h1⟩ := hp1
  refine zM rfl hst rfl ?_
  refine zE rfl hst rfl rfl ?_
  refine zE rfl hst rfl rfl ?_
  refine stepK_alloc rfl rfl rfl rfl zf29 rfl hst ?_
  clear hst
  intro b6 w2 hst
  refine stepK_store 0 rfl rfl rfl rfl rfl rfl zf31 rfl rfl hst rfl (by first | (simp [uN_length]; omega) | simp) ?_
  clear hst
  intro w3 hst
  simp only [zL, splice, Nat.reduceAdd] at hst
  refine zA rfl hst rfl ?_
  refine znq ?_
  refine cp_block ?_
  refine zsr ?_
  refine zM rfl hst rfl ?_
  refine stepK_d rfl rfl rfl hst (does_not rfl rfl) ?_
  refine zA rfl hst rfl ?_
  refine znt ?_
  refine cp_cond rfl ?_ ?_
  intro c16
  have hno : ¬ (readR a).isSome := fun h => by rw [h] at c16; cases c16
  refine zsr ?_
  refine zA rfl hst rfl ?_
  refine zA rfl hst rfl ?_
  refine znt ?_
  refine cp_ret ?_
  refine at_block_ret ?_
  refine at_then_ret ?_
  refine ret2 rfl rfl rfl hst ?_
  rw [if_neg (fun h => hno h.1), if_neg hno]
  intro c16
  have hs1 : (readR a).isSome = true := by simpa using c16
  refine zsr ?_
  refine zM rfl hst rfl ?_
  refine stepK_d rfl rfl rfl hst (does_lss rfl rfl rfl) ?_
  refine zM rfl hst rfl ?_
  refine wpK_split (t := 22) rfl ?_ ?_
  intro s22
  have hzr : ¬ (0 ≤ z ∧ z ≤ 4096) := by omega
  refine stepK_pass rfl rfl rfl rfl rfl rfl rfl ?_
  refine stepK_pass rfl rfl rfl rfl rfl rfl rfl ?_
  refine stepK_d rfl rfl rfl hst (does_pick_true rfl rfl rfl) ?_
  refine zA rfl hst rfl ?_
  refine znt ?_
  refine cp_cond_true rfl ?_
  refine zsr ?_
  refine zA rfl hst rfl ?_
  refine zA rfl hst rfl ?_
  refine znt ?_
  refine cp_ret ?_
  refine at_block_ret ?_
  refine at_then_ret ?_
  refine ret2 rfl rfl rfl hst ?_
  rw [if_neg (fun h => hzr h.2), if_pos hs1, if_neg hzr]
  intro s22
  refine stepK_guard rfl rfl rfl rfl rfl rfl hst (does_move rfl rfl) ?_
  refine stepK_guard rfl rfl rfl rfl rfl rfl hst (does_gtr rfl rfl rfl) ?_
  refine stepK_d rfl rfl rfl hst (does_pick_false rfl rfl rfl) ?_
  refine zA rfl hst rfl ?_
  refine znt ?_
  refine cp_if rfl ?_ ?_
  intro c19
  have hzr : ¬ (0 ≤ z ∧ z ≤ 4096) := by omega
  refine zsr ?_
  refine zA rfl hst rfl ?_
  refine zA rfl hst rfl ?_
  refine znt ?_
  refine cp_ret ?_
  refine at_block_ret ?_
  refine at_then_ret ?_
  refine ret2 rfl rfl rfl hst ?_
  rw [if_neg (fun h => hzr h.2), if_pos hs1, if_neg hzr]
  intro c19
  obtain ⟨k, rfl⟩ : ∃ k : Nat, z = (k : Int) := ⟨z.toNat, by omega⟩
  have hk : k ≤ 4096 := by omega
  have hp := two_pow_sz k
  have sX := sx.mul hp
  have fX := sX.fit (by omega)
  have sf := floor_sz sX
  have ff := sf.fit (by omega)
  have fd := (sX.sub sf).fit (by omega)
  have so : Sz 1 (Rat.divInt 1 2) := ⟨by decide +kernel, by decide +kernel⟩
  have fo := so.fit (by decide)
  have sn := halfEven_sz sX
  have fn := sn.fit (by omega)
  have s1 : Sz 1 ((1 : Int) : Rat) := ⟨by decide +kernel, by decide +kernel⟩
  refine cp_skip ?_
  refine at_block_normal ?_
  refine cp_then ?_
  refine zsr ?_
  refine stepK_d rfl rfl rfl hst (does_load_ownN 0 rfl (by kernel_rfl) zf31 rfl rfl rfl) ?_
  refine zM rfl hst rfl ?_
  refine stepK_call rfl rfl rfl rfl rfl hst (Rat_ShiftP hst.agree h1 fx hz hk) ?_
  clear hst
  intro v4 g4 w4 hst hle4 hcs4 hp4
  replace hT := hT.mono hle4
  replace hz := hz.mono hle4
  replace h1 := h1.mono hle4
  obtain ⟨p2, q2, a2, rfl, h2⟩ := hp4
  refine stepK_alloc rfl rfl rfl rfl zf29 rfl hst ?_
  clear hst
  intro b8 w5 hst
  refine stepK_store 1 rfl rfl rfl rfl rfl rfl zf31 rfl rfl hst rfl (by first | (simp [uN_length]; omega) | simp) ?_
  clear hst
  intro w6 hst
  simp only [zL, splice, Nat.reduceAdd] at hst
  refine zn4 ?_
  refine stepK_d rfl rfl rfl hst (does_load_ownN 1 rfl (by kernel_rfl) zf31 rfl rfl rfl) ?_
  refine stepK_call rfl rfl rfl rfl rfl hst (Rat_Floor hst.agree h2 fX) ?_
  clear hst
  intro v7 g7 w7 hst hle7 hcs7 hp7
  replace hT := hT.mono hle7
  replace hz := hz.mono hle7
  replace h1 := h1.mono hle7
  replace h2 := h2.mono hle7
  obtain ⟨p3, q3, a3, rfl, h3⟩ := hp7
  refine stepK_alloc rfl rfl rfl rfl zf29 rfl hst ?_
  clear hst
  intro b9 w8 hst
  refine stepK_store 2 rfl rfl rfl rfl rfl rfl zf31 rfl rfl hst rfl (by first | (simp [uN_length]; omega) | simp) ?_
  clear hst
  intro w9 hst
  simp only [zL, splice, Nat.reduceAdd] at hst
  refine znt ?_
  refine cp_join (ι := Int × Int × Option Addr) (fun (p6, q6, a6) => [(1, .int .i64 (k : Int)), (9, .pointer (some ⟨b9, 0, none⟩))]) (fun (p6, q6, a6) w2 => ∃ g2, St w [] g g2 [(b6, .cells #[.int .i64 p1, .int .i64 q1, .pointer a1] 63 (0, 0)), (b8, .cells #[.int .i64 p2, .int .i64 q2, .pointer a2] 63 (0, 0)), (b9, .cells #[.int .i64 p6, .int .i64 q6, .pointer a6] 63 (0, 0))] w2 ∧ IsRat g2 p6 q6 a6 ((halfEven (getR a * (((2 ^ k : Nat) : Int) : Rat)) : Int) : Rat) ∧ TabG Tryz.prog g2 ∧ TzG g2) ?c10 ?d10
  case c10 =>
    refine zsr ?_
    refine stepK_d rfl rfl rfl hst (does_load_ownN 1 rfl (by kernel_rfl) zf31 rfl rfl rfl) ?_
    refine stepK_d rfl rfl rfl hst (does_load_ownN 2 rfl (by kernel_rfl) zf31 rfl rfl rfl) ?_
    refine stepK_call rfl rfl rfl rfl rfl hst (Rat_Sub hst.agree h2 h3 fX ff) ?_
    clear hst
    intro v11 g11 w11 hst hle11 hcs11 hp11
    replace hT := hT.mono hle11
    replace hz := hz.mono hle11
    replace h1 := h1.mono hle11
    replace h2 := h2.mono hle11
    replace h3 := h3.mono hle11
    obtain ⟨p4, q4, a4, rfl, h4⟩ := hp11
    refine stepK_call rfl rfl rfl rfl rfl hst (num_Frac hst.agree (n := 1) (d := 2) (by decide) (by decide) (by decide) (by decide) (by decide)) ?_
    clear hst
    intro v12 g12 w12 hst hle12 hcs12 hp12
    replace hT := hT.mono hle12
    replace hz := hz.mono hle12
    replace h1 := h1.mono hle12
    replace h2 := h2.mono hle12
    replace h3 := h3.mono hle12
    replace h4 := h4.mono hle12
    obtain ⟨p5, q5, a5, rfl, h5⟩ := hp12
    refine stepK_call rfl rfl rfl rfl rfl hst (Rat_Cmp hst.agree h4 h5 fd fo) ?_
    clear hst
    intro v13 g13 w13 hst hle13 hcs13 hp13
    replace hT := hT.mono hle13
    replace hz := hz.mono hle13
    replace h1 := h1.mono hle13
    replace h2 := h2.mono hle13
    replace h3 := h3.mono hle13
    replace h4 := h4.mono hle13
    replace h5 := h5.mono hle13
    obtain rfl := hp13
    rw [half_sign]
    refine zA rfl hst rfl ?_
    refine zn4 ?_
    refine zM rfl hst rfl ?_
    refine stepK_d rfl rfl rfl hst (does_gtr rfl rfl rfl) ?_
    refine zM rfl hst rfl ?_
    refine wpK_split (t := 38) rfl ?_ ?_
    intro s38
    refine stepK_pass rfl rfl rfl rfl rfl rfl rfl ?_
    refine stepK_pass rfl rfl rfl rfl rfl rfl rfl ?_
    refine stepK_pass rfl rfl rfl rfl rfl rfl rfl ?_
    refine stepK_passU rfl rfl rfl rfl rfl rfl ?_
    refine stepK_passU rfl rfl rfl rfl rfl rfl ?_
    refine stepK_passU rfl rfl rfl rfl rfl rfl ?_
    refine stepK_passU rfl rfl rfl rfl rfl rfl ?_
    refine stepK_pass rfl rfl rfl rfl rfl rfl rfl ?_
    refine stepK_d rfl rfl rfl hst (does_pick_true rfl rfl rfl) ?_
    refine znt ?_
    refine cp_cond_true rfl ?_
    refine cp_drawn (by kernel_rfl) 3 [(0, true), (1, false), (2, false)] _ rfl (by kernel_rfl) (by kernel_rfl) (by kernel_rfl) (fun _ _ _ _ _ h => h) _ (hst.drew) ?_
    have hst0 := hst.drew
    clear hst
    have hst := hst0
    refine stepD_d rfl rfl rfl rfl (does_load_ownN 2 rfl (by kernel_rfl) zf31 rfl rfl rfl) ?_
    refine stepD_call rfl rfl rfl rfl rfl rfl hst (num_Int hst.agree (n := 1) (by decide) (by decide)) (fun _ _ h hle => St.older h hle (by simp) hst0.ext hst0.le) ?_
    clear hst
    intro v14 g14 w14 hst hle14 hcs14 hp14
    have hlesum := hle14
    replace hT := hT.mono hle14
    replace hz := hz.mono hle14
    replace h1 := h1.mono hle14
    replace h2 := h2.mono hle14
    replace h3 := h3.mono hle14
    replace h4 := h4.mono hle14
    replace h5 := h5.mono hle14
    obtain ⟨p49, q49, a49, rfl, h49⟩ := hp14
    refine stepD_call rfl rfl rfl rfl rfl rfl hst (Rat_Add hst.agree h3 h49 ff (s1.fit (by decide))) (fun _ _ h hle => St.older h (Mem.le.trans hlesum hle) (by simp) hst0.ext hst0.le) ?_
    clear hst
    intro v15 g15 w15 hst hle15 hcs15 hp15
    replace hlesum := Mem.le.trans hlesum hle15
    replace hT := hT.mono hle15
    replace hz := hz.mono hle15
    replace h1 := h1.mono hle15
    replace h2 := h2.mono hle15
    replace h3 := h3.mono hle15
    replace h4 := h4.mono hle15
    replace h5 := h5.mono hle15
    replace h49 := h49.mono hle15
    obtain ⟨p50, q50, a50, rfl, h50⟩ := hp15
    refine stepD_tail ?_
    refine stepK_store 2 rfl rfl rfl rfl rfl rfl zf31 rfl rfl hst rfl (by first | (simp [uN_length]; omega) | simp) ?_
    clear hst
    intro w16 hst
    simp only [zL, splice, Nat.reduceAdd] at hst
    refine wpK_nil ?_
    refine join_end ((p50, q50, a50)) ?_ ?_
    exact ⟨rfl, rfl, trivial⟩
    refine ⟨_, hst, h50.to ?_, hT, hz⟩
    rw [halfEven_up (.inl (by omega)), Rat.intCast_add]
    intro s38
    refine stepK_guard rfl rfl rfl rfl rfl rfl hst (does_move rfl rfl) ?_
    refine stepK_guard rfl rfl rfl rfl rfl rfl hst (does_eql rfl rfl rfl) ?_
    refine stepK_guard rfl rfl rfl rfl rfl rfl hst (does_move rfl rfl) ?_
    refine wpK_split (t := 41) rfl ?_ ?_
    intro s41
    refine stepK_guard rfl rfl rfl rfl rfl rfl hst (does_load_ownN 2 rfl (by kernel_rfl) zf31 rfl rfl rfl) ?_
    refine stepK_call_guard rfl rfl rfl rfl rfl rfl rfl rfl hst (Rat_ShiftN (k := 1) hst.agree h3 ff hz (by decide) (by decide)) ?_
    clear hst
    intro v17 g17 w17 hst hle17 hcs17 hp17
    replace hT := hT.mono hle17
    replace hz := hz.mono hle17
    replace h1 := h1.mono hle17
    replace h2 := h2.mono hle17
    replace h3 := h3.mono hle17
    replace h4 := h4.mono hle17
    replace h5 := h5.mono hle17
    obtain ⟨p43, q43, a43, rfl, h43⟩ := hp17
    refine stepK_call_guard rfl rfl rfl rfl rfl rfl rfl rfl hst (Rat_IsInt hst.agree h43 ((sf.div (two_pow_sz 1)).fit (by omega))) ?_
    clear hst
    intro v18 g18 w18 hst hle18 hcs18 hp18
    replace hT := hT.mono hle18
    replace hz := hz.mono hle18
    replace h1 := h1.mono hle18
    replace h2 := h2.mono hle18
    replace h3 := h3.mono hle18
    replace h4 := h4.mono hle18
    replace h5 := h5.mono hle18
    replace h43 := h43.mono hle18
    obtain rfl := hp18
    refine stepK_guard rfl rfl rfl rfl rfl rfl hst (does_not rfl rfl) ?_
    refine stepK_guard rfl rfl rfl rfl rfl rfl hst (does_pick_true rfl rfl rfl) ?_
    refine stepK_d rfl rfl rfl hst (does_pick_false rfl rfl rfl) ?_
    refine znt ?_
    refine cp_cond rfl ?_ ?_
    intro c47
    refine cp_drawn (by kernel_rfl) 3 [(0, true), (1, false), (2, false)] _ rfl (by kernel_rfl) (by kernel_rfl) (by kernel_rfl) (fun _ _ _ _ _ h => h) _ (hst.drew) ?_
    have hst0 := hst.drew
    clear hst
    have hst := hst0
    refine stepD_d rfl rfl rfl rfl (does_load_ownN 2 rfl (by kernel_rfl) zf31 rfl rfl rfl) ?_
    refine stepD_call rfl rfl rfl rfl rfl rfl hst (num_Int hst.agree (n := 1) (by decide) (by decide)) (fun _ _ h hle => St.older h hle (by simp) hst0.ext hst0.le) ?_
    clear hst
    intro v19 g19 w19 hst hle19 hcs19 hp19
    have hlesum := hle19
    replace hT := hT.mono hle19
    replace hz := hz.mono hle19
    replace h1 := h1.mono hle19
    replace h2 := h2.mono hle19
    replace h3 := h3.mono hle19
    replace h4 := h4.mono hle19
    replace h5 := h5.mono hle19
    replace h43 := h43.mono hle19
    obtain ⟨p49, q49, a49, rfl, h49⟩ := hp19
    refine stepD_call rfl rfl rfl rfl rfl rfl hst (Rat_Add hst.agree h3 h49 ff (s1.fit (by decide))) (fun _ _ h hle => St.older h (Mem.le.trans hlesum hle) (by simp) hst0.ext hst0.le) ?_
    clear hst
    intro v20 g20 w20 hst hle20 hcs20 hp20
    replace hlesum := Mem.le.trans hlesum hle20
    replace hT := hT.mono hle20
    replace hz := hz.mono hle20
    replace h1 := h1.mono hle20
    replace h2 := h2.mono hle20
    replace h3 := h3.mono hle20
    replace h4 := h4.mono hle20
    replace h5 := h5.mono hle20
    replace h43 := h43.mono hle20
    replace h49 := h49.mono hle20
    obtain ⟨p50, q50, a50, rfl, h50⟩ := hp20
    refine stepD_tail ?_
    refine stepK_store 2 rfl rfl rfl rfl rfl rfl zf31 rfl rfl hst rfl (by first | (simp [uN_length]; omega) | simp) ?_
    clear hst
    intro w21 hst
    simp only [zL, splice, Nat.reduceAdd] at hst
    refine wpK_nil ?_
    refine join_end ((p50, q50, a50)) ?_ ?_
    exact ⟨rfl, rfl, trivial⟩
    refine ⟨_, hst, h50.to ?_, hT, hz⟩
    rw [halfEven_up (.inr ⟨s41, odd_of_half c47⟩), Rat.intCast_add]
    intro c47
    refine cp_skip ?_
    refine join_end ((p3, q3, a3)) ?_ ?_
    exact ⟨rfl, rfl, trivial⟩
    refine ⟨_, hst, h3.to ?_, hT, hz⟩
    rw [halfEven_down (fun h => by rcases h with h | h <;> first | omega | (have := h.2; have := even_of_half c47; omega))]
    intro s41
    refine stepK_pass rfl rfl rfl rfl rfl rfl rfl ?_
    refine stepK_pass rfl rfl rfl rfl rfl rfl rfl ?_
    refine stepK_pass rfl rfl rfl rfl rfl rfl rfl ?_
    refine stepK_pass rfl rfl rfl rfl rfl rfl rfl ?_
    refine stepK_guard rfl rfl rfl rfl rfl rfl hst (does_pick_false rfl rfl rfl) ?_
    refine stepK_d rfl rfl rfl hst (does_pick_false rfl rfl rfl) ?_
    refine znt ?_
    refine cp_cond_false rfl ?_
    refine cp_skip ?_
    refine join_end ((p3, q3, a3)) ?_ ?_
    exact ⟨rfl, rfl, trivial⟩
    refine ⟨_, hst, h3.to ?_, hT, hz⟩
    rw [halfEven_down (fun h => by rcases h with h | h <;> omega)]
  case d10 =>
    clear hst
    clear hT hz h1 h2 h3
    rintro ⟨p6, q6, a6⟩ w2 ⟨g2, hst, h6, hT, hz⟩
    simp only
    refine zsr ?_
    refine stepK_d rfl rfl rfl hst (does_load_ownN 2 rfl (by kernel_rfl) zf31 rfl rfl rfl) ?_
    refine zM rfl hst rfl ?_
    refine stepK_d rfl rfl rfl hst (Does.int (does_neg rfl rfl) (wrap_i64 (by omega) (by omega))) ?_
    refine stepK_call rfl rfl rfl rfl rfl hst (Rat_ShiftD hst.agree h6 fn hz hk) ?_
    clear hst
    intro v22 g22 w22 hst hle22 hcs22 hp22
    replace hT := hT.mono hle22
    replace hz := hz.mono hle22
    replace h6 := h6.mono hle22
    obtain ⟨p7, q7, a7, rfl, h7⟩ := hp22
    refine stepK_call rfl rfl rfl rfl rfl hst (Rat_String hst.agree hT h7 ((sn.div hp).fit (by omega))) ?_
    clear hst
    intro v23 g23 w23 hst hle23 hcs23 hp23
    replace hT := hT.mono hle23
    replace hz := hz.mono hle23
    replace h6 := h6.mono hle23
    replace h7 := h7.mono hle23
    obtain rfl := hp23
    refine zA rfl hst rfl ?_
    refine zA rfl hst rfl ?_
    refine znt ?_
    refine cp_ret ?_
    refine ret2 rfl rfl rfl hst ?_
    rw [if_pos ⟨hs1, by omega, by omega⟩, if_pos hs1, if_pos ⟨by omega, by omega⟩, Int.toNat_natCast, dyR_div]

end Go.Proofs.YtnbcedkpkcgmkaaGreatDoor
