/- A helper of the claim: general lemmas and walks of functions, printed by a program of this session. Conditions: none. -/
import Derived.Test.YtcjhnkmoloiepaaDoorP2
import Derived.Test.YtcjhnkmoloiepaaDoorQ1
import Derived.Test.YtcjhnkmoloiepaaDoorQ3
import Derived.Test.YtcjhnkmoloiepaaDoorProg
import Derived.Test.YtcjhnkmoloiepaaDoorF0
namespace Go.Proofs.YtcjhnkmoloiepaaDoor
open Go Go.RowKit Go.Proofs.Vc
set_option linter.unusedVariables false
set_option linter.unusedSimpArgs false

set_option maxHeartbeats 1000000 in
theorem mod_IsPrime {g : Mem} {w : World} (hag : Agree g w) {n : Int} (z1 : -9223372036854775808 ≤ n) (z2 : n ≤ 9223372036854775807)  :
    CallTo Tryd.prog 8 #[.int .i64 n] w (Ret w g fun v g => v = .bool (decide (Prm n))) := by
  refine CallTo.enter (vs := [.int .i64 n]) zf82 (by kernel_rfl) rfl rfl rfl ?_
  have hst := St.init hag
  refine zsr ?_
  refine zA rfl hst rfl ?_
  refine znq ?_
  refine zsr ?_
  refine zM rfl hst rfl ?_
  refine stepK_d rfl rfl rfl hst (does_lss rfl rfl rfl) ?_
  refine zM rfl hst rfl ?_
  refine wpK_split (t := 6) rfl ?_ ?_
  intro s6
  have hno : ¬ Prm n := fun h => by have := h.1; omega
  refine stepK_pass rfl rfl rfl rfl rfl rfl rfl ?_
  refine stepK_pass rfl rfl rfl rfl rfl rfl rfl ?_
  refine stepK_d rfl rfl rfl hst (does_pick_true rfl rfl rfl) ?_
  refine znt ?_
  refine cp_cond_true rfl ?_
  refine zsr ?_
  refine zA rfl hst rfl ?_
  refine zn5 ?_
  refine ret1 rfl rfl hst ?_
  rw [decide_eq_false hno]
  intro s6
  refine stepK_guard rfl rfl rfl rfl rfl rfl hst (does_move rfl rfl) ?_
  refine stepK_guard rfl rfl rfl rfl rfl rfl hst (does_gtr rfl rfl rfl) ?_
  refine stepK_d rfl rfl rfl hst (does_pick_false rfl rfl rfl) ?_
  refine znt ?_
  refine cp_if rfl ?_ ?_
  intro c9
  have hno : ¬ Prm n := fun h => by have := h.2.1; omega
  refine zsr ?_
  refine zA rfl hst rfl ?_
  refine zn5 ?_
  refine ret1 rfl rfl hst ?_
  rw [decide_eq_false hno]
  intro c9
  refine cp_skip ?_
  refine cp_then ?_
  refine cp_seq ?_
  refine zsr ?_
  refine zA rfl hst rfl ?_
  refine znt ?_
  refine cp_block ?_
  refine cp_loop (ι := Nat) (fun d => [(0, .int .i64 n), (3, .int .i64 (d : Int))]) (fun d w1 => St w [] g g [] w1 ∧ 2 ≤ d ∧ d ≤ 46341 ∧ ∀ e : Int, 2 ≤ e → e < (d : Int) → e * e ≤ n → ¬ n.tmod e = 0) (fun d => 46342 - d) 2 ?k1 ?i1 ?r1
  case k1 => exact ⟨rfl, kint rfl, trivial⟩
  case i1 =>
    exact ⟨hst, by decide, by decide, fun e h1 h2 => by omega⟩
  case r1 =>
    clear hst
    rintro d w1 ⟨hst, hd2, hd, hdv⟩
    have hq := dsq hd
    refine cp_seq ?_
    refine zsr ?_
    refine zM rfl hst rfl ?_
    refine zM rfl hst rfl ?_
    refine stepK_d rfl rfl rfl hst (Does.int (does_mul rfl rfl rfl) (wrap_i64 (by omega) (by omega))) ?_
    refine zM rfl hst rfl ?_
    refine stepK_d rfl rfl rfl hst (does_leq rfl rfl rfl) ?_
    refine znt ?_
    refine cp_if rfl ?_ ?_
    intro c14
    refine cp_skip ?_
    refine cp_then ?_
    refine cp_seq ?_
    refine cp_block ?_
    refine zsr ?_
    refine zM rfl hst rfl ?_
    refine zM rfl hst rfl ?_
    refine stepK_d rfl rfl rfl hst (does_rem rfl rfl rfl (by omega)) ?_
    refine stepK_d rfl rfl rfl hst (does_eql rfl rfl rfl) ?_
    refine znt ?_
    refine cp_if rfl ?_ ?_
    intro c20
    have hno : ¬ Prm n := fun h => h.2.2 d (by omega) c14 c20
    refine zsr ?_
    refine zA rfl hst rfl ?_
    refine znt ?_
    refine cp_ret ?_
    refine at_block_ret ?_
    refine at_then_ret ?_
    refine at_then_ret ?_
    refine at_block_ret ?_
    refine at_then_ret ?_
    refine ret1 rfl rfl hst ?_
    rw [decide_eq_false hno]
    intro c20
    refine cp_skip ?_
    refine at_block_normal ?_
    refine cp_then ?_
    refine cp_region ?_
    refine zM rfl hst rfl ?_
    refine stepK_d rfl rfl rfl hst (Does.int (does_add rfl rfl rfl) (wrap_i64 (by omega) (by omega))) ?_
    refine zA rfl hst rfl ?_
    refine wpK_nil ?_
    refine round_end (d + 1) ?_ ?_ ?_
    exact ⟨rfl, (kint (by omega)), trivial⟩
    exact ⟨hst, by omega, by have := dsq_lt (d := d) (by omega); omega, prm_more c20 hdv⟩
    show 46342 - (d + 1) < 46342 - d
    omega
    intro c14
    refine cp_exit ?_
    refine at_then_exit ?_
    refine at_then_exit ?_
    refine cp_exit_here ?_
    refine cp_then ?_
    refine zsr ?_
    refine zA rfl hst rfl ?_
    refine znt ?_
    refine cp_ret ?_
    refine ret1 rfl rfl hst ?_
    rw [decide_eq_true (prm_end (by omega) (by omega) c14 hdv)]

set_option maxHeartbeats 1000000 in
theorem rmod_IsPrime {g : Mem} {w : World} (hag : Agree g w) {n : Int} (z1 : -9223372036854775808 ≤ n) (z2 : n ≤ 9223372036854775807)  :
    CallTo Tryd.prog 9 #[.int .i64 n] w (Ret w g fun v g => v = .bool (decide (Prm n))) := by
  refine CallTo.enter (vs := [.int .i64 n]) zf83 (by kernel_rfl) rfl rfl rfl ?_
  have hst := St.init hag
  refine zsr ?_
  refine zA rfl hst rfl ?_
  refine znq ?_
  refine zsr ?_
  refine zM rfl hst rfl ?_
  refine stepK_d rfl rfl rfl hst (does_lss rfl rfl rfl) ?_
  refine zM rfl hst rfl ?_
  refine wpK_split (t := 6) rfl ?_ ?_
  intro s6
  have hno : ¬ Prm n := fun h => by have := h.1; omega
  refine stepK_pass rfl rfl rfl rfl rfl rfl rfl ?_
  refine stepK_pass rfl rfl rfl rfl rfl rfl rfl ?_
  refine stepK_d rfl rfl rfl hst (does_pick_true rfl rfl rfl) ?_
  refine znt ?_
  refine cp_cond_true rfl ?_
  refine zsr ?_
  refine zA rfl hst rfl ?_
  refine zn5 ?_
  refine ret1 rfl rfl hst ?_
  rw [decide_eq_false hno]
  intro s6
  refine stepK_guard rfl rfl rfl rfl rfl rfl hst (does_move rfl rfl) ?_
  refine stepK_guard rfl rfl rfl rfl rfl rfl hst (does_gtr rfl rfl rfl) ?_
  refine stepK_d rfl rfl rfl hst (does_pick_false rfl rfl rfl) ?_
  refine znt ?_
  refine cp_if rfl ?_ ?_
  intro c9
  have hno : ¬ Prm n := fun h => by have := h.2.1; omega
  refine zsr ?_
  refine zA rfl hst rfl ?_
  refine zn5 ?_
  refine ret1 rfl rfl hst ?_
  rw [decide_eq_false hno]
  intro c9
  refine cp_skip ?_
  refine cp_then ?_
  refine cp_seq ?_
  refine zsr ?_
  refine zA rfl hst rfl ?_
  refine znt ?_
  refine cp_block ?_
  refine cp_loop (ι := Nat) (fun d => [(0, .int .i64 n), (3, .int .i64 (d : Int))]) (fun d w1 => St w [] g g [] w1 ∧ 2 ≤ d ∧ d ≤ 46341 ∧ ∀ e : Int, 2 ≤ e → e < (d : Int) → e * e ≤ n → ¬ n.tmod e = 0) (fun d => 46342 - d) 2 ?k1 ?i1 ?r1
  case k1 => exact ⟨rfl, kint rfl, trivial⟩
  case i1 =>
    exact ⟨hst, by decide, by decide, fun e h1 h2 => by omega⟩
  case r1 =>
    clear hst
    rintro d w1 ⟨hst, hd2, hd, hdv⟩
    have hq := dsq hd
    refine cp_seq ?_
    refine zsr ?_
    refine zM rfl hst rfl ?_
    refine zM rfl hst rfl ?_
    refine stepK_d rfl rfl rfl hst (Does.int (does_mul rfl rfl rfl) (wrap_i64 (by omega) (by omega))) ?_
    refine zM rfl hst rfl ?_
    refine stepK_d rfl rfl rfl hst (does_leq rfl rfl rfl) ?_
    refine znt ?_
    refine cp_if rfl ?_ ?_
    intro c14
    refine cp_skip ?_
    refine cp_then ?_
    refine cp_seq ?_
    refine cp_block ?_
    refine zsr ?_
    refine zM rfl hst rfl ?_
    refine zM rfl hst rfl ?_
    refine stepK_d rfl rfl rfl hst (does_rem rfl rfl rfl (by omega)) ?_
    refine stepK_d rfl rfl rfl hst (does_eql rfl rfl rfl) ?_
    refine znt ?_
    refine cp_if rfl ?_ ?_
    intro c20
    have hno : ¬ Prm n := fun h => h.2.2 d (by omega) c14 c20
    refine zsr ?_
    refine zA rfl hst rfl ?_
    refine znt ?_
    refine cp_ret ?_
    refine at_block_ret ?_
    refine at_then_ret ?_
    refine at_then_ret ?_
    refine at_block_ret ?_
    refine at_then_ret ?_
    refine ret1 rfl rfl hst ?_
    rw [decide_eq_false hno]
    intro c20
    refine cp_skip ?_
    refine at_block_normal ?_
    refine cp_then ?_
    refine cp_region ?_
    refine zM rfl hst rfl ?_
    refine stepK_d rfl rfl rfl hst (Does.int (does_add rfl rfl rfl) (wrap_i64 (by omega) (by omega))) ?_
    refine zA rfl hst rfl ?_
    refine wpK_nil ?_
    refine round_end (d + 1) ?_ ?_ ?_
    exact ⟨rfl, (kint (by omega)), trivial⟩
    exact ⟨hst, by omega, by have := dsq_lt (d := d) (by omega); omega, prm_more c20 hdv⟩
    show 46342 - (d + 1) < 46342 - d
    omega
    intro c14
    refine cp_exit ?_
    refine at_then_exit ?_
    refine at_then_exit ?_
    refine cp_exit_here ?_
    refine cp_then ?_
    refine zsr ?_
    refine zA rfl hst rfl ?_
    refine znt ?_
    refine cp_ret ?_
    refine ret1 rfl rfl hst ?_
    rw [decide_eq_true (prm_end (by omega) (by omega) c14 hdv)]

end Go.Proofs.YtcjhnkmoloiepaaDoor

namespace Go.Proofs.YtcjhnkmoloiepaaDoor
open Go Go.RowKit Go.Proofs.Vc
set_option linter.unusedVariables false
set_option linter.unusedSimpArgs false

set_option maxHeartbeats 1000000 in
theorem mod_power {g : Mem} {w : World} (hag : Agree g w) {A N p : Nat} (hA : A < 4294967296) (hN : N < 18446744073709551616) (hp : 0 < p) (hp2 : p < 4294967296) :
    CallTo Tryd.prog 23 #[.int .u64 (A : Int), .int .u64 (N : Int), .int .u64 (p : Int)] w (Ret w g fun v g => v = .int .u64 ((powM A N p : Nat) : Int)) := by
  refine CallTo.enter (vs := [.int .u64 (A : Int), .int .u64 (N : Int), .int .u64 (p : Int)]) zf84 (by kernel_rfl) rfl rfl rfl ?_
  have hst := St.init hag
  refine zsr ?_
  refine zA rfl hst rfl ?_
  refine zn4 ?_
  refine zM rfl hst rfl ?_
  refine stepK_d rfl rfl rfl hst (does_rem_n (a := 1) rfl rfl rfl (by omega)) ?_
  refine zA rfl hst rfl ?_
  refine znq ?_
  refine cp_block ?_
  refine cp_loop (ι := Nat × Nat × Nat) (fun (a, n, o) => [(0, .int .u64 (a : Int)), (1, .int .u64 (n : Int)), (2, .int .u64 (p : Int)), (7, .int .u64 (o : Int))]) (fun (a, n, o) w1 => St w [] g g [] w1 ∧ a < 4294967296 ∧ n ≤ N ∧ o < p ∧ o * a ^ n % p = powM A N p) (fun (a, n, o) => n) (A, N, 1 % p) ?k1 ?i1 ?r1
  case k1 => exact ⟨rfl, rfl, rfl, rfl, trivial⟩
  case i1 =>
    exact ⟨hst, hA, Nat.le_refl _, Nat.mod_lt _ hp, pow_start⟩
  case r1 =>
    clear hst
    rintro ⟨a, n, o⟩ w1 ⟨hst, ha, hn, ho, hv⟩
    have hm1 := mul32 (show o < 4294967296 by omega) ha
    have hm2 := mul32 ha ha
    refine cp_seq ?_
    refine zsr ?_
    refine zM rfl hst rfl ?_
    refine stepK_d rfl rfl rfl hst (does_gtr_n (b := 0) rfl rfl rfl) ?_
    refine znt ?_
    refine cp_if rfl ?_ ?_
    intro c11
    refine cp_skip ?_
    refine cp_then ?_
    refine cp_seq ?_
    refine cp_block ?_
    refine cp_join (ι := Nat) (fun o2 => [(0, .int .u64 (a : Int)), (1, .int .u64 (n : Int)), (2, .int .u64 (p : Int)), (7, .int .u64 (o2 : Int))]) (fun o2 w2 => St w [] g g [] w2 ∧ o2 < p ∧ o2 * (a * a % p) ^ (n / 2) % p = powM A N p) ?c2 ?d2
    case c2 =>
      refine zsr ?_
      refine zM rfl hst rfl ?_
      refine stepK_d rfl rfl rfl hst (does_low_bit rfl rfl rfl (by omega)) ?_
      refine stepK_d rfl rfl rfl hst (does_eql_n (b := 1) rfl rfl rfl) ?_
      refine znt ?_
      refine cp_if rfl ?_ ?_
      intro c16
      refine cp_region ?_
      refine zM rfl hst rfl ?_
      refine zM rfl hst rfl ?_
      refine stepK_d rfl rfl rfl hst (does_mul_u64x rfl rfl rfl (by omega)) ?_
      refine zM rfl hst rfl ?_
      refine stepK_d rfl rfl rfl hst (does_rem_n rfl rfl rfl (by omega)) ?_
      refine zA rfl hst rfl ?_
      refine wpK_nil ?_
      refine join_end (o * a % p) ?_ ?_
      exact ⟨rfl, rfl, rfl, rfl, trivial⟩
      exact ⟨hst, Nat.mod_lt _ hp, pow_round_odd hv (by omega)⟩
      intro c16
      refine cp_skip ?_
      refine join_end (o) ?_ ?_
      exact ⟨rfl, rfl, rfl, rfl, trivial⟩
      exact ⟨hst, ho, pow_round_even hv (by omega)⟩
    case d2 =>
      clear hst
      rintro o2 w2 ⟨hst, ho2, hv2⟩
      refine cp_region ?_
      refine zM rfl hst rfl ?_
      refine zM rfl hst rfl ?_
      refine stepK_d rfl rfl rfl hst (does_mul_u64x rfl rfl rfl (by omega)) ?_
      refine zM rfl hst rfl ?_
      refine stepK_d rfl rfl rfl hst (does_rem_n rfl rfl rfl (by omega)) ?_
      refine zA rfl hst rfl ?_
      refine wpK_nil ?_
      refine at_block_normal ?_
      refine cp_then ?_
      refine cp_region ?_
      refine zM rfl hst rfl ?_
      refine stepK_d rfl rfl rfl hst (does_shr_u64c (c := 1) (pw := 2) rfl rfl rfl (by decide)) ?_
      refine zA rfl hst rfl ?_
      refine wpK_nil ?_
      refine round_end ((a * a % p, n / 2, o2)) ?_ ?_ ?_
      exact ⟨rfl, rfl, rfl, rfl, trivial⟩
      exact ⟨hst, by have := Nat.mod_lt (a * a) hp; omega, by omega, ho2, hv2⟩
      show n / 2 < n
      omega
    intro c11
    refine cp_exit ?_
    refine at_then_exit ?_
    refine at_then_exit ?_
    refine cp_exit_here ?_
    refine cp_then ?_
    refine zsr ?_
    refine zM rfl hst rfl ?_
    refine zA rfl hst rfl ?_
    refine znt ?_
    refine cp_ret ?_
    refine ret1 rfl rfl hst ?_
    obtain rfl : n = 0 := by omega
    rw [← pow_end ho hv]

end Go.Proofs.YtcjhnkmoloiepaaDoor

namespace Go.Proofs.YtcjhnkmoloiepaaDoor
open Go Go.RowKit Go.Proofs.Vc
set_option linter.unusedVariables false
set_option linter.unusedSimpArgs false

set_option maxHeartbeats 1000000 in
theorem mod_residue {g : Mem} {w : World} (hag : Agree g w) {a : Int} (z1 : -9223372036854775808 ≤ a) (z2 : a ≤ 9223372036854775807) {p : Int} (hp0 : 0 < p) (hp1 : p ≤ 2147483647)  :
    CallTo Tryd.prog 24 #[.int .i64 a, .int .i64 p] w (Ret w g fun v g => v = .int .u64 (((a % p).toNat : Nat) : Int)) := by
  refine CallTo.enter (vs := [.int .i64 a, .int .i64 p]) zf85 (by kernel_rfl) rfl rfl rfl ?_
  have hst := St.init hag
  have hf := tmod_fix a p hp0
  have hb1 := Int.emod_nonneg a (show p ≠ 0 by omega)
  have hb2 := Int.emod_lt_of_pos a hp0
  refine zsr ?_
  refine zA rfl hst rfl ?_
  refine zn4 ?_
  refine zM rfl hst rfl ?_
  refine zM rfl hst rfl ?_
  refine stepK_d rfl rfl rfl hst (does_rem rfl rfl rfl (by omega)) ?_
  refine zA rfl hst rfl ?_
  refine znq ?_
  refine zsr ?_
  refine zM rfl hst rfl ?_
  refine stepK_d rfl rfl rfl hst (does_lss rfl rfl rfl) ?_
  refine znt ?_
  refine cp_if rfl ?_ ?_
  intro c10
  rw [if_pos c10] at hf
  refine cp_region ?_
  refine zM rfl hst rfl ?_
  refine zM rfl hst rfl ?_
  refine stepK_d rfl rfl rfl hst (Does.int (does_add rfl rfl rfl) (wrap_i64 (by omega) (by omega))) ?_
  refine zA rfl hst rfl ?_
  refine zn4 ?_
  refine zM rfl hst rfl ?_
  refine stepK_d rfl rfl rfl hst (Does.nat (b := (a % p).toNat) (does_conv rfl (by kernel_rfl) (by kernel_rfl) rfl) (by rw [hf, IntKind.wrap_u64]; omega)) ?_
  refine zA rfl hst rfl ?_
  refine znt ?_
  refine cp_ret ?_
  refine ret1 rfl rfl hst ?_
  rfl
  intro c10
  rw [if_neg c10] at hf
  refine zk4 ?_
  refine zM rfl hst rfl ?_
  refine stepK_d rfl rfl rfl hst (Does.nat (b := (a % p).toNat) (does_conv rfl (by kernel_rfl) (by kernel_rfl) rfl) (by rw [hf, IntKind.wrap_u64]; omega)) ?_
  refine zA rfl hst rfl ?_
  refine znt ?_
  refine cp_ret ?_
  refine ret1 rfl rfl hst ?_
  rfl

end Go.Proofs.YtcjhnkmoloiepaaDoor
