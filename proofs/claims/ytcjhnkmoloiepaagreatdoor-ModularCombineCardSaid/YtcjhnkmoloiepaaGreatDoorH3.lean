/- A helper of the claim: general lemmas and walks of functions, printed by a program of this session. Conditions: none. -/
import Derived.Test.YtcjhnkmoloiepaaGreatDoorP2
import Derived.Test.YtcjhnkmoloiepaaGreatDoorQ1
import Derived.Test.YtcjhnkmoloiepaaGreatDoorProg
import Derived.Test.YtcjhnkmoloiepaaGreatDoorH1
import Derived.Test.YtcjhnkmoloiepaaGreatDoorF0
namespace Go.Proofs.YtcjhnkmoloiepaaGreatDoor
open Go Go.RowKit Go.Proofs.Vc
set_option linter.unusedVariables false
set_option linter.unusedSimpArgs false

set_option maxHeartbeats 1000000 in
theorem rmod_power {g : Mem} {w : World} (hag : Agree g w) {A N p : Nat} (hA : A < 2147483648) (hN : N < 9223372036854775808) (hp : 0 < p) (hp2 : p < 2147483648) :
    CallTo Tryz.prog 45 #[.int .i64 (A : Int), .int .i64 (N : Int), .int .i64 (p : Int)] w (Ret w g fun v g => v = .int .i64 ((powM A N p : Nat) : Int)) := by
  refine CallTo.enter (vs := [.int .i64 (A : Int), .int .i64 (N : Int), .int .i64 (p : Int)]) zf135 (by kernel_rfl) rfl rfl rfl ?_
  have hst := St.init hag
  refine zsr ?_
  refine zA rfl hst rfl ?_
  refine zn4 ?_
  refine zM rfl hst rfl ?_
  refine stepK_d rfl rfl rfl hst (Does.nat (b := 1 % p) (does_rem_p (a := 1) rfl rfl rfl (by omega)) rfl) ?_
  refine zA rfl hst rfl ?_
  refine znq ?_
  refine cp_block ?_
  refine cp_loop (ι := Nat × Nat × Nat) (fun (a, n, o) => [(0, .int .i64 (a : Int)), (1, .int .i64 (n : Int)), (2, .int .i64 (p : Int)), (7, .int .i64 (o : Int))]) (fun (a, n, o) w1 => St w [] g g [] w1 ∧ a < 2147483648 ∧ n ≤ N ∧ o < p ∧ o * a ^ n % p = powM A N p) (fun (a, n, o) => n) (A, N, 1 % p) ?k1 ?i1 ?r1
  case k1 => exact ⟨rfl, rfl, rfl, rfl, trivial⟩
  case i1 =>
    exact ⟨hst, hA, Nat.le_refl _, Nat.mod_lt _ hp, pow_start⟩
  case r1 =>
    clear hst
    rintro ⟨a, n, o⟩ w1 ⟨hst, ha, hn, ho, hv⟩
    obtain ⟨hm1, hm2, hm3⟩ := mul31 (x := o) (y := a) (by omega) ha
    obtain ⟨hm4, hm5, hm6⟩ := mul31 ha ha
    refine cp_seq ?_
    refine zsr ?_
    refine zM rfl hst rfl ?_
    refine stepK_d rfl rfl rfl hst (does_gtr rfl rfl rfl) ?_
    refine znt ?_
    refine cp_if rfl ?_ ?_
    intro c11
    refine cp_skip ?_
    refine cp_then ?_
    refine cp_block ?_
    refine cp_join (ι := Nat) (fun o2 => [(0, .int .i64 (a : Int)), (1, .int .i64 (n : Int)), (2, .int .i64 (p : Int)), (7, .int .i64 (o2 : Int))]) (fun o2 w2 => St w [] g g [] w2 ∧ o2 < p ∧ o2 * (a * a % p) ^ (n / 2) % p = powM A N p) ?c2 ?d2
    case c2 =>
      refine zsr ?_
      refine zM rfl hst rfl ?_
      refine stepK_d rfl rfl rfl hst (Does.nat (b := n % 2) (does_rem_p (b := 2) rfl rfl rfl (by omega)) rfl) ?_
      refine stepK_d rfl rfl rfl hst (does_eql rfl rfl rfl) ?_
      refine znt ?_
      refine cp_if rfl ?_ ?_
      intro c14
      refine cp_region ?_
      refine zM rfl hst rfl ?_
      refine zM rfl hst rfl ?_
      refine stepK_d rfl rfl rfl hst (Does.nat (b := o * a) (Does.int (does_mul rfl rfl rfl) (wrap_i64 (by omega) (by omega))) (by omega)) ?_
      refine zM rfl hst rfl ?_
      refine stepK_d rfl rfl rfl hst (does_rem_p rfl rfl rfl (by omega)) ?_
      refine zA rfl hst rfl ?_
      refine wpK_nil ?_
      refine join_end (o * a % p) ?_ ?_
      exact ⟨rfl, rfl, rfl, rfl, trivial⟩
      exact ⟨hst, Nat.mod_lt _ hp, pow_round_odd hv (by omega)⟩
      intro c14
      refine cp_skip ?_
      refine join_end (o) ?_ ?_
      exact ⟨rfl, rfl, rfl, rfl, trivial⟩
      exact ⟨hst, ho, pow_round_even hv (by omega)⟩
    case d2 =>
      clear hst
      rintro o2 w2 ⟨hst, ho2, hv2⟩
      refine cp_region ?_
      refine zM rfl hst rfl ?_
      refine zM rfl hst rfl ?_
      refine stepK_d rfl rfl rfl hst (Does.nat (b := a * a) (Does.int (does_mul rfl rfl rfl) (wrap_i64 (by omega) (by omega))) (by omega)) ?_
      refine zM rfl hst rfl ?_
      refine stepK_d rfl rfl rfl hst (does_rem_p rfl rfl rfl (by omega)) ?_
      refine zM rfl hst rfl ?_
      refine stepK_d rfl rfl rfl hst (Does.nat (b := n / 2) (does_quo_p (b := 2) rfl rfl rfl (by omega) (by omega)) rfl) ?_
      refine zA rfl hst rfl ?_
      refine zA rfl hst rfl ?_
      refine wpK_nil ?_
      refine at_block_normal ?_
      refine round_end ((a * a % p, n / 2, o2)) ?_ ?_ ?_
      exact ⟨rfl, rfl, rfl, rfl, trivial⟩
      exact ⟨hst, by have := Nat.mod_lt (a * a) hp; omega, by omega, ho2, hv2⟩
      show n / 2 < n
      omega
    intro c11
    refine cp_exit ?_
    refine at_then_exit ?_
    refine at_then_exit ?_
    refine cp_exit_here ?_
    refine cp_then ?_
    refine zsr ?_
    refine zM rfl hst rfl ?_
    refine zA rfl hst rfl ?_
    refine znt ?_
    refine cp_ret ?_
    refine ret1 rfl rfl hst ?_
    obtain rfl : n = 0 := by omega
    rw [← pow_end ho hv]

end Go.Proofs.YtcjhnkmoloiepaaGreatDoor

namespace Go.Proofs.YtcjhnkmoloiepaaGreatDoor
open Go Go.RowKit Go.Proofs.Vc
set_option linter.unusedVariables false
set_option linter.unusedSimpArgs false

set_option maxHeartbeats 1000000 in
theorem rmod_Inverse {g : Mem} {w : World} (hag : Agree g w) {a : Int} (z1 : -9223372036854775808 ≤ a) (z2 : a ≤ 9223372036854775807) {p : Int} (z3 : -9223372036854775808 ≤ p) (z4 : p ≤ 9223372036854775807)  :
    CallTo Tryz.prog 12 #[.int .i64 a, .int .i64 p] w (Ret w g fun v g => v = .tuple #[.int .i64 (if Prm p ∧ ¬ a % p = 0 then invM a p else 0), .bool (decide (Prm p ∧ ¬ a % p = 0))]) := by
  refine CallTo.enter (vs := [.int .i64 a, .int .i64 p]) zf136 (by kernel_rfl) rfl rfl rfl ?_
  have hst := St.init hag
  refine zsr ?_
  refine zA rfl hst rfl ?_
  refine zA rfl hst rfl ?_
  refine znq ?_
  refine zsr ?_
  refine zM rfl hst rfl ?_
  refine stepK_call rfl rfl rfl rfl rfl hst (rmod_IsPrime hst.agree z3 z4) ?_
  clear hst
  intro v1 g1 w1 hst hle1 hcs1 hp1
  obtain rfl := hp1
  refine stepK_d rfl rfl rfl hst (does_not rfl rfl) ?_
  refine zM rfl hst rfl ?_
  refine wpK_splitb (t := 9) rfl ?_ ?_
  intro s9
  have hno : ¬ (Prm p ∧ ¬ a % p = 0) := fun h => not_prm s9 h.1
  refine stepK_pass rfl rfl rfl rfl rfl rfl rfl ?_
  refine stepK_pass rfl rfl rfl rfl rfl rfl rfl ?_
  refine stepK_pass rfl rfl rfl rfl rfl rfl rfl ?_
  refine stepK_pass rfl rfl rfl rfl rfl rfl rfl ?_
  refine stepK_d rfl rfl rfl hst (does_pick_true rfl rfl rfl) ?_
  refine znt ?_
  refine cp_cond_true rfl ?_
  refine zsr ?_
  refine zA rfl hst rfl ?_
  refine zA rfl hst rfl ?_
  refine zn5 ?_
  refine ret2 rfl rfl rfl hst ?_
  rw [if_neg hno, decide_eq_false hno]
  intro s9
  have hp := is_prm s9
  have hp0 := hp.1
  have hp1 := hp.2.1
  refine stepK_guard rfl rfl rfl rfl rfl rfl hst (does_move rfl rfl) ?_
  refine stepK_guard rfl rfl rfl rfl rfl rfl hst (does_move rfl rfl) ?_
  refine stepK_call_guard rfl rfl rfl rfl rfl rfl rfl rfl hst (rmod_Mod hst.agree z1 z2 (by omega) (by omega)) ?_
  clear hst
  intro v2 g2 w2 hst hle2 hcs2 hp2
  obtain rfl := hp2
  refine stepK_guard rfl rfl rfl rfl rfl rfl hst (does_eql rfl rfl rfl) ?_
  refine stepK_d rfl rfl rfl hst (does_pick_false rfl rfl rfl) ?_
  refine znt ?_
  refine cp_if rfl ?_ ?_
  intro c14
  have hno : ¬ (Prm p ∧ ¬ a % p = 0) := fun h => h.2 c14
  refine zsr ?_
  refine zA rfl hst rfl ?_
  refine zA rfl hst rfl ?_
  refine zn5 ?_
  refine ret2 rfl rfl rfl hst ?_
  rw [if_neg hno, decide_eq_false hno]
  intro c14
  have hyes : Prm p ∧ ¬ a % p = 0 := ⟨hp, c14⟩
  have hb1 := Int.emod_nonneg a (show p ≠ 0 by omega)
  have hb2 := Int.emod_lt_of_pos a (show 0 < p by omega)
  obtain ⟨A, hA⟩ : ∃ A : Nat, (A : Int) = a % p := ⟨(a % p).toNat, by omega⟩
  obtain ⟨P, hP⟩ : ∃ P : Nat, (P : Int) = p := ⟨p.toNat, by omega⟩
  refine zk4 ?_
  refine zM rfl hst rfl ?_
  refine zM rfl hst rfl ?_
  refine stepK_call rfl rfl rfl rfl rfl hst (rmod_Mod hst.agree z1 z2 (by omega) (by omega)) ?_
  clear hst
  intro v3 g3 w3 hst hle3 hcs3 hp3
  obtain rfl := hp3
  rw [← hA]
  refine zM rfl hst rfl ?_
  refine stepK_d rfl rfl rfl hst (Does.nat (b := P - 2) (Does.int (does_sub rfl rfl rfl) (wrap_i64 (by omega) (by omega))) (by omega)) ?_
  refine stepK_d rfl rfl rfl hst (Does.nat (b := P) (does_move rfl rfl) hP.symm) ?_
  refine stepK_call rfl rfl rfl rfl rfl hst (rmod_power hst.agree (by omega) (by omega) (by omega) (by omega)) ?_
  clear hst
  intro v4 g4 w4 hst hle4 hcs4 hp4
  obtain rfl := hp4
  refine zA rfl hst rfl ?_
  refine zA rfl hst rfl ?_
  refine znt ?_
  refine cp_ret ?_
  refine ret2 rfl rfl rfl hst ?_
  rw [hA, if_pos hyes, decide_eq_true hyes]
  unfold invM
  rw [show (a % p).toNat = A by omega, show (p - 2).toNat = P - 2 by omega, show p.toNat = P by omega]

end Go.Proofs.YtcjhnkmoloiepaaGreatDoor
