/- A helper of the claim: general lemmas and walks of functions, printed by a program of this session. Conditions: none. -/
import Derived.Test.YtcjhnkmoloiepaaGreatDoorQ1
import Derived.Test.YtcjhnkmoloiepaaGreatDoorProg
import Derived.Test.YtcjhnkmoloiepaaGreatDoorH1
import Derived.Test.YtcjhnkmoloiepaaGreatDoorP2
import Derived.Test.YtcjhnkmoloiepaaGreatDoorF0
namespace Go.Proofs.YtcjhnkmoloiepaaGreatDoor
open Go Go.RowKit Go.Proofs.Vc
set_option linter.unusedVariables false
set_option linter.unusedSimpArgs false

set_option maxHeartbeats 1000000 in
theorem keep_Mod {g : Mem} {w : World} (hag : Agree g w) {a : Int} {b : Nat} (h1 : -9223372036854775808 ≤ a) (h2 : a ≤ 9223372036854775807) (hb : 0 < b) (hb2 : b ≤ 1000000000) :
    CallTo Tryz.prog 30 #[.int .i64 a, .int .i64 (b : Int)] w (Ret w g fun v g => v = .int .i64 (a % (b : Int))) := by
  refine CallTo.enter (vs := [.int .i64 a, .int .i64 (b : Int)]) zf149 (by kernel_rfl) rfl rfl rfl ?_
  have hst := St.init hag
  have h5 := Int.emod_nonneg a (show (b : Int) ≠ 0 by omega)
  have h6 := Int.emod_lt_of_pos a (show (0 : Int) < b by omega)
  have ht : (a.tmod (b : Int) = a % (b : Int) ∧ 0 ≤ a.tmod b) ∨ (a.tmod (b : Int) = a % (b : Int) - b ∧ a.tmod b < 0) := by
    rw [Int.tmod_eq_emod]
    split
    exact .inl ⟨by omega, by omega⟩
    exact .inr ⟨by omega, by omega⟩
  refine zsr ?_
  refine zA rfl hst rfl ?_
  refine zn4 ?_
  refine zM rfl hst rfl ?_
  refine zM rfl hst rfl ?_
  refine stepK_d rfl rfl rfl hst (Does.int (b := a.tmod (b : Int)) (does_rem rfl rfl rfl (by omega)) (by rfl)) ?_
  refine zA rfl hst rfl ?_
  refine znq ?_
  refine zsr ?_
  refine zM rfl hst rfl ?_
  refine stepK_d rfl rfl rfl hst (does_lss rfl rfl rfl) ?_
  refine znt ?_
  refine cp_if rfl ?_ ?_
  intro c10
  refine cp_region ?_
  refine zM rfl hst rfl ?_
  refine zM rfl hst rfl ?_
  refine stepK_d rfl rfl rfl hst (Does.int (does_add rfl rfl rfl) (wrap_i64 (by omega) (by omega))) ?_
  refine zA rfl hst rfl ?_
  refine zn4 ?_
  refine zM rfl hst rfl ?_
  refine zA rfl hst rfl ?_
  refine znt ?_
  refine cp_ret ?_
  refine ret1 rfl rfl hst ?_
  congr 1
  omega
  intro c10
  refine zk4 ?_
  refine zM rfl hst rfl ?_
  refine zA rfl hst rfl ?_
  refine znt ?_
  refine cp_ret ?_
  refine ret1 rfl rfl hst ?_
  congr 1
  omega

end Go.Proofs.YtcjhnkmoloiepaaGreatDoor

namespace Go.Proofs.YtcjhnkmoloiepaaGreatDoor
open Go Go.RowKit Go.Proofs.Vc
set_option linter.unusedVariables false
set_option linter.unusedSimpArgs false

set_option maxHeartbeats 1000000 in
theorem rmod_NextPrime {g : Mem} {w : World} (hag : Agree g w) {n : Int} (z1 : -9223372036854775808 ≤ n) (z2 : n ≤ 9223372036854775807)  :
    CallTo Tryz.prog 55 #[.int .i64 n] w (Ret w g fun v g => (∃ p, NextIs n p ∧ v = .tuple #[.int .i64 p, .bool true]) ∨ (2147483647 ≤ n ∧ v = .tuple #[.int .i64 0, .bool false])) := by
  refine CallTo.enter (vs := [.int .i64 n]) zf150 (by kernel_rfl) rfl rfl rfl ?_
  have hst := St.init hag
  refine zsr ?_
  refine zA rfl hst rfl ?_
  refine zA rfl hst rfl ?_
  refine znq ?_
  refine zsr ?_
  refine zM rfl hst rfl ?_
  refine stepK_d rfl rfl rfl hst (does_lss rfl rfl rfl) ?_
  refine znt ?_
  refine cp_if rfl ?_ ?_
  intro c6
  refine zsr ?_
  refine zA rfl hst rfl ?_
  refine zA rfl hst rfl ?_
  refine zn5 ?_
  refine ret2 rfl rfl rfl hst ?_
  exact .inl ⟨2, next_small (by omega), rfl⟩
  intro c6
  refine cp_skip ?_
  refine cp_then ?_
  refine cp_seq ?_
  refine zsr ?_
  refine zM rfl hst rfl ?_
  refine stepK_d rfl rfl rfl hst (does_geq rfl rfl rfl) ?_
  refine znt ?_
  refine cp_if rfl ?_ ?_
  intro c8
  refine zsr ?_
  refine zA rfl hst rfl ?_
  refine zA rfl hst rfl ?_
  refine zn5 ?_
  refine ret2 rfl rfl rfl hst ?_
  exact .inr ⟨by omega, rfl⟩
  intro c8
  refine zk4 ?_
  refine zM rfl hst rfl ?_
  refine stepK_d rfl rfl rfl hst (Does.int (does_add rfl rfl rfl) (wrap_i64 (by omega) (by omega))) ?_
  refine zA rfl hst rfl ?_
  refine znt ?_
  refine cp_block ?_
  refine cp_loop (ι := Int) (fun k => [(0, .int .i64 n), (4, .int .i64 k)]) (fun k w1 => ∃ g1, St w [] g g1 [] w1 ∧ n < k ∧ k ≤ 2147483647 ∧ ∀ q, n < q → q < k → ¬ Prm q) (fun k => (2147483647 - k).toNat) (n + 1) ?k1 ?i1 ?r1
  case k1 => exact ⟨rfl, rfl, trivial⟩
  case i1 =>
    exact ⟨_, hst, by omega, by omega, fun q h1 h2 => by omega⟩
  case r1 =>
    clear hst
    rintro k w1 ⟨g1, hst, hkn, hk2, hq⟩
    refine cp_seq ?_
    refine cp_block ?_
    refine zsr ?_
    refine zM rfl hst rfl ?_
    refine stepK_call rfl rfl rfl rfl rfl hst (rmod_IsPrime hst.agree (by omega) (by omega)) ?_
    clear hst
    intro v2 g2 w2 hst hle2 hcs2 hp2
    obtain rfl := hp2
    refine znt ?_
    refine cp_cond rfl ?_ ?_
    intro c14
    refine zsr ?_
    refine zM rfl hst rfl ?_
    refine zA rfl hst rfl ?_
    refine zA rfl hst rfl ?_
    refine znt ?_
    refine cp_ret ?_
    refine at_block_ret ?_
    refine at_then_ret ?_
    refine at_then_ret ?_
    refine at_block_ret ?_
    refine ret2 rfl rfl rfl hst ?_
    exact .inl ⟨k, ⟨hkn, of_decide_eq_true c14, hq⟩, rfl⟩
    intro c14
    refine cp_skip ?_
    refine at_block_normal ?_
    refine cp_then ?_
    refine cp_region ?_
    refine zM rfl hst rfl ?_
    refine stepK_d rfl rfl rfl hst (Does.int (does_add rfl rfl rfl) (wrap_i64 (by omega) (by omega))) ?_
    refine zA rfl hst rfl ?_
    refine wpK_nil ?_
    have hnp : ¬ Prm k := of_decide_eq_false c14
    have hk3 : k ≠ 2147483647 := fun e => hnp (by rw [e]; exact max_prm)
    refine round_end (k + 1) ?_ ?_ ?_
    exact ⟨rfl, rfl, trivial⟩
    exact ⟨_, hst, by omega, by omega, fun q h1 h2 => by
      by_cases e : q = k
      rw [e]; exact hnp
      exact hq q h1 (by omega)⟩
    show (2147483647 - (k + 1)).toNat < (2147483647 - k).toNat
    omega

end Go.Proofs.YtcjhnkmoloiepaaGreatDoor

namespace Go.Proofs.YtcjhnkmoloiepaaGreatDoor
open Go Go.RowKit Go.Proofs.Vc
set_option linter.unusedVariables false
set_option linter.unusedSimpArgs false

set_option maxHeartbeats 1000000 in
theorem law02_prime {g : Mem} {w : World} (hag : Agree g w) {n : Int} (z1 : -9223372036854775808 ≤ n) (z2 : n ≤ 9223372036854775807)  :
    CallTo Tryz.prog 15 #[.int .i64 n] w (Ret w g fun v g => ∃ p, v = .int .i64 p ∧ Prm p) := by
  refine CallTo.enter (vs := [.int .i64 n]) zf151 (by kernel_rfl) rfl rfl rfl ?_
  have hst := St.init hag
  refine zsr ?_
  refine zA rfl hst rfl ?_
  refine zn4 ?_
  refine zM rfl hst rfl ?_
  refine stepK_call rfl rfl rfl rfl rfl hst (keep_Mod (b := 100000) hst.agree z1 z2 (by decide) (by decide)) ?_
  clear hst
  intro v1 g1 w1 hst hle1 hcs1 hp1
  obtain rfl := hp1
  refine stepK_call rfl rfl rfl rfl rfl hst (rmod_NextPrime hst.agree (by have := Int.emod_nonneg n (show (100000 : Int) ≠ 0 by decide); omega) (by have := Int.emod_lt_of_pos n (show (0 : Int) < 100000 by decide); omega)) ?_
  clear hst
  intro v2 g2 w2 hst hle2 hcs2 hp2
  obtain ⟨q, hq, rfl⟩ := Or.elim hp2 id (fun h => absurd h.1 (by have := Int.emod_lt_of_pos n (show (0 : Int) < 100000 by decide); omega))
  refine zM rfl hst rfl ?_
  refine zE rfl hst rfl rfl ?_
  refine zE rfl hst rfl rfl ?_
  refine zA rfl hst rfl ?_
  refine zA rfl hst rfl ?_
  refine zn4 ?_
  refine zM rfl hst rfl ?_
  refine zA rfl hst rfl ?_
  refine znt ?_
  refine cp_ret ?_
  refine ret1 rfl rfl hst ?_
  exact ⟨_, rfl, hq.2.1⟩

end Go.Proofs.YtcjhnkmoloiepaaGreatDoor
