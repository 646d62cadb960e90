/- A helper of the claim: general lemmas and walks of functions, printed by a program of this session. Conditions: none. -/
import Derived.Test.YtcjhnkmoloiepaaDoorH1
import Derived.Test.YtcjhnkmoloiepaaDoorP2
import Derived.Test.YtcjhnkmoloiepaaDoorProg
import Derived.Test.YtcjhnkmoloiepaaDoorF0
namespace Go.Proofs.YtcjhnkmoloiepaaDoor
open Go Go.RowKit Go.Proofs.Vc
set_option linter.unusedVariables false
set_option linter.unusedSimpArgs false

set_option maxHeartbeats 1000000 in
theorem mod_NextPrime {g : Mem} {w : World} (hag : Agree g w) {n : Int} (z1 : -9223372036854775808 ≤ n) (z2 : n ≤ 9223372036854775807)  :
    CallTo Tryd.prog 6 #[.int .i64 n] w (Ret w g fun v g => (∃ p, NextIs n p ∧ v = .tuple #[.int .i64 p, .bool true]) ∨ (2147483647 ≤ n ∧ v = .tuple #[.int .i64 0, .bool false])) := by
  refine CallTo.enter (vs := [.int .i64 n]) zf97 (by kernel_rfl) rfl rfl rfl ?_
  have hst := St.init hag
  refine zsr ?_
  refine zA rfl hst rfl ?_
  refine zA rfl hst rfl ?_
  refine znq ?_
  refine zsr ?_
  refine zM rfl hst rfl ?_
  refine stepK_d rfl rfl rfl hst (does_max rfl rfl rfl) ?_
  refine zA rfl hst rfl ?_
  refine znt ?_
  refine cp_block ?_
  refine cp_loop (ι := Int) (fun k => [(0, .int .i64 n), (4, .int .i64 k)]) (fun k w1 => ∃ g1, St w [] g g1 [] w1 ∧ 1 ≤ k ∧ n ≤ k ∧ k ≤ 9223372036854775807 ∧ ∀ q, n < q → q ≤ k → ¬ Prm q) (fun k => (2147483647 - k).toNat) (if 1 > n then 1 else n) ?k1 ?i1 ?r1
  case k1 => exact ⟨rfl, rfl, trivial⟩
  case i1 =>
    refine ⟨_, hst, by split <;> omega, by split <;> omega, by split <;> omega, fun q h1 h2 h3 => ?_⟩
    have := h3.1
    split at h2 <;> omega
  case r1 =>
    clear hst
    rintro k w1 ⟨g1, hst, hk1, hkn, hk2, hq⟩
    refine cp_seq ?_
    refine zsr ?_
    refine zM rfl hst rfl ?_
    refine stepK_d rfl rfl rfl hst (does_lss rfl rfl rfl) ?_
    refine znt ?_
    refine cp_if rfl ?_ ?_
    intro c8
    refine cp_skip ?_
    refine cp_then ?_
    refine cp_block ?_
    refine zsr ?_
    refine zM rfl hst rfl ?_
    refine stepK_d rfl rfl rfl hst (Does.int (does_add rfl rfl rfl) (wrap_i64 (by omega) (by omega))) ?_
    refine zA rfl hst rfl ?_
    refine zn4 ?_
    refine zM rfl hst rfl ?_
    refine stepK_call rfl rfl rfl rfl rfl hst (mod_IsPrime hst.agree (by omega) (by omega)) ?_
    clear hst
    intro v2 g2 w2 hst hle2 hcs2 hp2
    obtain rfl := hp2
    refine znt ?_
    refine cp_cond rfl ?_ ?_
    intro c12
    refine zsr ?_
    refine zM rfl hst rfl ?_
    refine zA rfl hst rfl ?_
    refine zA rfl hst rfl ?_
    refine znt ?_
    refine cp_ret ?_
    refine at_block_ret ?_
    refine at_then_ret ?_
    refine at_block_ret ?_
    refine at_then_ret ?_
    refine ret2 rfl rfl rfl hst ?_
    exact .inl ⟨k + 1, ⟨by omega, of_decide_eq_true c12, fun q h1 h2 => hq q h1 (by omega)⟩, rfl⟩
    intro c12
    refine cp_skip ?_
    refine at_block_normal ?_
    refine round_end (k + 1) ?_ ?_ ?_
    exact ⟨rfl, rfl, trivial⟩
    exact ⟨_, hst, by omega, by omega, by omega, fun q h1 h2 => by
      by_cases e : q = k + 1
      rw [e]; exact of_decide_eq_false c12
      exact hq q h1 (by omega)⟩
    show (2147483647 - (k + 1)).toNat < (2147483647 - k).toNat
    omega
    intro c8
    refine cp_exit ?_
    refine at_then_exit ?_
    refine at_then_exit ?_
    refine cp_exit_here ?_
    refine cp_then ?_
    refine zsr ?_
    refine zA rfl hst rfl ?_
    refine zA rfl hst rfl ?_
    refine znt ?_
    refine cp_ret ?_
    refine ret2 rfl rfl rfl hst ?_
    refine .inr ⟨?_, rfl⟩
    rcases Int.lt_or_le n 2147483647 with h | h
    exact absurd max_prm (hq _ h (by omega))
    exact h

end Go.Proofs.YtcjhnkmoloiepaaDoor

namespace Go.Proofs.YtcjhnkmoloiepaaDoor
open Go Go.RowKit Go.Proofs.Vc
set_option linter.unusedVariables false
set_option linter.unusedSimpArgs false

set_option maxHeartbeats 1000000 in
theorem rmod_NextPrime {g : Mem} {w : World} (hag : Agree g w) {n : Int} (z1 : -9223372036854775808 ≤ n) (z2 : n ≤ 9223372036854775807)  :
    CallTo Tryd.prog 7 #[.int .i64 n] w (Ret w g fun v g => (∃ p, NextIs n p ∧ v = .tuple #[.int .i64 p, .bool true]) ∨ (2147483647 ≤ n ∧ v = .tuple #[.int .i64 0, .bool false])) := by
  refine CallTo.enter (vs := [.int .i64 n]) zf98 (by kernel_rfl) rfl rfl rfl ?_
  have hst := St.init hag
  refine zsr ?_
  refine zA rfl hst rfl ?_
  refine zA rfl hst rfl ?_
  refine znq ?_
  refine zsr ?_
  refine zM rfl hst rfl ?_
  refine stepK_d rfl rfl rfl hst (does_lss rfl rfl rfl) ?_
  refine znt ?_
  refine cp_if rfl ?_ ?_
  intro c6
  refine zsr ?_
  refine zA rfl hst rfl ?_
  refine zA rfl hst rfl ?_
  refine zn5 ?_
  refine ret2 rfl rfl rfl hst ?_
  exact .inl ⟨2, next_small (by omega), rfl⟩
  intro c6
  refine cp_skip ?_
  refine cp_then ?_
  refine cp_seq ?_
  refine zsr ?_
  refine zM rfl hst rfl ?_
  refine stepK_d rfl rfl rfl hst (does_geq rfl rfl rfl) ?_
  refine znt ?_
  refine cp_if rfl ?_ ?_
  intro c8
  refine zsr ?_
  refine zA rfl hst rfl ?_
  refine zA rfl hst rfl ?_
  refine zn5 ?_
  refine ret2 rfl rfl rfl hst ?_
  exact .inr ⟨by omega, rfl⟩
  intro c8
  refine zk4 ?_
  refine zM rfl hst rfl ?_
  refine stepK_d rfl rfl rfl hst (Does.int (does_add rfl rfl rfl) (wrap_i64 (by omega) (by omega))) ?_
  refine zA rfl hst rfl ?_
  refine znt ?_
  refine cp_block ?_
  refine cp_loop (ι := Int) (fun k => [(0, .int .i64 n), (4, .int .i64 k)]) (fun k w1 => ∃ g1, St w [] g g1 [] w1 ∧ n < k ∧ k ≤ 2147483647 ∧ ∀ q, n < q → q < k → ¬ Prm q) (fun k => (2147483647 - k).toNat) (n + 1) ?k1 ?i1 ?r1
  case k1 => exact ⟨rfl, rfl, trivial⟩
  case i1 =>
    exact ⟨_, hst, by omega, by omega, fun q h1 h2 => by omega⟩
  case r1 =>
    clear hst
    rintro k w1 ⟨g1, hst, hkn, hk2, hq⟩
    refine cp_seq ?_
    refine cp_block ?_
    refine zsr ?_
    refine zM rfl hst rfl ?_
    refine stepK_call rfl rfl rfl rfl rfl hst (rmod_IsPrime hst.agree (by omega) (by omega)) ?_
    clear hst
    intro v2 g2 w2 hst hle2 hcs2 hp2
    obtain rfl := hp2
    refine znt ?_
    refine cp_cond rfl ?_ ?_
    intro c14
    refine zsr ?_
    refine zM rfl hst rfl ?_
    refine zA rfl hst rfl ?_
    refine zA rfl hst rfl ?_
    refine znt ?_
    refine cp_ret ?_
    refine at_block_ret ?_
    refine at_then_ret ?_
    refine at_then_ret ?_
    refine at_block_ret ?_
    refine ret2 rfl rfl rfl hst ?_
    exact .inl ⟨k, ⟨hkn, of_decide_eq_true c14, hq⟩, rfl⟩
    intro c14
    refine cp_skip ?_
    refine at_block_normal ?_
    refine cp_then ?_
    refine cp_region ?_
    refine zM rfl hst rfl ?_
    refine stepK_d rfl rfl rfl hst (Does.int (does_add rfl rfl rfl) (wrap_i64 (by omega) (by omega))) ?_
    refine zA rfl hst rfl ?_
    refine wpK_nil ?_
    have hnp : ¬ Prm k := of_decide_eq_false c14
    have hk3 : k ≠ 2147483647 := fun e => hnp (by rw [e]; exact max_prm)
    refine round_end (k + 1) ?_ ?_ ?_
    exact ⟨rfl, rfl, trivial⟩
    exact ⟨_, hst, by omega, by omega, fun q h1 h2 => by
      by_cases e : q = k
      rw [e]; exact hnp
      exact hq q h1 (by omega)⟩
    show (2147483647 - (k + 1)).toNat < (2147483647 - k).toNat
    omega

end Go.Proofs.YtcjhnkmoloiepaaDoor
