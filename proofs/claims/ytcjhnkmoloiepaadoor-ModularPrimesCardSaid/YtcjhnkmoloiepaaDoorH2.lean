/- The walks of functions, printed by a program of this session out of its specs. -/
import Derived.Test.YtcjhnkmoloiepaaDoorH1
import Derived.Test.YtcjhnkmoloiepaaDoorProg
import Derived.Test.YtcjhnkmoloiepaaDoorF0
namespace Go.Proofs.YtcjhnkmoloiepaaDoor
open Go Go.RowKit Go.Proofs.Vc
set_option linter.unusedVariables false
set_option linter.unusedSimpArgs false

set_option maxHeartbeats 1000000 in
theorem mod_Inverse {g : Mem} {w : World} (hag : Agree g w) {a : Int} (z1 : -9223372036854775808 ≤ a) (z2 : a ≤ 9223372036854775807) {p : Int} (z3 : -9223372036854775808 ≤ p) (z4 : p ≤ 9223372036854775807)  :
    CallTo Tryd.prog 34 #[.int .i64 a, .int .i64 p] w (Ret w g fun v g => v = .tuple #[.int .i64 (if Prm p ∧ ¬ a % p = 0 then invM a p else 0), .bool (decide (Prm p ∧ ¬ a % p = 0))]) := by
  refine CallTo.enter (vs := [.int .i64 a, .int .i64 p]) zf86 (by kernel_rfl) rfl rfl rfl ?_
  have hst := St.init hag
  refine zsr ?_
  refine zA rfl hst rfl ?_
  refine zA rfl hst rfl ?_
  refine znq ?_
  refine zsr ?_
  refine zM rfl hst rfl ?_
  refine stepK_call rfl rfl rfl rfl rfl hst (mod_IsPrime hst.agree z3 z4) ?_
  clear hst
  intro v1 g1 w1 hst hle1 hcs1 hp1
  obtain rfl := hp1
  refine stepK_d rfl rfl rfl hst (does_not rfl rfl) ?_
  refine zM rfl hst rfl ?_
  refine wpK_splitb (t := 9) rfl ?_ ?_
  intro s9
  have hno : ¬ (Prm p ∧ ¬ a % p = 0) := fun h => not_prm s9 h.1
  refine stepK_pass rfl rfl rfl rfl rfl rfl rfl ?_
  refine stepK_pass rfl rfl rfl rfl rfl rfl rfl ?_
  refine stepK_pass rfl rfl rfl rfl rfl rfl rfl ?_
  refine stepK_pass rfl rfl rfl rfl rfl rfl rfl ?_
  refine stepK_d rfl rfl rfl hst (does_pick_true rfl rfl rfl) ?_
  refine znt ?_
  refine cp_cond_true rfl ?_
  refine zsr ?_
  refine zA rfl hst rfl ?_
  refine zA rfl hst rfl ?_
  refine zn5 ?_
  refine ret2 rfl rfl rfl hst ?_
  rw [if_neg hno, decide_eq_false hno]
  intro s9
  have hp := is_prm s9
  have hp0 := hp.1
  have hp1 := hp.2.1
  refine stepK_guard rfl rfl rfl rfl rfl rfl hst (does_move rfl rfl) ?_
  refine stepK_guard rfl rfl rfl rfl rfl rfl hst (does_move rfl rfl) ?_
  refine stepK_guard rfl rfl rfl rfl rfl rfl hst (does_rem rfl rfl rfl (by omega)) ?_
  refine stepK_guard rfl rfl rfl rfl rfl rfl hst (does_eql rfl rfl rfl) ?_
  refine stepK_d rfl rfl rfl hst (does_pick_false rfl rfl rfl) ?_
  refine znt ?_
  refine cp_if rfl ?_ ?_
  intro c14
  have hno : ¬ (Prm p ∧ ¬ a % p = 0) := fun h => h.2 ((tmod_zero (by omega)).1 c14)
  refine zsr ?_
  refine zA rfl hst rfl ?_
  refine zA rfl hst rfl ?_
  refine zn5 ?_
  refine ret2 rfl rfl rfl hst ?_
  rw [if_neg hno, decide_eq_false hno]
  intro c14
  have hyes : Prm p ∧ ¬ a % p = 0 := ⟨hp, fun h => c14 ((tmod_zero (by omega)).2 h)⟩
  have hb1 := Int.emod_nonneg a (show p ≠ 0 by omega)
  have hb2 := Int.emod_lt_of_pos a (show 0 < p by omega)
  have hpl := powM_lt (a := (a % p).toNat) (n := (p - 2).toNat) (p := p.toNat) (by omega)
  refine zk4 ?_
  refine zM rfl hst rfl ?_
  refine zM rfl hst rfl ?_
  refine stepK_call rfl rfl rfl rfl rfl hst (mod_residue hst.agree z1 z2 (by omega) (by omega)) ?_
  clear hst
  intro v2 g2 w2 hst hle2 hcs2 hp2
  obtain rfl := hp2
  refine zM rfl hst rfl ?_
  refine stepK_d rfl rfl rfl hst (Does.int (does_sub rfl rfl rfl) (wrap_i64 (by omega) (by omega))) ?_
  refine stepK_d rfl rfl rfl hst (Does.nat (b := (p - 2).toNat) (does_conv rfl (by kernel_rfl) (by kernel_rfl) rfl) (by rw [IntKind.wrap_u64]; omega)) ?_
  refine zM rfl hst rfl ?_
  refine stepK_d rfl rfl rfl hst (Does.nat (b := p.toNat) (does_conv rfl (by kernel_rfl) (by kernel_rfl) rfl) (by rw [IntKind.wrap_u64]; omega)) ?_
  refine stepK_call rfl rfl rfl rfl rfl hst (mod_power hst.agree (by omega) (by omega) (by omega) (by omega)) ?_
  clear hst
  intro v3 g3 w3 hst hle3 hcs3 hp3
  obtain rfl := hp3
  refine stepK_d rfl rfl rfl hst (does_conv_n_i64 rfl (by kernel_rfl) (by kernel_rfl) rfl (by omega)) ?_
  refine zA rfl hst rfl ?_
  refine zA rfl hst rfl ?_
  refine znt ?_
  refine cp_ret ?_
  refine ret2 rfl rfl rfl hst ?_
  rw [if_pos hyes, decide_eq_true hyes]
  rfl

end Go.Proofs.YtcjhnkmoloiepaaDoor
