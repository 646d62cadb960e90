/- The walks of functions, printed by a program of this session out of its specs. -/
import Derived.Test.YtcjhnkmoloiepaaDoorQ1
import Derived.Test.YtcjhnkmoloiepaaDoorProg
import Derived.Test.YtcjhnkmoloiepaaDoorF0
namespace Go.Proofs.YtcjhnkmoloiepaaDoor
open Go Go.RowKit Go.Proofs.Vc
set_option linter.unusedVariables false
set_option linter.unusedSimpArgs false

set_option maxHeartbeats 1000000 in
theorem keep_Mod {g : Mem} {w : World} (hag : Agree g w) {a : Int} {b : Nat} (h1 : -9223372036854775808 ≤ a) (h2 : a ≤ 9223372036854775807) (hb : 0 < b) (hb2 : b ≤ 1000000000) :
    CallTo Tryd.prog 11 #[.int .i64 a, .int .i64 (b : Int)] w (Ret w g fun v g => v = .int .i64 (a % (b : Int))) := by
  refine CallTo.enter (vs := [.int .i64 a, .int .i64 (b : Int)]) zf99 (by kernel_rfl) rfl rfl rfl ?_
  have hst := St.init hag
  have h5 := Int.emod_nonneg a (show (b : Int) ≠ 0 by omega)
  have h6 := Int.emod_lt_of_pos a (show (0 : Int) < b by omega)
  have ht : (a.tmod (b : Int) = a % (b : Int) ∧ 0 ≤ a.tmod b) ∨ (a.tmod (b : Int) = a % (b : Int) - b ∧ a.tmod b < 0) := by
    rw [Int.tmod_eq_emod]
    split
    exact .inl ⟨by omega, by omega⟩
    exact .inr ⟨by omega, by omega⟩
  refine zsr ?_
  refine zA rfl hst rfl ?_
  refine zn4 ?_
  refine zM rfl hst rfl ?_
  refine zM rfl hst rfl ?_
  refine stepK_d rfl rfl rfl hst (Does.int (b := a.tmod (b : Int)) (does_rem rfl rfl rfl (by omega)) (by rfl)) ?_
  refine zA rfl hst rfl ?_
  refine znq ?_
  refine zsr ?_
  refine zM rfl hst rfl ?_
  refine stepK_d rfl rfl rfl hst (does_lss rfl rfl rfl) ?_
  refine znt ?_
  refine cp_if rfl ?_ ?_
  intro c10
  refine cp_region ?_
  refine zM rfl hst rfl ?_
  refine zM rfl hst rfl ?_
  refine stepK_d rfl rfl rfl hst (Does.int (does_add rfl rfl rfl) (wrap_i64 (by omega) (by omega))) ?_
  refine zA rfl hst rfl ?_
  refine zn4 ?_
  refine zM rfl hst rfl ?_
  refine zA rfl hst rfl ?_
  refine znt ?_
  refine cp_ret ?_
  refine ret1 rfl rfl hst ?_
  congr 1
  omega
  intro c10
  refine zk4 ?_
  refine zM rfl hst rfl ?_
  refine zA rfl hst rfl ?_
  refine znt ?_
  refine cp_ret ?_
  refine ret1 rfl rfl hst ?_
  congr 1
  omega

end Go.Proofs.YtcjhnkmoloiepaaDoor
