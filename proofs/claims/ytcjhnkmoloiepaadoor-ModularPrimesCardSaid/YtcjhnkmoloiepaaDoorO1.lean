/- The walks of functions, printed by a program of this session out of its specs. -/
import Derived.Test.YtcjhnkmoloiepaaDoorH1
import Derived.Test.YtcjhnkmoloiepaaDoorH9
import Derived.Test.YtcjhnkmoloiepaaDoorH8
import Derived.Test.YtcjhnkmoloiepaaDoorQ3
import Derived.Test.YtcjhnkmoloiepaaDoorProg
import Derived.Test.YtcjhnkmoloiepaaDoorF0
namespace Go.Proofs.YtcjhnkmoloiepaaDoor
open Go Go.RowKit Go.Proofs.Vc
set_option linter.unusedVariables false
set_option linter.unusedSimpArgs false

set_option maxHeartbeats 4000000 in
theorem ModularPrimes_walk {g : Mem} {w : World} (hag : Agree g w) (hT : TabG Tryd.prog g) {a : Int} (z1 : -9223372036854775808 ≤ a) (z2 : a ≤ 9223372036854775807)  :
    CallTo Tryd.prog 3 #[.int .i64 a] w (Ret w g fun v g => v = .bool true) := by
  refine CallTo.enter (vs := [.int .i64 a]) zf100 (by kernel_rfl) rfl rfl rfl ?_
  have hst := St.init hag
  refine zsr ?_
  refine zA rfl hst rfl ?_
  refine zn4 ?_
  refine zM rfl hst rfl ?_
  refine stepK_call rfl rfl rfl rfl rfl hst (mod_NextPrime hst.agree z1 z2) ?_
  clear hst
  intro v1 g1 w1 hst hle1 hcs1 hp1
  replace hT := hT.mono hle1
  obtain ⟨p1, k1, rfl, hA⟩ := nxt_of hp1
  refine zM rfl hst rfl ?_
  refine zE rfl hst rfl rfl ?_
  refine zE rfl hst rfl rfl ?_
  refine zA rfl hst rfl ?_
  refine zA rfl hst rfl ?_
  refine zn4 ?_
  refine zM rfl hst rfl ?_
  refine stepK_call rfl rfl rfl rfl rfl hst (rmod_NextPrime hst.agree z1 z2) ?_
  clear hst
  intro v2 g2 w2 hst hle2 hcs2 hp2
  replace hT := hT.mono hle2
  obtain ⟨p2, k2, rfl, hB⟩ := nxt_of hp2
  obtain ⟨rfl, rfl⟩ := hA.unique hB
  refine zM rfl hst rfl ?_
  refine zE rfl hst rfl rfl ?_
  refine zE rfl hst rfl rfl ?_
  refine zA rfl hst rfl ?_
  refine zA rfl hst rfl ?_
  refine zn4 ?_
  refine zM rfl hst rfl ?_
  refine stepK_call rfl rfl rfl rfl rfl hst (mod_IsPrime hst.agree z1 z2) ?_
  clear hst
  intro v3 g3 w3 hst hle3 hcs3 hp3
  replace hT := hT.mono hle3
  obtain rfl := hp3
  refine zM rfl hst rfl ?_
  refine stepK_call rfl rfl rfl rfl rfl hst (rmod_IsPrime hst.agree z1 z2) ?_
  clear hst
  intro v4 g4 w4 hst hle4 hcs4 hp4
  replace hT := hT.mono hle4
  obtain rfl := hp4
  refine stepK_d rfl rfl rfl hst (Does.btrue' (does_eql_bool rfl (by kernel_rfl) rfl rfl) (beq_self_eq_true _)) ?_
  refine zM rfl hst rfl ?_
  refine stepK_guard rfl rfl rfl rfl rfl rfl hst (does_move rfl rfl) ?_
  refine stepK_guard rfl rfl rfl rfl rfl rfl hst (does_move rfl rfl) ?_
  refine stepK_guard rfl rfl rfl rfl rfl rfl hst (Does.yes (does_eql rfl rfl rfl) rfl) ?_
  refine stepK_d rfl rfl rfl hst (does_pick_true rfl rfl rfl) ?_
  refine zM rfl hst rfl ?_
  refine stepK_guard rfl rfl rfl rfl rfl rfl hst (does_move rfl rfl) ?_
  refine stepK_guard rfl rfl rfl rfl rfl rfl hst (does_move rfl rfl) ?_
  refine stepK_guard rfl rfl rfl rfl rfl rfl hst (Does.btrue' (does_eql_bool rfl (by kernel_rfl) rfl rfl) (beq_self_eq_true _)) ?_
  refine stepK_d rfl rfl rfl hst (does_pick_true rfl rfl rfl) ?_
  refine zM rfl hst rfl ?_
  refine stepK_call_guard rfl rfl rfl rfl rfl rfl rfl rfl hst (law02_awake hst.agree hT) ?_
  clear hst
  intro v5 g5 w5 hst hle5 hcs5 hp5
  replace hT := hT.mono hle5
  obtain rfl := hp5
  refine stepK_d rfl rfl rfl hst (does_pick_true rfl rfl rfl) ?_
  refine zA rfl hst rfl ?_
  refine znt ?_
  refine cp_ret ?_
  refine ret1 rfl rfl hst ?_
  first
  | rfl
  | contradiction
  | simp_all

end Go.Proofs.YtcjhnkmoloiepaaDoor
