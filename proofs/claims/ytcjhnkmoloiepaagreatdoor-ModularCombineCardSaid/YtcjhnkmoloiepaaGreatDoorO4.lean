/- The walks of functions, printed by a program of this session out of its specs. -/
import Derived.Test.YtcjhnkmoloiepaaGreatDoorHB
import Derived.Test.YtcjhnkmoloiepaaGreatDoorH6
import Derived.Test.YtcjhnkmoloiepaaGreatDoorH8
import Derived.Test.YtcjhnkmoloiepaaGreatDoorQ3
import Derived.Test.YtcjhnkmoloiepaaGreatDoorKF
import Derived.Test.YtcjhnkmoloiepaaGreatDoorProg
import Derived.Test.YtcjhnkmoloiepaaGreatDoorF0
namespace Go.Proofs.YtcjhnkmoloiepaaGreatDoor
open Go Go.RowKit Go.Proofs.Vc
set_option linter.unusedVariables false
set_option linter.unusedSimpArgs false

set_option maxHeartbeats 4000000 in
theorem ModularCombine_walk {g : Mem} {w : World} (hag : Agree g w) (hT : TabG Tryz.prog g) {A B : Option Addr} {n m c d : Nat} (hs : IntS g A n) (hnc : n ≤ c) (hn9 : n ≤ 9223372036854775807) (hs2 : IntS g B m) (hmd : m ≤ d) (hm9 : m ≤ 9223372036854775807) :
    CallTo Tryz.prog 6 #[.slice A n c, .slice B m d] w (Ret w g fun v g => v = .bool true) := by
  refine CallTo.enter (vs := [.slice A n c, .slice B m d]) (by kernel_rfl : Tryz.prog.funcs[6]? = some Tryz.f6) (by kernel_rfl) rfl rfl rfl ?_
  have hst := St.init hag
  obtain ⟨rs, hr⟩ := hs.list
  obtain ⟨ps, hp⟩ := hs2.list
  refine zsr ?_
  refine zA rfl hst rfl ?_
  refine znq ?_
  refine zsr ?_
  refine zM rfl hst rfl ?_
  refine stepK_d rfl rfl rfl hst (does_len_slice rfl zf142 rfl) ?_
  refine stepK_d rfl rfl rfl hst (does_gtr rfl rfl rfl) ?_
  refine zM rfl hst rfl ?_
  refine wpK_split (t := 14) rfl ?_ ?_
  intro s14
  refine stepK_pass rfl rfl rfl rfl rfl rfl rfl ?_
  refine stepK_pass rfl rfl rfl rfl rfl rfl rfl ?_
  refine stepK_pass rfl rfl rfl rfl rfl rfl rfl ?_
  refine stepK_d rfl rfl rfl hst (does_pick_true rfl rfl rfl) ?_
  refine znt ?_
  refine cp_cond_true rfl ?_
  refine zsr ?_
  refine stepK_call rfl rfl rfl rfl rfl hst (law02_awake hst.agree hT) ?_
  clear hst
  intro v1 g1 w1 hst hle1 hcs1 hp1
  replace hT := hT.mono hle1
  replace hr := hr.mono hle1
  replace hp := hp.mono hle1
  obtain rfl := hp1
  refine zA rfl hst rfl ?_
  refine zn5 ?_
  refine ret1 rfl rfl hst ?_
  first
  | rfl
  | contradiction
  | simp_all
  intro s14
  refine stepK_guard rfl rfl rfl rfl rfl rfl hst (does_move rfl rfl) ?_
  refine stepK_guard rfl rfl rfl rfl rfl rfl hst (does_len_slice rfl zf142 rfl) ?_
  refine stepK_guard rfl rfl rfl rfl rfl rfl hst (does_gtr rfl rfl rfl) ?_
  refine stepK_d rfl rfl rfl hst (does_pick_false rfl rfl rfl) ?_
  refine znt ?_
  refine cp_if rfl ?_ ?_
  intro c18
  refine zsr ?_
  refine stepK_call rfl rfl rfl rfl rfl hst (law02_awake hst.agree hT) ?_
  clear hst
  intro v2 g2 w2 hst hle2 hcs2 hp2
  replace hT := hT.mono hle2
  replace hr := hr.mono hle2
  replace hp := hp.mono hle2
  obtain rfl := hp2
  refine zA rfl hst rfl ?_
  refine zn5 ?_
  refine ret1 rfl rfl hst ?_
  first
  | rfl
  | contradiction
  | simp_all
  intro c18
  refine zk4 ?_
  refine zM rfl hst rfl ?_
  refine zM rfl hst rfl ?_
  refine stepK_call rfl rfl rfl rfl rfl hst (mod_Combine hst.agree hT hr hp (by omega) (by omega) hmd) ?_
  clear hst
  intro v3 g3 w3 hst hle3 hcs3 hp3
  replace hT := hT.mono hle3
  replace hr := hr.mono hle3
  replace hp := hp.mono hle3
  obtain rfl := hp3
  refine zM rfl hst rfl ?_
  refine zE rfl hst rfl rfl ?_
  refine zE rfl hst rfl rfl ?_
  refine zE rfl hst rfl rfl ?_
  refine zA rfl hst rfl ?_
  refine zA rfl hst rfl ?_
  refine zA rfl hst rfl ?_
  refine zn4 ?_
  refine zM rfl hst rfl ?_
  refine zM rfl hst rfl ?_
  refine stepK_call rfl rfl rfl rfl rfl hst (rmod_Combine hst.agree hr hp (by omega) (by omega)) ?_
  clear hst
  intro v4 g4 w4 hst hle4 hcs4 hp4
  replace hT := hT.mono hle4
  replace hr := hr.mono hle4
  replace hp := hp.mono hle4
  obtain rfl := hp4
  refine zM rfl hst rfl ?_
  refine zE rfl hst rfl rfl ?_
  refine zE rfl hst rfl rfl ?_
  refine zE rfl hst rfl rfl ?_
  refine zA rfl hst rfl ?_
  refine zA rfl hst rfl ?_
  refine zA rfl hst rfl ?_
  refine zn4 ?_
  refine zM rfl hst rfl ?_
  refine zM rfl hst rfl ?_
  refine stepK_d rfl rfl rfl hst (Does.yes (does_eql_string rfl rfl rfl) rfl) ?_
  refine zM rfl hst rfl ?_
  refine stepK_guard rfl rfl rfl rfl rfl rfl hst (does_move rfl rfl) ?_
  refine stepK_guard rfl rfl rfl rfl rfl rfl hst (does_move rfl rfl) ?_
  refine stepK_guard rfl rfl rfl rfl rfl rfl hst (Does.yes (does_eql_string rfl rfl rfl) rfl) ?_
  refine stepK_d rfl rfl rfl hst (does_pick_true rfl rfl rfl) ?_
  refine zM rfl hst rfl ?_
  refine stepK_guard rfl rfl rfl rfl rfl rfl hst (does_move rfl rfl) ?_
  refine stepK_guard rfl rfl rfl rfl rfl rfl hst (does_move rfl rfl) ?_
  refine stepK_guard rfl rfl rfl rfl rfl rfl hst (Does.yes (does_eql rfl rfl rfl) rfl) ?_
  refine stepK_d rfl rfl rfl hst (does_pick_true rfl rfl rfl) ?_
  refine zM rfl hst rfl ?_
  refine stepK_call_guard rfl rfl rfl rfl rfl rfl rfl rfl hst (law02_awake hst.agree hT) ?_
  clear hst
  intro v5 g5 w5 hst hle5 hcs5 hp5
  replace hT := hT.mono hle5
  replace hr := hr.mono hle5
  replace hp := hp.mono hle5
  obtain rfl := hp5
  refine stepK_d rfl rfl rfl hst (does_pick_true rfl rfl rfl) ?_
  refine zA rfl hst rfl ?_
  refine znt ?_
  refine cp_ret ?_
  refine ret1 rfl rfl hst ?_
  first
  | rfl
  | contradiction
  | simp_all

end Go.Proofs.YtcjhnkmoloiepaaGreatDoor
