/- The walks of functions, printed by a program of this session out of its specs. -/
import Derived.Test.YtbamjcfdlgnicaaGreatDoorP6
import Derived.Test.YtbamjcfdlgnicaaGreatDoorPV
import Derived.Test.YtbamjcfdlgnicaaGreatDoorPR
import Derived.Test.YtbamjcfdlgnicaaGreatDoorPU
import Derived.Test.YtbamjcfdlgnicaaGreatDoorQX
import Derived.Test.YtbamjcfdlgnicaaGreatDoorQ3
import Derived.Test.YtbamjcfdlgnicaaGreatDoorProg
import Derived.Test.YtbamjcfdlgnicaaGreatDoorP0
namespace Go.Proofs.YtbamjcfdlgnicaaGreatDoor
open Go Go.RowKit Go.Proofs.Vc
set_option linter.unusedVariables false
set_option linter.unusedSimpArgs false

set_option maxHeartbeats 4000000 in
theorem RationalValid_walk {g : Mem} {w : World} (hag : Agree g w) (hT : TabG Tryz.prog g) {a : ByteArray} {x : Int} (h1 : -9223372036854775808 ≤ x) (h2 : x ≤ 9223372036854775807) :
    CallTo Tryz.prog 14 #[.string a, .int .i64 x] w (Ret w g fun v g => v = .bool true) := by
  refine CallTo.enter (vs := [.string a, .int .i64 x]) (by kernel_rfl : Tryz.prog.funcs[14]? = some Tryz.f14) (by kernel_rfl) rfl rfl rfl ?_
  have hst := St.init hag
  have sx := int_sz h1 h2
  have zx := ratS_size sx
  have fx := sx.fitH (by decide)
  refine zsr ?_
  refine zA rfl hst rfl ?_
  refine znq ?_
  refine zsr ?_
  refine zM rfl hst rfl ?_
  refine stepK_d rfl rfl rfl hst (does_len_string rfl (by kernel_rfl) rfl) ?_
  refine stepK_d rfl rfl rfl hst (does_gtr rfl rfl rfl) ?_
  refine znt ?_
  refine cp_if rfl ?_ ?_
  · intro c14
    refine zsr ?_
    refine stepK_call rfl rfl rfl rfl rfl hst (law01_awake hst.agree hT) ?_
    clear hst
    intro v1 g1 w1 hst hle1 hcs1 hp1
    replace hT := hT.mono hle1
    obtain rfl := hp1
    refine zA rfl hst rfl ?_
    refine zn5 ?_
    refine ret1 rfl rfl hst ?_
    first
    | rfl
    | simp_all
  · intro c14
    have ha : a.size ≤ 400 := by omega
    refine zk4 ?_
    refine zM rfl hst rfl ?_
    refine stepK_call rfl rfl rfl rfl rfl hst (rational_Int64 hst.agree (a := a) (by omega)) ?_
    clear hst
    intro v2 g2 w2 hst hle2 hcs2 hp2
    replace hT := hT.mono hle2
    obtain rfl := hp2
    refine zM rfl hst rfl ?_
    refine zE rfl hst rfl rfl ?_
    refine zE rfl hst rfl rfl ?_
    refine zA rfl hst rfl ?_
    refine zA rfl hst rfl ?_
    refine zn4 ?_
    refine zM rfl hst rfl ?_
    refine stepK_call rfl rfl rfl rfl rfl hst (sref_Int64 hst.agree (a := a) (by omega)) ?_
    clear hst
    intro v3 g3 w3 hst hle3 hcs3 hp3
    replace hT := hT.mono hle3
    obtain rfl := hp3
    refine zM rfl hst rfl ?_
    refine zE rfl hst rfl rfl ?_
    refine zE rfl hst rfl rfl ?_
    refine zA rfl hst rfl ?_
    refine zA rfl hst rfl ?_
    refine zn4 ?_
    refine zM rfl hst rfl ?_
    refine stepK_call rfl rfl rfl rfl rfl hst (rational_FromInt hst.agree hT h1 h2) ?_
    clear hst
    intro v4 g4 w4 hst hle4 hcs4 hp4
    replace hT := hT.mono hle4
    obtain rfl := hp4
    refine zA rfl hst rfl ?_
    refine zn4 ?_
    refine zM rfl hst rfl ?_
    refine stepK_call rfl rfl rfl rfl rfl hst (rational_Int64 hst.agree (a := ratS (x : Rat)) (by first | omega | assumption)) ?_
    clear hst
    intro v5 g5 w5 hst hle5 hcs5 hp5
    replace hT := hT.mono hle5
    obtain rfl := hp5
    rw [readR_text, getR_text, if_pos (i64_int h1 h2), decide_eq_true (i64_int h1 h2), Rat.num_intCast]
    refine zM rfl hst rfl ?_
    refine zE rfl hst rfl rfl ?_
    refine zE rfl hst rfl rfl ?_
    refine zA rfl hst rfl ?_
    refine zA rfl hst rfl ?_
    refine zn4 ?_
    refine zM rfl hst rfl ?_
    refine stepK_call rfl rfl rfl rfl rfl hst (rational_Valid hst.agree (a := a) (by omega)) ?_
    clear hst
    intro v6 g6 w6 hst hle6 hcs6 hp6
    replace hT := hT.mono hle6
    obtain rfl := hp6
    refine zM rfl hst rfl ?_
    refine stepK_call rfl rfl rfl rfl rfl hst (sref_Valid hst.agree (a := a) (by omega)) ?_
    clear hst
    intro v7 g7 w7 hst hle7 hcs7 hp7
    replace hT := hT.mono hle7
    obtain rfl := hp7
    refine stepK_d rfl rfl rfl hst (Does.btrue' (does_eql_bool rfl (by kernel_rfl) rfl rfl) (beq_self_eq_true _)) ?_
    refine zM rfl hst rfl ?_
    refine stepK_guard rfl rfl rfl rfl rfl rfl hst (does_move rfl rfl) ?_
    refine stepK_guard rfl rfl rfl rfl rfl rfl hst (does_move rfl rfl) ?_
    refine stepK_guard rfl rfl rfl rfl rfl rfl hst (Does.yes (does_eql rfl rfl rfl) rfl) ?_
    refine stepK_d rfl rfl rfl hst (does_pick_true rfl rfl rfl) ?_
    refine zM rfl hst rfl ?_
    refine stepK_guard rfl rfl rfl rfl rfl rfl hst (does_move rfl rfl) ?_
    refine stepK_guard rfl rfl rfl rfl rfl rfl hst (does_move rfl rfl) ?_
    refine stepK_guard rfl rfl rfl rfl rfl rfl hst (Does.btrue' (does_eql_bool rfl (by kernel_rfl) rfl rfl) (same_dec' Iff.rfl)) ?_
    refine stepK_d rfl rfl rfl hst (does_pick_true rfl rfl rfl) ?_
    refine zM rfl hst rfl ?_
    refine stepK_guard rfl rfl rfl rfl rfl rfl hst (does_move rfl rfl) ?_
    refine stepK_guard rfl rfl rfl rfl rfl rfl hst (does_move rfl rfl) ?_
    refine stepK_call_guard rfl rfl rfl rfl rfl rfl rfl rfl hst (snum_R hst.agree h1 h2) ?_
    clear hst
    intro v8 g8 w8 hst hle8 hcs8 hp8
    replace hT := hT.mono hle8
    obtain ⟨_, _, _, _, _, _, _, _, rfl, hq1⟩ := hp8
    refine stepK_call_guard rfl rfl rfl rfl rfl rfl rfl rfl hst (snum_Text hst.agree hq1 fx) ?_
    clear hst
    intro v9 g9 w9 hst hle9 hcs9 hp9
    replace hT := hT.mono hle9
    replace hq1 := hq1.mono hle9
    obtain rfl := hp9
    refine stepK_guard rfl rfl rfl rfl rfl rfl hst (Does.yes (does_eql_string rfl rfl rfl) rfl) ?_
    refine stepK_d rfl rfl rfl hst (does_pick_true rfl rfl rfl) ?_
    refine zM rfl hst rfl ?_
    refine stepK_guard rfl rfl rfl rfl rfl rfl hst (does_move rfl rfl) ?_
    refine stepK_guard rfl rfl rfl rfl rfl rfl hst (does_move rfl rfl) ?_
    refine stepK_guard rfl rfl rfl rfl rfl rfl hst (Does.yes (does_eql rfl rfl rfl) rfl) ?_
    refine stepK_d rfl rfl rfl hst (does_pick_true rfl rfl rfl) ?_
    refine zM rfl hst rfl ?_
    refine stepK_guard rfl rfl rfl rfl rfl rfl hst (does_move rfl rfl) ?_
    refine stepK_d rfl rfl rfl hst (does_pick_true rfl rfl rfl) ?_
    refine zM rfl hst rfl ?_
    refine wpK_splitb (t := 63) rfl ?_ ?_
    · intro s63
      refine stepK_call_guard rfl rfl rfl rfl rfl rfl rfl rfl hst (law01_awake hst.agree hT) ?_
      clear hst
      intro v10 g10 w10 hst hle10 hcs10 hp10
      replace hT := hT.mono hle10
      replace hq1 := hq1.mono hle10
      obtain rfl := hp10
      refine stepK_d rfl rfl rfl hst (does_pick_true rfl rfl rfl) ?_
      refine zA rfl hst rfl ?_
      refine znt ?_
      refine cp_ret ?_
      refine ret1 rfl rfl hst ?_
      first
      | rfl
      | simp_all
    · intro s63
      refine stepK_pass rfl rfl rfl rfl rfl rfl rfl ?_
      refine stepK_d rfl rfl rfl hst (does_pick_false rfl rfl rfl) ?_
      refine zA rfl hst rfl ?_
      refine znt ?_
      refine cp_ret ?_
      refine ret1 rfl rfl hst ?_
      first
      | rfl
      | simp_all

end Go.Proofs.YtbamjcfdlgnicaaGreatDoor
