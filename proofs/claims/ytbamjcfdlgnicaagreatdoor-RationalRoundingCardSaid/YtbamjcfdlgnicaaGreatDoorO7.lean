/- The walks of functions, printed by a program of this session out of its specs. -/
import Derived.Test.YtbamjcfdlgnicaaGreatDoorFR
import Derived.Test.YtbamjcfdlgnicaaGreatDoorFW
import Derived.Test.YtbamjcfdlgnicaaGreatDoorFG
import Derived.Test.YtbamjcfdlgnicaaGreatDoorFT
import Derived.Test.YtbamjcfdlgnicaaGreatDoorF6
import Derived.Test.YtbamjcfdlgnicaaGreatDoorQ3
import Derived.Test.YtbamjcfdlgnicaaGreatDoorProg
import Derived.Test.YtbamjcfdlgnicaaGreatDoorF0
namespace Go.Proofs.YtbamjcfdlgnicaaGreatDoor
open Go Go.RowKit Go.Proofs.Vc
set_option linter.unusedVariables false
set_option linter.unusedSimpArgs false

set_option maxHeartbeats 4000000 in
theorem RationalRounding_walk {g : Mem} {w : World} (hag : Agree g w) (hT : TabG Tryz.prog g) {a b : ByteArray} :
    CallTo Tryz.prog 16 #[.string a, .string b] w (Ret w g fun v g => v = .bool true) := by
  refine CallTo.enter (vs := [.string a, .string b]) (by kernel_rfl : Tryz.prog.funcs[16]? = some Tryz.f16) (by kernel_rfl) rfl rfl rfl ?_
  have hst := St.init hag
  refine zsr ?_
  refine zA rfl hst rfl ?_
  refine znq ?_
  refine zsr ?_
  refine zM rfl hst rfl ?_
  refine zM rfl hst rfl ?_
  refine stepK_buildSlice rfl rfl rfl rfl zf168 zf177 rfl rfl (by decide) (by decide) (by decide) rfl rfl hst ?_
  clear hst
  intro bs w1 hst
  obtain ⟨hst, hleS⟩ := hst.publish 0 rfl
  replace hT := hT.mono hleS
  refine stepK_call rfl rfl rfl rfl rfl hst (keep_Short (ss := [a, b]) (n := 200) hst.agree (fun j s hj => by rw [gcell_put]; match j, hj with | 0, hj => simpa using hj | 1, hj => simpa using hj) (by simp)) ?_
  clear hst
  intro v2 g2 w2 hst hle2 hcs2 hp2
  replace hT := hT.mono hle2
  obtain rfl := hp2
  refine stepK_d rfl rfl rfl hst (does_not rfl rfl) ?_
  refine znt ?_
  refine cp_cond rfl ?_ ?_
  intro c13
  refine zsr ?_
  refine stepK_call rfl rfl rfl rfl rfl hst (law01_awake hst.agree hT) ?_
  clear hst
  intro v3 g3 w3 hst hle3 hcs3 hp3
  replace hT := hT.mono hle3
  obtain rfl := hp3
  refine zA rfl hst rfl ?_
  refine zn5 ?_
  refine ret1 rfl rfl hst ?_
  first
  | rfl
  | simp_all
  intro c13
  have hsh : ∀ s ∈ [a, b], s.size ≤ 200 := dec_of c13
  have ha : a.size ≤ 200 := hsh a (by simp)
  have hb : b.size ≤ 200 := hsh b (by simp)
  have sx := (getR_sz a).mono (m := 201) (by omega)
  have sy := (getR_sz b).mono (m := 201) (by omega)
  have fx := sx.fitH (by decide)
  have fy := sy.fitH (by decide)
  refine zk4 ?_
  refine zM rfl hst rfl ?_
  refine stepK_call rfl rfl rfl rfl rfl hst (rational_Root hst.agree hT (a := a) (by omega)) ?_
  clear hst
  intro v4 g4 w4 hst hle4 hcs4 hp4
  replace hT := hT.mono hle4
  obtain rfl := hp4
  refine zM rfl hst rfl ?_
  refine zE rfl hst rfl rfl ?_
  refine zE rfl hst rfl rfl ?_
  refine zA rfl hst rfl ?_
  refine zA rfl hst rfl ?_
  refine zn4 ?_
  refine zM rfl hst rfl ?_
  refine stepK_call rfl rfl rfl rfl rfl hst (sref_Root hst.agree (a := a) (by omega)) ?_
  clear hst
  intro v5 g5 w5 hst hle5 hcs5 hp5
  replace hT := hT.mono hle5
  obtain rfl := hp5
  refine zM rfl hst rfl ?_
  refine zE rfl hst rfl rfl ?_
  refine zE rfl hst rfl rfl ?_
  refine zA rfl hst rfl ?_
  refine zA rfl hst rfl ?_
  refine zn4 ?_
  refine zM rfl hst rfl ?_
  refine stepK_call rfl rfl rfl rfl rfl hst (rational_Floor hst.agree hT (a := a) (by omega)) ?_
  clear hst
  intro v6 g6 w6 hst hle6 hcs6 hp6
  replace hT := hT.mono hle6
  obtain rfl := hp6
  refine zM rfl hst rfl ?_
  refine stepK_call rfl rfl rfl rfl rfl hst (sref_Floor hst.agree (a := a) (by omega)) ?_
  clear hst
  intro v7 g7 w7 hst hle7 hcs7 hp7
  replace hT := hT.mono hle7
  obtain rfl := hp7
  refine stepK_d rfl rfl rfl hst (Does.yes (does_eql_string rfl rfl rfl) rfl) ?_
  refine zM rfl hst rfl ?_
  refine stepK_guard rfl rfl rfl rfl rfl rfl hst (does_move rfl rfl) ?_
  refine stepK_call_guard rfl rfl rfl rfl rfl rfl rfl rfl hst (rational_Ceil hst.agree hT (a := a) (by omega)) ?_
  clear hst
  intro v8 g8 w8 hst hle8 hcs8 hp8
  replace hT := hT.mono hle8
  obtain rfl := hp8
  refine stepK_guard rfl rfl rfl rfl rfl rfl hst (does_move rfl rfl) ?_
  refine stepK_call_guard rfl rfl rfl rfl rfl rfl rfl rfl hst (sref_Ceil hst.agree (a := a) (by omega)) ?_
  clear hst
  intro v9 g9 w9 hst hle9 hcs9 hp9
  replace hT := hT.mono hle9
  obtain rfl := hp9
  refine stepK_guard rfl rfl rfl rfl rfl rfl hst (Does.yes (does_eql_string rfl rfl rfl) rfl) ?_
  refine stepK_d rfl rfl rfl hst (does_pick_true rfl rfl rfl) ?_
  refine zM rfl hst rfl ?_
  refine stepK_guard rfl rfl rfl rfl rfl rfl hst (does_move rfl rfl) ?_
  refine stepK_guard rfl rfl rfl rfl rfl rfl hst (does_move rfl rfl) ?_
  refine stepK_call_guard rfl rfl rfl rfl rfl rfl rfl rfl hst (rational_GCD hst.agree hT (a := a) (b := b) (by omega) (by omega)) ?_
  clear hst
  intro v10 g10 w10 hst hle10 hcs10 hp10
  replace hT := hT.mono hle10
  obtain rfl := hp10
  refine stepK_guard rfl rfl rfl rfl rfl rfl hst (does_move rfl rfl) ?_
  refine stepK_call_guard rfl rfl rfl rfl rfl rfl rfl rfl hst (snum_Num hst.agree (by omega)) ?_
  clear hst
  intro v11 g11 w11 hst hle11 hcs11 hp11
  replace hT := hT.mono hle11
  obtain ⟨na, A, n, c, nb, B, m, d, rfl, hx⟩ := hp11
  refine stepK_guard rfl rfl rfl rfl rfl rfl hst (does_move rfl rfl) ?_
  refine stepK_call_guard rfl rfl rfl rfl rfl rfl rfl rfl hst (snum_Num hst.agree (by omega)) ?_
  clear hst
  intro v12 g12 w12 hst hle12 hcs12 hp12
  replace hT := hT.mono hle12
  replace hx := hx.mono hle12
  obtain ⟨na2, A2, n2, c2, nb2, B2, m2, d2, rfl, hy⟩ := hp12
  refine stepK_call_guard rfl rfl rfl rfl rfl rfl rfl rfl hst (sref_Gcd hst.agree hx hy fx fy) ?_
  clear hst
  intro v13 g13 w13 hst hle13 hcs13 hp13
  replace hT := hT.mono hle13
  replace hx := hx.mono hle13
  replace hy := hy.mono hle13
  obtain ⟨_, _, _, _, _, _, _, _, rfl, hq1⟩ := hp13
  refine stepK_call_guard rfl rfl rfl rfl rfl rfl rfl rfl hst (snum_Text hst.agree hq1 ((gcdR_sz sx sy).fitH (by decide))) ?_
  clear hst
  intro v14 g14 w14 hst hle14 hcs14 hp14
  replace hT := hT.mono hle14
  replace hx := hx.mono hle14
  replace hy := hy.mono hle14
  replace hq1 := hq1.mono hle14
  obtain rfl := hp14
  refine stepK_guard rfl rfl rfl rfl rfl rfl hst (Does.yes (does_eql_string rfl rfl rfl) rfl) ?_
  refine stepK_d rfl rfl rfl hst (does_pick_true rfl rfl rfl) ?_
  refine zM rfl hst rfl ?_
  refine stepK_guard rfl rfl rfl rfl rfl rfl hst (does_move rfl rfl) ?_
  refine stepK_guard rfl rfl rfl rfl rfl rfl hst (does_move rfl rfl) ?_
  refine stepK_guard rfl rfl rfl rfl rfl rfl hst (Does.yes (does_eql_string rfl rfl rfl) rfl) ?_
  refine stepK_d rfl rfl rfl hst (does_pick_true rfl rfl rfl) ?_
  refine zM rfl hst rfl ?_
  refine stepK_guard rfl rfl rfl rfl rfl rfl hst (does_move rfl rfl) ?_
  refine stepK_guard rfl rfl rfl rfl rfl rfl hst (does_move rfl rfl) ?_
  refine stepK_guard rfl rfl rfl rfl rfl rfl hst (Does.btrue' (does_eql_bool rfl (by kernel_rfl) rfl rfl) (same_dec' Iff.rfl)) ?_
  refine stepK_d rfl rfl rfl hst (does_pick_true rfl rfl rfl) ?_
  refine zM rfl hst rfl ?_
  refine stepK_guard rfl rfl rfl rfl rfl rfl hst (does_move rfl rfl) ?_
  refine stepK_call_guard rfl rfl rfl rfl rfl rfl rfl rfl hst (rational_Bits hst.agree (a := a) (by omega)) ?_
  clear hst
  intro v15 g15 w15 hst hle15 hcs15 hp15
  replace hT := hT.mono hle15
  replace hx := hx.mono hle15
  replace hy := hy.mono hle15
  replace hq1 := hq1.mono hle15
  obtain rfl := hp15
  refine stepK_guard rfl rfl rfl rfl rfl rfl hst (does_move rfl rfl) ?_
  refine stepK_call_guard rfl rfl rfl rfl rfl rfl rfl rfl hst (sref_Bits hst.agree (a := a) (by omega)) ?_
  clear hst
  intro v16 g16 w16 hst hle16 hcs16 hp16
  replace hT := hT.mono hle16
  replace hx := hx.mono hle16
  replace hy := hy.mono hle16
  replace hq1 := hq1.mono hle16
  obtain rfl := hp16
  refine stepK_guard rfl rfl rfl rfl rfl rfl hst (Does.yes (does_eql rfl rfl rfl) rfl) ?_
  refine stepK_d rfl rfl rfl hst (does_pick_true rfl rfl rfl) ?_
  refine zM rfl hst rfl ?_
  refine stepK_call_guard rfl rfl rfl rfl rfl rfl rfl rfl hst (law01_awake hst.agree hT) ?_
  clear hst
  intro v17 g17 w17 hst hle17 hcs17 hp17
  replace hT := hT.mono hle17
  replace hx := hx.mono hle17
  replace hy := hy.mono hle17
  replace hq1 := hq1.mono hle17
  obtain rfl := hp17
  refine stepK_d rfl rfl rfl hst (does_pick_true rfl rfl rfl) ?_
  refine zA rfl hst rfl ?_
  refine znt ?_
  refine cp_ret ?_
  refine ret1 rfl rfl hst ?_
  first
  | rfl
  | simp_all

end Go.Proofs.YtbamjcfdlgnicaaGreatDoor
