/- The walks of functions, printed by a program of this session out of its specs. -/
import Derived.Test.YtbamjcfdlgnicaaGreatDoorFA
import Derived.Test.YtbamjcfdlgnicaaGreatDoorFB
import Derived.Test.YtbamjcfdlgnicaaGreatDoorQX
import Derived.Test.YtbamjcfdlgnicaaGreatDoorProg
import Derived.Test.YtbamjcfdlgnicaaGreatDoorF0
namespace Go.Proofs.YtbamjcfdlgnicaaGreatDoor
open Go Go.RowKit Go.Proofs.Vc
set_option linter.unusedVariables false
set_option linter.unusedSimpArgs false

set_option maxHeartbeats 1000000 in
theorem sref_Floor {g : Mem} {w : World} (hag : Agree g w) {a : ByteArray} (ha : a.size < 50000000) :
    CallTo Tryz.prog 76 #[.string a] w (Ret w g fun v g => v = .string (ratS ((getR a).floor : Rat))) := by
  refine CallTo.enter (vs := [.string a]) zf174 (by kernel_rfl) rfl rfl rfl ?_
  have hst := St.init hag
  have sa := getR_sz a
  have fa := sa.fitH (by omega)
  refine zsr ?_
  refine zA rfl hst rfl ?_
  refine zn4 ?_
  refine zM rfl hst rfl ?_
  refine stepK_call rfl rfl rfl rfl rfl hst (snum_Num hst.agree (by omega)) ?_
  clear hst
  intro v1 g1 w1 hst hle1 hcs1 hp1
  obtain ⟨na, A, ln, c, nb, B, m, d, rfl, hx⟩ := hp1
  refine stepK_call rfl rfl rfl rfl rfl hst (snum_Floor hst.agree hx fa) ?_
  clear hst
  intro v2 g2 w2 hst hle2 hcs2 hp2
  replace hx := hx.mono hle2
  obtain ⟨nd1, D1, dn1, dc1, rfl, hd1⟩ := hp2
  refine stepK_d rfl rfl rfl hst (does_build rfl zf122 rfl rfl) ?_
  refine stepK_call rfl rfl rfl rfl rfl hst (snum_Text hst.agree (IsQ.int hd1) (Sz.fitH (floor_sz sa) (by omega))) ?_
  clear hst
  intro v3 g3 w3 hst hle3 hcs3 hp3
  replace hx := hx.mono hle3
  replace hd1 := hd1.mono hle3
  obtain rfl := hp3
  refine zA rfl hst rfl ?_
  refine znt ?_
  refine cp_ret ?_
  refine ret1 rfl rfl hst ?_
  rfl

set_option maxHeartbeats 1000000 in
theorem sref_Ceil {g : Mem} {w : World} (hag : Agree g w) {a : ByteArray} (ha : a.size < 50000000) :
    CallTo Tryz.prog 78 #[.string a] w (Ret w g fun v g => v = .string (ratS (-((-getR a).floor : Rat)))) := by
  refine CallTo.enter (vs := [.string a]) zf175 (by kernel_rfl) rfl rfl rfl ?_
  have hst := St.init hag
  have sa := getR_sz a
  have fa := sa.fitH (by omega)
  refine zsr ?_
  refine zA rfl hst rfl ?_
  refine zn4 ?_
  refine zM rfl hst rfl ?_
  refine stepK_call rfl rfl rfl rfl rfl hst (snum_Num hst.agree (by omega)) ?_
  clear hst
  intro v1 g1 w1 hst hle1 hcs1 hp1
  obtain ⟨na, A, ln, c, nb, B, m, d, rfl, hx⟩ := hp1
  refine stepK_call rfl rfl rfl rfl rfl hst (snum_RNeg hst.agree hx) ?_
  clear hst
  intro v2 g2 w2 hst hle2 hcs2 hp2
  replace hx := hx.mono hle2
  obtain ⟨_, _, _, _, _, _, _, _, rfl, hq⟩ := hp2
  refine stepK_call rfl rfl rfl rfl rfl hst (snum_Floor hst.agree hq fa.neg) ?_
  clear hst
  intro v3 g3 w3 hst hle3 hcs3 hp3
  replace hx := hx.mono hle3
  replace hq := hq.mono hle3
  obtain ⟨nd1, D1, dn1, dc1, rfl, hd1⟩ := hp3
  refine stepK_call rfl rfl rfl rfl rfl hst (snum_Neg hst.agree hd1) ?_
  clear hst
  intro v4 g4 w4 hst hle4 hcs4 hp4
  replace hx := hx.mono hle4
  replace hq := hq.mono hle4
  replace hd1 := hd1.mono hle4
  obtain ⟨nd2, D2, dn2, dc2, rfl, hd2⟩ := hp4
  refine stepK_d rfl rfl rfl hst (does_build rfl zf122 rfl rfl) ?_
  refine stepK_call rfl rfl rfl rfl rfl hst (snum_Text hst.agree ((IsQ.int hd2).to (Rat.intCast_neg _)) (Sz.fitH ((floor_sz sa.neg).neg) (by omega))) ?_
  clear hst
  intro v5 g5 w5 hst hle5 hcs5 hp5
  replace hx := hx.mono hle5
  replace hq := hq.mono hle5
  replace hd1 := hd1.mono hle5
  replace hd2 := hd2.mono hle5
  obtain rfl := hp5
  refine zA rfl hst rfl ?_
  refine znt ?_
  refine cp_ret ?_
  refine ret1 rfl rfl hst ?_
  rfl

end Go.Proofs.YtbamjcfdlgnicaaGreatDoor
