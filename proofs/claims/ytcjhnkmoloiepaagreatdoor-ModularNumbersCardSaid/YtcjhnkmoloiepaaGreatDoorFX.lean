/- The walks of functions, printed by a program of this session out of its specs. -/
import Derived.Test.YtcjhnkmoloiepaaGreatDoorFV
import Derived.Test.YtcjhnkmoloiepaaGreatDoorQX
import Derived.Test.YtcjhnkmoloiepaaGreatDoorFT
import Derived.Test.YtcjhnkmoloiepaaGreatDoorProg
import Derived.Test.YtcjhnkmoloiepaaGreatDoorF0
namespace Go.Proofs.YtcjhnkmoloiepaaGreatDoor
open Go Go.RowKit Go.Proofs.Vc
set_option linter.unusedVariables false
set_option linter.unusedSimpArgs false

set_option maxHeartbeats 1000000 in
theorem rational_Parts {g : Mem} {w : World} (hag : Agree g w) (hT : TabG Tryz.prog g) {a : ByteArray} (ha : a.size < 50000000) :
    CallTo Tryz.prog 28 #[.string a] w (Ret w g fun v g => v = .tuple #[.string (ratS ((getR a).num : Rat)), .string (ratS (((getR a).den : Int) : Rat))]) := by
  refine CallTo.enter (vs := [.string a]) zf126 (by kernel_rfl) rfl rfl rfl ?_
  have hst := St.init hag
  have sa := getR_sz a
  refine zsr ?_
  refine zA rfl hst rfl ?_
  refine zA rfl hst rfl ?_
  refine zn4 ?_
  refine zM rfl hst rfl ?_
  refine stepK_call rfl rfl rfl rfl rfl hst (num_Get hst.agree (by omega)) ?_
  clear hst
  intro v1 g1 w1 hst hle1 hcs1 hp1
  replace hT := hT.mono hle1
  obtain ⟨p1, q1, a1, rfl, h1⟩ := hp1
  refine stepK_alloc rfl rfl rfl rfl zf29 rfl hst ?_
  clear hst
  intro b2 w2 hst
  refine stepK_store 0 rfl rfl rfl rfl rfl rfl zf31 rfl rfl hst rfl (by first | (simp [uN_length]; omega) | simp) ?_
  clear hst
  intro w3 hst
  simp only [zL, splice, Nat.reduceAdd] at hst
  refine znq ?_
  refine cp_drawn (by kernel_rfl) 8 [(0, true), (3, true), (1, false), (2, false), (4, false), (5, false), (6, true), (7, true)] _ rfl (by kernel_rfl) (by kernel_rfl) (by kernel_rfl) (fun _ _ _ _ _ h => h) _ (hst.drew) ?_
  have hst0 := hst.drew
  clear hst
  have hst := hst0
  refine stepD_d rfl rfl rfl rfl (does_load_ownN 0 rfl (by kernel_rfl) zf31 rfl rfl rfl) ?_
  refine stepD_d rfl rfl rfl rfl (does_load_ownN 0 rfl (by kernel_rfl) zf31 rfl rfl rfl) ?_
  refine stepD_call rfl rfl rfl rfl rfl rfl hst (Rat_Num hst.agree h1) (fun _ _ h hle => St.older h hle (by simp) hst0.ext hst0.le) ?_
  clear hst
  intro v4 g4 w4 hst hle4 hcs4 hp4
  have hlesum := hle4
  replace hT := hT.mono hle4
  replace h1 := h1.mono hle4
  obtain ⟨p2, q2, a2, rfl, h2⟩ := hp4
  refine stepD_call rfl rfl rfl rfl rfl rfl hst (Rat_String hst.agree hT h2 (sa.numI.fit (by omega))) (fun _ _ h hle => St.older h (Mem.le.trans hlesum hle) (by simp) hst0.ext hst0.le) ?_
  clear hst
  intro v5 g5 w5 hst hle5 hcs5 hp5
  replace hlesum := Mem.le.trans hlesum hle5
  replace hT := hT.mono hle5
  replace h1 := h1.mono hle5
  replace h2 := h2.mono hle5
  obtain rfl := hp5
  refine stepD_call rfl rfl rfl rfl rfl rfl hst (Rat_Den hst.agree h1) (fun _ _ h hle => St.older h (Mem.le.trans hlesum hle) (by simp) hst0.ext hst0.le) ?_
  clear hst
  intro v6 g6 w6 hst hle6 hcs6 hp6
  replace hlesum := Mem.le.trans hlesum hle6
  replace hT := hT.mono hle6
  replace h1 := h1.mono hle6
  replace h2 := h2.mono hle6
  obtain ⟨p3, q3, a3, rfl, h3⟩ := hp6
  refine stepD_call rfl rfl rfl rfl rfl rfl hst (Rat_String hst.agree hT h3 (sa.denI.fit (by omega))) (fun _ _ h hle => St.older h (Mem.le.trans hlesum hle) (by simp) hst0.ext hst0.le) ?_
  clear hst
  intro v7 g7 w7 hst hle7 hcs7 hp7
  replace hlesum := Mem.le.trans hlesum hle7
  replace hT := hT.mono hle7
  replace h1 := h1.mono hle7
  replace h2 := h2.mono hle7
  replace h3 := h3.mono hle7
  obtain rfl := hp7
  refine stepD_d rfl rfl rfl rfl (does_assign rfl rfl) ?_
  refine stepD_d rfl rfl rfl rfl (does_assign rfl rfl) ?_
  refine stepD_tail ?_
  refine znt ?_
  refine cp_ret ?_
  refine ret2 rfl rfl rfl hst ?_
  rfl

set_option maxHeartbeats 1000000 in
theorem rational_Valid {g : Mem} {w : World} (hag : Agree g w) {a : ByteArray} (ha : a.size < 50000000) :
    CallTo Tryz.prog 27 #[.string a] w (Ret w g fun v g => v = .bool (readR a).isSome) := by
  refine CallTo.enter (vs := [.string a]) zf127 (by kernel_rfl) rfl rfl rfl ?_
  have hst := St.init hag
  refine zsr ?_
  refine zA rfl hst rfl ?_
  refine zn4 ?_
  refine zM rfl hst rfl ?_
  refine stepK_call rfl rfl rfl rfl rfl hst (num_Of hst.agree (by omega)) ?_
  clear hst
  intro v1 g1 w1 hst hle1 hcs1 hp1
  obtain ⟨p1, q1, a1, rfl, h1⟩ := hp1
  refine zM rfl hst rfl ?_
  refine zE rfl hst rfl rfl ?_
  refine zE rfl hst rfl rfl ?_
  refine stepK_alloc rfl rfl rfl rfl zf29 rfl hst ?_
  clear hst
  intro b2 w2 hst
  refine stepK_store 0 rfl rfl rfl rfl rfl rfl zf31 rfl rfl hst rfl (by first | (simp [uN_length]; omega) | simp) ?_
  clear hst
  intro w3 hst
  simp only [zL, splice, Nat.reduceAdd] at hst
  refine zA rfl hst rfl ?_
  refine zn4 ?_
  refine zM rfl hst rfl ?_
  refine zA rfl hst rfl ?_
  refine znt ?_
  refine cp_ret ?_
  refine ret1 rfl rfl hst ?_
  rfl

set_option maxHeartbeats 1000000 in
theorem rational_FromInt {g : Mem} {w : World} (hag : Agree g w) (hT : TabG Tryz.prog g) {x : Int} (h1 : -9223372036854775808 ≤ x) (h2 : x ≤ 9223372036854775807) :
    CallTo Tryz.prog 19 #[.int .i64 x] w (Ret w g fun v g => v = .string (ratS (x : Rat))) := by
  refine CallTo.enter (vs := [.int .i64 x]) zf128 (by kernel_rfl) rfl rfl rfl ?_
  have hst := St.init hag
  refine zsr ?_
  refine zA rfl hst rfl ?_
  refine zn4 ?_
  refine zM rfl hst rfl ?_
  refine stepK_call rfl rfl rfl rfl rfl hst (num_Int hst.agree h1 h2) ?_
  clear hst
  intro v1 g1 w1 hst hle1 hcs1 hp1
  replace hT := hT.mono hle1
  obtain ⟨p3, q3, a3, rfl, h3⟩ := hp1
  refine stepK_call rfl rfl rfl rfl rfl hst (Rat_String hst.agree hT h3 ((int_sz h1 h2).fit (by decide))) ?_
  clear hst
  intro v2 g2 w2 hst hle2 hcs2 hp2
  replace hT := hT.mono hle2
  replace h3 := h3.mono hle2
  obtain rfl := hp2
  refine zA rfl hst rfl ?_
  refine znt ?_
  refine cp_ret ?_
  refine ret1 rfl rfl hst ?_
  rfl

end Go.Proofs.YtcjhnkmoloiepaaGreatDoor
