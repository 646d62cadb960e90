/- A helper of the claim: general lemmas and walks of functions, printed by a program of this session. Conditions: none. -/
import Derived.Test.YtcjhnkmoloiepaaGreatDoorF6
import Derived.Test.YtcjhnkmoloiepaaGreatDoorProg
import Derived.Test.YtcjhnkmoloiepaaGreatDoorF5
import Derived.Test.YtcjhnkmoloiepaaGreatDoorQ2
import Derived.Test.YtcjhnkmoloiepaaGreatDoorF0
namespace Go.Proofs.YtcjhnkmoloiepaaGreatDoor
open Go Go.RowKit Go.Proofs.Vc
set_option linter.unusedVariables false
set_option linter.unusedSimpArgs false

set_option maxHeartbeats 1000000 in
theorem num_Get {g : Mem} {w : World} (hag : Agree g w) {s : ByteArray} (hs : s.size < 1099511627776) :
    CallTo Tryz.prog 58 #[.string s] w (Ret w g fun v g => ∃ p q a, v = .agg #[.int .i64 p, .int .i64 q, .pointer a] ∧ IsRat g p q a (getR s)) := by
  refine CallTo.enter (vs := [.string s]) zf74 (by kernel_rfl) rfl rfl rfl ?_
  have hst := St.init hag
  refine zsr ?_
  refine stepK_alloc rfl rfl rfl rfl zf29 rfl hst ?_
  clear hst
  intro b1 w1 hst
  refine zn4 ?_
  refine zM rfl hst rfl ?_
  refine stepK_call rfl rfl rfl rfl rfl hst (num_Of hst.agree hs) ?_
  clear hst
  intro v2 g2 w2 hst hle2 hcs2 hp2
  obtain ⟨p9, q9, a9, rfl, hr9⟩ := hp2
  refine zM rfl hst rfl ?_
  refine zE rfl hst rfl rfl ?_
  refine zE rfl hst rfl rfl ?_
  refine stepK_alloc rfl rfl rfl rfl zf29 rfl hst ?_
  clear hst
  intro b3 w3 hst
  refine stepK_store 1 rfl rfl rfl rfl rfl rfl zf31 rfl rfl hst rfl (by first | (simp [uN_length]; omega) | simp) ?_
  clear hst
  intro w4 hst
  simp only [zL, splice, Nat.reduceAdd] at hst
  refine zA rfl hst rfl ?_
  refine zn4 ?_
  refine stepK_d rfl rfl rfl hst (does_load_ownN 1 rfl (by kernel_rfl) zf31 rfl rfl rfl) ?_
  refine stepK_store 0 rfl rfl rfl rfl rfl rfl zf31 rfl rfl hst rfl (by first | (simp [uN_length]; omega) | simp) ?_
  clear hst
  intro w5 hst
  simp only [zL, splice, Nat.reduceAdd] at hst
  refine znt ?_
  refine cp_ret ?_
  refine ret1c (k := 0) rfl rfl (by kernel_rfl) (by kernel_rfl) rfl hst rfl ?_
  exact ⟨_, _, _, rfl, hr9⟩

end Go.Proofs.YtcjhnkmoloiepaaGreatDoor

namespace Go.Proofs.YtcjhnkmoloiepaaGreatDoor
open Go Go.RowKit Go.Proofs.Vc
set_option linter.unusedVariables false
set_option linter.unusedSimpArgs false

set_option maxHeartbeats 1000000 in
theorem rational_Add {g : Mem} {w : World} (hag : Agree g w) (hT : TabG Tryz.prog g) {a b : ByteArray} (ha : a.size < 1073741824) (hb : b.size < 1073741824) :
    CallTo Tryz.prog 18 #[.string a, .string b] w (Ret w g fun v g => v = .string (ratS (getR a + getR b))) := by
  refine CallTo.enter (vs := [.string a, .string b]) zf75 (by kernel_rfl) rfl rfl rfl ?_
  have hst := St.init hag
  have fa := (getR_sz a).fit (by omega)
  have fb := (getR_sz b).fit (by omega)
  refine zsr ?_
  refine zA rfl hst rfl ?_
  refine zn4 ?_
  refine zM rfl hst rfl ?_
  refine stepK_call rfl rfl rfl rfl rfl hst (num_Get hst.agree (by omega)) ?_
  clear hst
  intro v1 g1 w1 hst hle1 hcs1 hp1
  replace hT := hT.mono hle1
  obtain ⟨p1, q1, a1, rfl, h1⟩ := hp1
  refine zM rfl hst rfl ?_
  refine stepK_call rfl rfl rfl rfl rfl hst (num_Get hst.agree (by omega)) ?_
  clear hst
  intro v2 g2 w2 hst hle2 hcs2 hp2
  replace hT := hT.mono hle2
  replace h1 := h1.mono hle2
  obtain ⟨p2, q2, a2, rfl, h2⟩ := hp2
  refine stepK_call rfl rfl rfl rfl rfl hst (Rat_Add hst.agree h1 h2 fa fb) ?_
  clear hst
  intro v3 g3 w3 hst hle3 hcs3 hp3
  replace hT := hT.mono hle3
  replace h1 := h1.mono hle3
  replace h2 := h2.mono hle3
  obtain ⟨p3, q3, a3, rfl, h3⟩ := hp3
  refine stepK_call rfl rfl rfl rfl rfl hst (Rat_String hst.agree hT h3 (((getR_sz a).add (getR_sz b)).fit (by omega))) ?_
  clear hst
  intro v4 g4 w4 hst hle4 hcs4 hp4
  replace hT := hT.mono hle4
  replace h1 := h1.mono hle4
  replace h2 := h2.mono hle4
  replace h3 := h3.mono hle4
  obtain rfl := hp4
  refine zA rfl hst rfl ?_
  refine znt ?_
  refine cp_ret ?_
  refine ret1 rfl rfl hst ?_
  rfl

set_option maxHeartbeats 1000000 in
theorem rational_Mul {g : Mem} {w : World} (hag : Agree g w) (hT : TabG Tryz.prog g) {a b : ByteArray} (ha : a.size < 1073741824) (hb : b.size < 1073741824) :
    CallTo Tryz.prog 20 #[.string a, .string b] w (Ret w g fun v g => v = .string (ratS (getR a * getR b))) := by
  refine CallTo.enter (vs := [.string a, .string b]) zf76 (by kernel_rfl) rfl rfl rfl ?_
  have hst := St.init hag
  have fa := (getR_sz a).fit (by omega)
  have fb := (getR_sz b).fit (by omega)
  refine zsr ?_
  refine zA rfl hst rfl ?_
  refine zn4 ?_
  refine zM rfl hst rfl ?_
  refine stepK_call rfl rfl rfl rfl rfl hst (num_Get hst.agree (by omega)) ?_
  clear hst
  intro v1 g1 w1 hst hle1 hcs1 hp1
  replace hT := hT.mono hle1
  obtain ⟨p1, q1, a1, rfl, h1⟩ := hp1
  refine zM rfl hst rfl ?_
  refine stepK_call rfl rfl rfl rfl rfl hst (num_Get hst.agree (by omega)) ?_
  clear hst
  intro v2 g2 w2 hst hle2 hcs2 hp2
  replace hT := hT.mono hle2
  replace h1 := h1.mono hle2
  obtain ⟨p2, q2, a2, rfl, h2⟩ := hp2
  refine stepK_call rfl rfl rfl rfl rfl hst (Rat_Mul hst.agree h1 h2 fa fb) ?_
  clear hst
  intro v3 g3 w3 hst hle3 hcs3 hp3
  replace hT := hT.mono hle3
  replace h1 := h1.mono hle3
  replace h2 := h2.mono hle3
  obtain ⟨p3, q3, a3, rfl, h3⟩ := hp3
  refine stepK_call rfl rfl rfl rfl rfl hst (Rat_String hst.agree hT h3 (((getR_sz a).mul (getR_sz b)).fit (by omega))) ?_
  clear hst
  intro v4 g4 w4 hst hle4 hcs4 hp4
  replace hT := hT.mono hle4
  replace h1 := h1.mono hle4
  replace h2 := h2.mono hle4
  replace h3 := h3.mono hle4
  obtain rfl := hp4
  refine zA rfl hst rfl ?_
  refine znt ?_
  refine cp_ret ?_
  refine ret1 rfl rfl hst ?_
  rfl

set_option maxHeartbeats 1000000 in
theorem rational_Div {g : Mem} {w : World} (hag : Agree g w) (hT : TabG Tryz.prog g) {a b : ByteArray} (ha : a.size < 1073741824) (hb : b.size < 1073741824) :
    CallTo Tryz.prog 22 #[.string a, .string b] w (Ret w g fun v g => v = .tuple #[.string (if getR b = 0 then ⟨#[]⟩ else ratS (getR a / getR b)), .bool (decide (getR b ≠ 0))]) := by
  refine CallTo.enter (vs := [.string a, .string b]) zf77 (by kernel_rfl) rfl rfl rfl ?_
  have hst := St.init hag
  have fa := (getR_sz a).fit (by omega)
  have fb := (getR_sz b).fit (by omega)
  refine zsr ?_
  refine zA rfl hst rfl ?_
  refine zA rfl hst rfl ?_
  refine zn4 ?_
  refine zM rfl hst rfl ?_
  refine stepK_call rfl rfl rfl rfl rfl hst (num_Get hst.agree (by omega)) ?_
  clear hst
  intro v1 g1 w1 hst hle1 hcs1 hp1
  replace hT := hT.mono hle1
  obtain ⟨p2, q2, a2, rfl, h2⟩ := hp1
  refine stepK_alloc rfl rfl rfl rfl zf29 rfl hst ?_
  clear hst
  intro b2 w2 hst
  refine stepK_store 0 rfl rfl rfl rfl rfl rfl zf31 rfl rfl hst rfl (by first | (simp [uN_length]; omega) | simp) ?_
  clear hst
  intro w3 hst
  simp only [zL, splice, Nat.reduceAdd] at hst
  refine znq ?_
  refine zsr ?_
  refine stepK_d rfl rfl rfl hst (does_load_ownN 0 rfl (by kernel_rfl) zf31 rfl rfl rfl) ?_
  refine stepK_call rfl rfl rfl rfl rfl hst (Rat_Zero hst.agree h2) ?_
  clear hst
  intro v4 g4 w4 hst hle4 hcs4 hp4
  replace hT := hT.mono hle4
  replace h2 := h2.mono hle4
  obtain rfl := hp4
  refine znt ?_
  refine cp_if rfl ?_ ?_
  intro c10
  refine zsr ?_
  refine zA rfl hst rfl ?_
  refine zA rfl hst rfl ?_
  refine zn5 ?_
  refine ret2 rfl rfl rfl hst ?_
  rw [if_pos c10, decide_eq_false (fun h => h c10)]
  intro c10
  refine cp_skip ?_
  refine cp_then ?_
  refine cp_seq ?_
  refine cp_drawn (by kernel_rfl) 7 [(0, true), (2, true), (1, false), (3, false), (4, false), (5, true), (6, true)] _ rfl (by kernel_rfl) (by kernel_rfl) (by kernel_rfl) (fun _ _ _ _ _ h => h) _ (hst.drew) ?_
  have hst0 := hst.drew
  clear hst
  have hst := hst0
  refine stepD_d rfl rfl rfl rfl (does_move rfl rfl) ?_
  refine stepD_d rfl rfl rfl rfl (does_load_ownN 0 rfl (by kernel_rfl) zf31 rfl rfl rfl) ?_
  refine stepD_call rfl rfl rfl rfl rfl rfl hst (num_Get hst.agree (by omega)) (fun _ _ h hle => St.older h hle (by simp) hst0.ext hst0.le) ?_
  clear hst
  intro v5 g5 w5 hst hle5 hcs5 hp5
  have hlesum := hle5
  replace hT := hT.mono hle5
  replace h2 := h2.mono hle5
  obtain ⟨p1, q1, a1, rfl, h1⟩ := hp5
  refine stepD_call rfl rfl rfl rfl rfl rfl hst (Rat_Quo hst.agree h1 h2 fa fb) (fun _ _ h hle => St.older h (Mem.le.trans hlesum hle) (by simp) hst0.ext hst0.le) ?_
  clear hst
  intro v6 g6 w6 hst hle6 hcs6 hp6
  replace hlesum := Mem.le.trans hlesum hle6
  replace hT := hT.mono hle6
  replace h2 := h2.mono hle6
  replace h1 := h1.mono hle6
  obtain ⟨p3, q3, a3, rfl, h3⟩ := hp6
  refine stepD_call rfl rfl rfl rfl rfl rfl hst (Rat_String hst.agree hT h3 (((getR_sz a).div (getR_sz b)).fit (by omega))) (fun _ _ h hle => St.older h (Mem.le.trans hlesum hle) (by simp) hst0.ext hst0.le) ?_
  clear hst
  intro v7 g7 w7 hst hle7 hcs7 hp7
  replace hlesum := Mem.le.trans hlesum hle7
  replace hT := hT.mono hle7
  replace h2 := h2.mono hle7
  replace h1 := h1.mono hle7
  replace h3 := h3.mono hle7
  obtain rfl := hp7
  refine stepD_d rfl rfl rfl rfl (does_assign rfl rfl) ?_
  refine stepD_d rfl rfl rfl rfl (does_assign rfl rfl) ?_
  refine stepD_tail ?_
  refine znt ?_
  refine cp_ret ?_
  refine ret2 rfl rfl rfl hst ?_
  rw [if_neg c10, decide_eq_true c10]

set_option maxHeartbeats 1000000 in
theorem rational_Compare {g : Mem} {w : World} (hag : Agree g w) {a b : ByteArray} (ha : a.size < 1073741824) (hb : b.size < 1073741824) :
    CallTo Tryz.prog 29 #[.string a, .string b] w (Ret w g fun v g => v = .int .i64 (getR a - getR b).num.sign) := by
  refine CallTo.enter (vs := [.string a, .string b]) zf78 (by kernel_rfl) rfl rfl rfl ?_
  have hst := St.init hag
  have fa := (getR_sz a).fit (by omega)
  have fb := (getR_sz b).fit (by omega)
  refine zsr ?_
  refine zA rfl hst rfl ?_
  refine zn4 ?_
  refine zM rfl hst rfl ?_
  refine stepK_call rfl rfl rfl rfl rfl hst (num_Get hst.agree (by omega)) ?_
  clear hst
  intro v1 g1 w1 hst hle1 hcs1 hp1
  obtain ⟨p1, q1, a1, rfl, h1⟩ := hp1
  refine zM rfl hst rfl ?_
  refine stepK_call rfl rfl rfl rfl rfl hst (num_Get hst.agree (by omega)) ?_
  clear hst
  intro v2 g2 w2 hst hle2 hcs2 hp2
  replace h1 := h1.mono hle2
  obtain ⟨p2, q2, a2, rfl, h2⟩ := hp2
  refine stepK_call rfl rfl rfl rfl rfl hst (Rat_Cmp hst.agree h1 h2 fa fb) ?_
  clear hst
  intro v3 g3 w3 hst hle3 hcs3 hp3
  replace h1 := h1.mono hle3
  replace h2 := h2.mono hle3
  obtain rfl := hp3
  refine zA rfl hst rfl ?_
  refine znt ?_
  refine cp_ret ?_
  refine ret1 rfl rfl hst ?_
  rfl

end Go.Proofs.YtcjhnkmoloiepaaGreatDoor
