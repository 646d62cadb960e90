/- A helper of the claim: general lemmas and walks of functions, printed by a program of this session. Conditions: none. -/
import Derived.Test.YtcjhnkmoloiepaaDoorP2
import Derived.Test.YtcjhnkmoloiepaaDoorF5
import Derived.Test.YtcjhnkmoloiepaaDoorProg
import Derived.Test.YtcjhnkmoloiepaaDoorP3
import Derived.Test.YtcjhnkmoloiepaaDoorH4
import Derived.Test.YtcjhnkmoloiepaaDoorFV
import Derived.Test.YtcjhnkmoloiepaaDoorFW
import Derived.Test.YtcjhnkmoloiepaaDoorF6
import Derived.Test.YtcjhnkmoloiepaaDoorQX
import Derived.Test.YtcjhnkmoloiepaaDoorF0
namespace Go.Proofs.YtcjhnkmoloiepaaDoor
open Go Go.RowKit Go.Proofs.Vc
set_option linter.unusedVariables false
set_option linter.unusedSimpArgs false

set_option maxHeartbeats 1000000 in
theorem Rat_One {g : Mem} {w : World} (hag : Agree g w) {p q : Int} {a : Option Addr} {r : Rat} (ha : IsRat g p q a r) :
    CallTo Tryd.prog 44 #[.agg #[.int .i64 p, .int .i64 q, .pointer a]] w (Ret w g fun v g => v = .bool (decide (r = 1))) := by
  refine CallTo.enter (vs := [.agg #[.int .i64 p, .int .i64 q, .pointer a]]) zf92 (by kernel_rfl) rfl rfl rfl ?_
  have hst := St.init hag
  refine zsr ?_
  refine stepK_box rfl rfl rfl rfl rfl rfl hst ?_
  clear hst
  intro bx w1 hst
  refine zA rfl hst rfl ?_
  refine zn4 ?_
  refine stepK_d rfl rfl rfl hst (does_fieldAddr rfl zf36 rfl) ?_
  refine stepK_d rfl rfl rfl hst (does_load_ownL 0 rfl (by kernel_rfl) rfl rfl rfl) ?_
  refine stepK_d rfl rfl rfl hst (does_eql_nilD rfl zf37 rfl rfl) ?_
  refine zM rfl hst rfl ?_
  refine wpK_split (t := 6) rfl ?_ ?_
  intro s6
  obtain rfl : a = none := s6
  obtain ⟨hl1, hl2, hl3⟩ := ha.low
  refine stepK_guard rfl rfl rfl rfl rfl rfl hst (does_fieldAddr rfl zf26 rfl) ?_
  refine stepK_guard rfl rfl rfl rfl rfl rfl hst (does_load_ownL 0 rfl (by kernel_rfl) rfl rfl rfl) ?_
  refine stepK_guard rfl rfl rfl rfl rfl rfl hst (does_eql rfl rfl rfl) ?_
  refine stepK_d rfl rfl rfl hst (does_pick_true rfl rfl rfl) ?_
  refine zM rfl hst rfl ?_
  refine wpK_split (t := 11) rfl ?_ ?_
  intro s11
  refine stepK_guard rfl rfl rfl rfl rfl rfl hst (does_fieldAddr rfl zf25 rfl) ?_
  refine stepK_guard rfl rfl rfl rfl rfl rfl hst (does_load_ownL 0 rfl (by kernel_rfl) rfl rfl rfl) ?_
  refine stepK_guard rfl rfl rfl rfl rfl rfl hst (does_eql rfl rfl rfl) ?_
  refine stepK_d rfl rfl rfl hst (does_pick_true rfl rfl rfl) ?_
  refine zA rfl hst rfl ?_
  refine znt ?_
  refine cp_ret ?_
  refine ret1 rfl rfl hst ?_
  rw [one_iff hl2 hl3 s11]
  intro s11
  have hno : r ≠ 1 := fun e => s11 (by rw [hl2, e]; rfl)
  refine stepK_pass rfl rfl rfl rfl rfl rfl rfl ?_
  refine stepK_pass rfl rfl rfl rfl rfl rfl rfl ?_
  refine stepK_pass rfl rfl rfl rfl rfl rfl rfl ?_
  refine stepK_d rfl rfl rfl hst (does_pick_false rfl rfl rfl) ?_
  refine zA rfl hst rfl ?_
  refine znt ?_
  refine cp_ret ?_
  refine ret1 rfl rfl hst ?_
  rw [decide_eq_false hno]
  intro s6
  obtain ⟨_, _, bl, _, hb9⟩ := ha.big s6
  have hno : r ≠ 1 := fun e => hb9.1 (by rw [e]; exact ⟨by decide, by decide⟩)
  refine stepK_pass rfl rfl rfl rfl rfl rfl rfl ?_
  refine stepK_pass rfl rfl rfl rfl rfl rfl rfl ?_
  refine stepK_pass rfl rfl rfl rfl rfl rfl rfl ?_
  refine stepK_d rfl rfl rfl hst (does_pick_false rfl rfl rfl) ?_
  refine zM rfl hst rfl ?_
  refine stepK_pass rfl rfl rfl rfl rfl rfl rfl ?_
  refine stepK_pass rfl rfl rfl rfl rfl rfl rfl ?_
  refine stepK_pass rfl rfl rfl rfl rfl rfl rfl ?_
  refine stepK_d rfl rfl rfl hst (does_pick_false rfl rfl rfl) ?_
  refine zA rfl hst rfl ?_
  refine znt ?_
  refine cp_ret ?_
  refine ret1 rfl rfl hst ?_
  rw [decide_eq_false hno]

end Go.Proofs.YtcjhnkmoloiepaaDoor

namespace Go.Proofs.YtcjhnkmoloiepaaDoor
open Go Go.RowKit Go.Proofs.Vc
set_option linter.unusedVariables false
set_option linter.unusedSimpArgs false

set_option maxHeartbeats 1000000 in
theorem rec_fits {g : Mem} {w : World} (hag : Agree g w) {p q : Int} {a : Option Addr} {x m : Int} (ha : IsRat g p q a (x : Rat)) {bm : Nat} (hm : PtrRat g bm (m : Rat)) {k : Nat} (zx : Sz k (x : Rat)) (zm : Sz k (m : Rat)) (hk : k ≤ 100000000) :
    CallTo Tryd.prog 38 #[.agg #[.int .i64 p, .int .i64 q, .pointer a], .pointer (some ⟨bm, 0, none⟩)] w (Ret w g fun v g => v = .bool (decide (fitsZ m x))) := by
  refine CallTo.enter (vs := [.agg #[.int .i64 p, .int .i64 q, .pointer a], .pointer (some ⟨bm, 0, none⟩)]) zf93 (by kernel_rfl) rfl rfl rfl ?_
  have hst := St.init hag
  have fx := zx.fit (by omega)
  have fm := zm.fit (by omega)
  have s2 : Sz 1 ((2 : Int) : Rat) := ⟨by decide +kernel, by decide +kernel⟩
  refine zsr ?_
  refine stepK_box rfl rfl rfl rfl rfl rfl hst ?_
  clear hst
  intro b2 w1 hst
  refine zA rfl hst rfl ?_
  refine znq ?_
  obtain ⟨pm, qm, am, hcm, hmr⟩ := id hm
  refine cp_drawn (by kernel_rfl) 9 [(1, true), (3, true), (5, true), (0, false), (2, false), (4, false), (6, false), (7, true), (8, true)] _ rfl (by kernel_rfl) (by kernel_rfl) (by kernel_rfl) (fun _ _ _ _ _ h => h) _ (hst.drew) ?_
  have hst0 := hst.drew
  clear hst
  have hst := hst0
  refine stepD_d rfl rfl rfl rfl (does_load_ownN 0 rfl (by kernel_rfl) zf31 rfl rfl rfl) ?_
  refine stepD_d rfl rfl rfl rfl (does_load_ownN 0 rfl (by kernel_rfl) zf31 rfl rfl rfl) ?_
  refine stepD_d rfl rfl rfl rfl (does_load_gN rfl (by kernel_rfl) zf31 rfl rfl (fun j v hj => gcell_le (by first | assumption | exact Mem.le.refl _) (hcm j v hj))) ?_
  refine stepD_call rfl rfl rfl rfl rfl rfl hst (num_Int hst.agree (n := 2) (by decide) (by decide)) (fun _ _ h hle => St.older h hle (by simp) hst0.ext hst0.le) ?_
  clear hst
  intro v2 g2 w2 hst hle2 hcs2 hp2
  have hlesum := hle2
  replace ha := ha.mono hle2
  replace hm := hm.mono hle2
  replace hmr := hmr.mono hle2
  obtain ⟨p4, q4, a4, rfl, h4⟩ := hp2
  refine stepD_call rfl rfl rfl rfl rfl rfl hst (Rat_Mul hst.agree h4 ha (s2.fit (by decide)) fx) (fun _ _ h hle => St.older h (Mem.le.trans hlesum hle) (by simp) hst0.ext hst0.le) ?_
  clear hst
  intro v3 g3 w3 hst hle3 hcs3 hp3
  replace hlesum := Mem.le.trans hlesum hle3
  replace ha := ha.mono hle3
  replace hm := hm.mono hle3
  replace hmr := hmr.mono hle3
  replace h4 := h4.mono hle3
  obtain ⟨p6, q6, a6, rfl, h6⟩ := hp3
  refine stepD_call rfl rfl rfl rfl rfl rfl hst (Rat_Mul hst.agree h6 ha ((s2.mul zx).fit (by omega)) fx) (fun _ _ h hle => St.older h (Mem.le.trans hlesum hle) (by simp) hst0.ext hst0.le) ?_
  clear hst
  intro v4 g4 w4 hst hle4 hcs4 hp4
  replace hlesum := Mem.le.trans hlesum hle4
  replace ha := ha.mono hle4
  replace hm := hm.mono hle4
  replace hmr := hmr.mono hle4
  replace h4 := h4.mono hle4
  replace h6 := h6.mono hle4
  obtain ⟨p8, q8, a8, rfl, h8⟩ := hp4
  refine stepD_call rfl rfl rfl rfl rfl rfl hst (Rat_Cmp hst.agree h8 hmr (((s2.mul zx).mul zx).fit (by omega)) fm) (fun _ _ h hle => St.older h (Mem.le.trans hlesum hle) (by simp) hst0.ext hst0.le) ?_
  clear hst
  intro v5 g5 w5 hst hle5 hcs5 hp5
  replace hlesum := Mem.le.trans hlesum hle5
  replace ha := ha.mono hle5
  replace hm := hm.mono hle5
  replace hmr := hmr.mono hle5
  replace h4 := h4.mono hle5
  replace h6 := h6.mono hle5
  replace h8 := h8.mono hle5
  obtain rfl := hp5
  refine stepD_d rfl rfl rfl rfl (does_lss rfl rfl rfl) ?_
  refine stepD_d rfl rfl rfl rfl (does_assign rfl rfl) ?_
  refine stepD_tail ?_
  refine znt ?_
  refine cp_ret ?_
  refine ret1 rfl rfl hst ?_
  congr 1
  exact decide_eq_decide.2 fits_iff

end Go.Proofs.YtcjhnkmoloiepaaDoor

namespace Go.Proofs.YtcjhnkmoloiepaaDoor
open Go Go.RowKit Go.Proofs.Vc
set_option linter.unusedVariables false
set_option linter.unusedSimpArgs false

set_option maxHeartbeats 8000000 in
theorem mod_Reconstruct {g : Mem} {w : World} (hag : Agree g w) (hT : TabG Tryd.prog g) {a b : ByteArray} (ha : a.size ≤ 200) (hb : b.size ≤ 200) :
    CallTo Tryd.prog 19 #[.string a, .string b] w (Ret w g fun v g => ∃ s ok, v = .tuple #[.string s, .bool ok] ∧ RecPost a b s ok) := by
  refine CallTo.enter (vs := [.string a, .string b]) zf94 (by kernel_rfl) rfl rfl rfl ?_
  have hst := St.init hag
  have sx := (getR_sz a).mono (m := 201) (by omega)
  have fx := sx.fit (by decide)
  have sy := (getR_sz b).mono (m := 201) (by omega)
  have fy := sy.fit (by decide)
  have s2 : Sz 1 ((2 : Int) : Rat) := ⟨by decide +kernel, by decide +kernel⟩
  refine zsr ?_
  refine zA rfl hst rfl ?_
  refine zA rfl hst rfl ?_
  refine zn4 ?_
  refine zM rfl hst rfl ?_
  refine stepK_call rfl rfl rfl rfl rfl hst (num_Of hst.agree (by omega)) ?_
  clear hst
  intro v1 g1 w1 hst hle1 hcs1 hp1
  replace hT := hT.mono hle1
  obtain ⟨p6, q6, a6, rfl, h6⟩ := hp1
  refine zM rfl hst rfl ?_
  refine zE rfl hst rfl rfl ?_
  refine zE rfl hst rfl rfl ?_
  refine stepK_alloc rfl rfl rfl rfl zf29 rfl hst ?_
  clear hst
  intro b6 w2 hst
  refine stepK_store 0 rfl rfl rfl rfl rfl rfl zf31 rfl rfl hst rfl (by first | (simp [uN_length]; omega) | simp) ?_
  clear hst
  intro w3 hst
  simp only [zL, splice, Nat.reduceAdd] at hst
  refine zA rfl hst rfl ?_
  refine zn4 ?_
  refine zM rfl hst rfl ?_
  refine stepK_call rfl rfl rfl rfl rfl hst (num_Of hst.agree (by omega)) ?_
  clear hst
  intro v4 g4 w4 hst hle4 hcs4 hp4
  replace hT := hT.mono hle4
  replace h6 := h6.mono hle4
  obtain ⟨p8, q8, a8, rfl, h8⟩ := hp4
  refine zM rfl hst rfl ?_
  refine zE rfl hst rfl rfl ?_
  refine zE rfl hst rfl rfl ?_
  refine stepK_alloc rfl rfl rfl rfl zf29 rfl hst ?_
  clear hst
  intro b8 w5 hst
  refine stepK_store 1 rfl rfl rfl rfl rfl rfl zf31 rfl rfl hst rfl (by first | (simp [uN_length]; omega) | simp) ?_
  clear hst
  intro w6 hst
  simp only [zL, splice, Nat.reduceAdd] at hst
  refine zA rfl hst rfl ?_
  refine znq ?_
  refine cp_seq ?_
  refine cp_drawnE (by kernel_rfl) 22 [(0, true), (1, true), (2, true), (3, true), (4, true), (5, true), (6, true), (7, true), (8, false), (9, true), (10, true), (11, true), (12, true), (13, false), (14, true), (15, true), (16, true), (17, true), (18, false), (19, false), (20, true), (21, true)] _ rfl (by kernel_rfl) (by kernel_rfl) (by kernel_rfl) (fun _ _ _ _ _ h => h) _ (hst.drew) ?_
  have hst0 := hst.drew
  clear hst
  have hst := hst0
  refine stepE_d rfl rfl rfl rfl (does_move rfl rfl) ?_
  refine stepE_d rfl rfl rfl rfl (does_not rfl rfl) ?_
  refine stepE_d rfl rfl rfl rfl (does_move rfl rfl) ?_
  refine wpE_splitb (t := 31) rfl ?_ ?_
  intro s31
  have hno : ¬ RecIn a b := fun h => by rw [h.1] at s31; cases s31
  refine stepE_pass rfl rfl rfl rfl rfl rfl rfl rfl ?_
  refine stepE_pass rfl rfl rfl rfl rfl rfl rfl rfl ?_
  refine stepE_d rfl rfl rfl rfl (does_pick_true rfl rfl rfl) ?_
  refine stepE_d rfl rfl rfl rfl (does_move rfl rfl) ?_
  refine stepE_pass rfl rfl rfl rfl rfl rfl rfl rfl ?_
  refine stepE_skip rfl rfl rfl rfl rfl rfl rfl rfl ?_
  refine stepE_pass rfl rfl rfl rfl rfl rfl rfl rfl ?_
  refine stepE_d rfl rfl rfl rfl (does_pick_true rfl rfl rfl) ?_
  refine stepE_d rfl rfl rfl rfl (does_move rfl rfl) ?_
  refine stepE_pass rfl rfl rfl rfl rfl rfl rfl rfl ?_
  refine stepE_skip rfl rfl rfl rfl rfl rfl rfl rfl ?_
  refine stepE_pass rfl rfl rfl rfl rfl rfl rfl rfl ?_
  refine stepE_d rfl rfl rfl rfl (does_pick_true rfl rfl rfl) ?_
  refine stepE_d rfl rfl rfl rfl (does_move rfl rfl) ?_
  refine stepE_pass rfl rfl rfl rfl rfl rfl rfl rfl ?_
  refine stepE_skip rfl rfl rfl rfl rfl rfl rfl rfl ?_
  refine stepE_skip rfl rfl rfl rfl rfl rfl rfl rfl ?_
  refine stepE_pass rfl rfl rfl rfl rfl rfl rfl rfl ?_
  refine stepE_d rfl rfl rfl rfl (does_pick_true rfl rfl rfl) ?_
  refine stepE_tail ?_
  refine znt ?_
  refine cp_cond_true rfl ?_
  refine zsr ?_
  refine zA rfl hst rfl ?_
  refine zA rfl hst rfl ?_
  refine zn5 ?_
  refine ret2 rfl rfl rfl hst ?_
  first
  | exact ⟨_, _, rfl, rec_bad hno⟩
  | exact ⟨_, _, rfl, rec_none hin hok.no hfit hng⟩
  intro s31
  have hs1 : (readR a).isSome = true := by simpa using s31
  refine stepE_guard rfl rfl rfl rfl rfl rfl rfl (does_move rfl rfl) ?_
  refine stepE_guard rfl rfl rfl rfl rfl rfl rfl (does_not rfl rfl) ?_
  refine stepE_d rfl rfl rfl rfl (does_pick_false rfl rfl rfl) ?_
  refine stepE_d rfl rfl rfl rfl (does_move rfl rfl) ?_
  refine wpE_splitb (t := 35) rfl ?_ ?_
  intro s35
  have hno : ¬ RecIn a b := fun h => by rw [h.2.1] at s35; cases s35
  refine stepE_pass rfl rfl rfl rfl rfl rfl rfl rfl ?_
  refine stepE_skip rfl rfl rfl rfl rfl rfl rfl rfl ?_
  refine stepE_pass rfl rfl rfl rfl rfl rfl rfl rfl ?_
  refine stepE_d rfl rfl rfl rfl (does_pick_true rfl rfl rfl) ?_
  refine stepE_d rfl rfl rfl rfl (does_move rfl rfl) ?_
  refine stepE_pass rfl rfl rfl rfl rfl rfl rfl rfl ?_
  refine stepE_skip rfl rfl rfl rfl rfl rfl rfl rfl ?_
  refine stepE_pass rfl rfl rfl rfl rfl rfl rfl rfl ?_
  refine stepE_d rfl rfl rfl rfl (does_pick_true rfl rfl rfl) ?_
  refine stepE_d rfl rfl rfl rfl (does_move rfl rfl) ?_
  refine stepE_pass rfl rfl rfl rfl rfl rfl rfl rfl ?_
  refine stepE_skip rfl rfl rfl rfl rfl rfl rfl rfl ?_
  refine stepE_skip rfl rfl rfl rfl rfl rfl rfl rfl ?_
  refine stepE_pass rfl rfl rfl rfl rfl rfl rfl rfl ?_
  refine stepE_d rfl rfl rfl rfl (does_pick_true rfl rfl rfl) ?_
  refine stepE_tail ?_
  refine znt ?_
  refine cp_cond_true rfl ?_
  refine zsr ?_
  refine zA rfl hst rfl ?_
  refine zA rfl hst rfl ?_
  refine zn5 ?_
  refine ret2 rfl rfl rfl hst ?_
  first
  | exact ⟨_, _, rfl, rec_bad hno⟩
  | exact ⟨_, _, rfl, rec_none hin hok.no hfit hng⟩
  intro s35
  have hs2 : (readR b).isSome = true := by simpa using s35
  refine stepE_guard rfl rfl rfl rfl rfl rfl rfl (does_load_ownN 0 rfl (by kernel_rfl) zf31 rfl rfl rfl) ?_
  refine stepE_call_guard rfl rfl rfl rfl rfl rfl rfl rfl rfl hst (Rat_IsInt hst.agree h6 fx) (fun _ _ h hle => St.older h hle (by simp) hst0.ext hst0.le) ?_
  clear hst
  intro v7 g7 w7 hst hle7 hcs7 hp7
  have hlesum := hle7
  replace hT := hT.mono hle7
  replace h6 := h6.mono hle7
  replace h8 := h8.mono hle7
  obtain rfl := hp7
  refine stepE_guard rfl rfl rfl rfl rfl rfl rfl (does_not rfl rfl) ?_
  refine stepE_d rfl rfl rfl rfl (does_pick_false rfl rfl rfl) ?_
  refine stepE_d rfl rfl rfl rfl (does_move rfl rfl) ?_
  refine wpE_splitb (t := 40) rfl ?_ ?_
  intro s40
  have hno : ¬ RecIn a b := fun h => by rw [decide_eq_true h.2.2.1] at s40; cases s40
  refine stepE_pass rfl rfl rfl rfl rfl rfl rfl rfl ?_
  refine stepE_skip rfl rfl rfl rfl rfl rfl rfl rfl ?_
  refine stepE_pass rfl rfl rfl rfl rfl rfl rfl rfl ?_
  refine stepE_d rfl rfl rfl rfl (does_pick_true rfl rfl rfl) ?_
  refine stepE_d rfl rfl rfl rfl (does_move rfl rfl) ?_
  refine stepE_pass rfl rfl rfl rfl rfl rfl rfl rfl ?_
  refine stepE_skip rfl rfl rfl rfl rfl rfl rfl rfl ?_
  refine stepE_skip rfl rfl rfl rfl rfl rfl rfl rfl ?_
  refine stepE_pass rfl rfl rfl rfl rfl rfl rfl rfl ?_
  refine stepE_d rfl rfl rfl rfl (does_pick_true rfl rfl rfl) ?_
  refine stepE_tail ?_
  refine znt ?_
  refine cp_cond_true rfl ?_
  refine zsr ?_
  refine zA rfl hst rfl ?_
  refine zA rfl hst rfl ?_
  refine zn5 ?_
  refine ret2 rfl rfl rfl hst ?_
  first
  | exact ⟨_, _, rfl, rec_bad hno⟩
  | exact ⟨_, _, rfl, rec_none hin hok.no hfit hng⟩
  intro s40
  have hs3 : (getR a).den = 1 := of_decide_eq_true (by simpa using s40)
  refine stepE_guard rfl rfl rfl rfl rfl rfl rfl (does_load_ownN 1 rfl (by kernel_rfl) zf31 rfl rfl rfl) ?_
  refine stepE_call_guard rfl rfl rfl rfl rfl rfl rfl rfl rfl hst (Rat_IsInt hst.agree h8 fy) (fun _ _ h hle => St.older h (Mem.le.trans hlesum hle) (by simp) hst0.ext hst0.le) ?_
  clear hst
  intro v8 g8 w8 hst hle8 hcs8 hp8
  replace hlesum := Mem.le.trans hlesum hle8
  replace hT := hT.mono hle8
  replace h6 := h6.mono hle8
  replace h8 := h8.mono hle8
  obtain rfl := hp8
  refine stepE_guard rfl rfl rfl rfl rfl rfl rfl (does_not rfl rfl) ?_
  refine stepE_d rfl rfl rfl rfl (does_pick_false rfl rfl rfl) ?_
  refine stepE_d rfl rfl rfl rfl (does_move rfl rfl) ?_
  refine wpE_splitb (t := 45) rfl ?_ ?_
  intro s45
  have hno : ¬ RecIn a b := fun h => by rw [decide_eq_true h.2.2.2.1] at s45; cases s45
  refine stepE_pass rfl rfl rfl rfl rfl rfl rfl rfl ?_
  refine stepE_skip rfl rfl rfl rfl rfl rfl rfl rfl ?_
  refine stepE_skip rfl rfl rfl rfl rfl rfl rfl rfl ?_
  refine stepE_pass rfl rfl rfl rfl rfl rfl rfl rfl ?_
  refine stepE_d rfl rfl rfl rfl (does_pick_true rfl rfl rfl) ?_
  refine stepE_tail ?_
  refine znt ?_
  refine cp_cond_true rfl ?_
  refine zsr ?_
  refine zA rfl hst rfl ?_
  refine zA rfl hst rfl ?_
  refine zn5 ?_
  refine ret2 rfl rfl rfl hst ?_
  first
  | exact ⟨_, _, rfl, rec_bad hno⟩
  | exact ⟨_, _, rfl, rec_none hin hok.no hfit hng⟩
  intro s45
  have hs4 : (getR b).den = 1 := of_decide_eq_true (by simpa using s45)
  refine stepE_guard rfl rfl rfl rfl rfl rfl rfl (does_load_ownN 1 rfl (by kernel_rfl) zf31 rfl rfl rfl) ?_
  refine stepE_call_guard rfl rfl rfl rfl rfl rfl rfl rfl rfl hst (num_Int hst.agree (n := 2) (by decide) (by decide)) (fun _ _ h hle => St.older h (Mem.le.trans hlesum hle) (by simp) hst0.ext hst0.le) ?_
  clear hst
  intro v9 g9 w9 hst hle9 hcs9 hp9
  replace hlesum := Mem.le.trans hlesum hle9
  replace hT := hT.mono hle9
  replace h6 := h6.mono hle9
  replace h8 := h8.mono hle9
  obtain ⟨p47, q47, a47, rfl, h47⟩ := hp9
  refine stepE_call_guard rfl rfl rfl rfl rfl rfl rfl rfl rfl hst (Rat_Cmp hst.agree h8 h47 fy (s2.fit (by decide))) (fun _ _ h hle => St.older h (Mem.le.trans hlesum hle) (by simp) hst0.ext hst0.le) ?_
  clear hst
  intro v10 g10 w10 hst hle10 hcs10 hp10
  replace hlesum := Mem.le.trans hlesum hle10
  replace hT := hT.mono hle10
  replace h6 := h6.mono hle10
  replace h8 := h8.mono hle10
  replace h47 := h47.mono hle10
  obtain rfl := hp10
  refine stepE_guard rfl rfl rfl rfl rfl rfl rfl (does_lss rfl rfl rfl) ?_
  refine stepE_d rfl rfl rfl rfl (does_pick_false rfl rfl rfl) ?_
  refine stepE_tail ?_
  refine znt ?_
  refine cp_if rfl ?_ ?_
  intro c50
  have hno : ¬ RecIn a b := fun h => by
    have h9 := sgn_lt.1 c50
    rw [int_of_den hs4] at h9
    exact h9 (Rat.intCast_le_intCast.2 h.2.2.2.2)
  refine zsr ?_
  refine zA rfl hst rfl ?_
  refine zA rfl hst rfl ?_
  refine zn5 ?_
  refine ret2 rfl rfl rfl hst ?_
  first
  | exact ⟨_, _, rfl, rec_bad hno⟩
  | exact ⟨_, _, rfl, rec_none hin hok.no hfit hng⟩
  intro c50
  have hin : RecIn a b := ⟨hs1, hs2, hs3, hs4, by
    have h9 : ((2 : Int) : Rat) ≤ getR b := Decidable.byContradiction fun h => c50 (sgn_lt.2 h)
    rw [int_of_den hs4] at h9
    exact Rat.intCast_le_intCast.1 h9⟩
  have hm2 := hin.2.2.2.2
  rw [int_of_den hs3] at h6
  rw [int_of_den hs4] at h8
  have zv := sx.numI
  have zm := sy.numI
  obtain ⟨v, hve⟩ : ∃ v, v = (getR a).num := ⟨_, rfl⟩
  obtain ⟨m, hme⟩ : ∃ m, m = (getR b).num := ⟨_, rfl⟩
  rw [← hve] at h6 zv
  rw [← hme] at h8 zm hm2
  refine cp_skip ?_
  refine cp_then ?_
  refine cp_seq ?_
  obtain ⟨hst, hleP⟩ := hst.publish 1 rfl
  simp only [List.eraseIdx_cons_zero, List.eraseIdx_cons_succ] at hst
  replace hT := hT.mono hleP
  replace h6 := h6.mono hleP
  replace h8 := h8.mono hleP
  replace h47 := h47.mono hleP
  have hM := PtrRat.put h8
  refine cp_region ?_
  refine stepK_d rfl rfl rfl hst (does_makeFunc rfl rfl) ?_
  refine zA rfl hst rfl ?_
  refine znt ?_
  refine cp_join (ι := (Int × Int × Option Addr) × (Int × Int × Option Addr) × Nat × Nat) (fun ((p1, q1, a1), (p2, q2, a2), b11, b12) => [(6, .pointer (some ⟨b6, 0, none⟩)), (8, .pointer (some ⟨b8, 0, none⟩)), (10, .func (.func 38) #[] #[.pointer (some ⟨b8, 0, none⟩)]), (11, .pointer (some ⟨b11, 0, none⟩)), (12, .pointer (some ⟨b12, 0, none⟩))]) (fun ((p1, q1, a1), (p2, q2, a2), b11, b12) w2 => ∃ g2, St w [] g g2 [(b6, .cells #[.int .i64 p6, .int .i64 q6, .pointer a6] 46 (0, 0)), (b11, .cells #[.int .i64 p1, .int .i64 q1, .pointer a1] 46 (0, 0)), (b12, .cells #[.int .i64 p2, .int .i64 q2, .pointer a2] 46 (0, 0))] w2 ∧ TabG Tryd.prog g2 ∧ IsRat g2 p6 q6 a6 (v : Rat) ∧ PtrRat g2 b8 (m : Rat) ∧ IsRat g2 p1 q1 a1 (m : Rat) ∧ IsRat g2 p2 q2 a2 (((v % m : Int) : Rat))) ?c11 ?d11
  case c11 =>
    obtain ⟨pm, qm, am, hcm, hmm⟩ := id hM
    refine cp_drawnT (by kernel_rfl) 6 (.d 0 (.d 1 (.d 2 (.e 3 (.e 4 (.e 5 .fin .no) (.e 5 (.e 4 .fin .no) .no)) (.e 4 (.e 3 (.e 5 .fin .no) (.e 5 (.e 3 .fin .no) .no)) (.e 5 (.e 3 (.e 4 .fin .no) (.e 4 (.e 3 .fin .no) .no)) .no)))))) _ rfl (by kernel_rfl) (by kernel_rfl) (by kernel_rfl) (fun _ _ _ _ _ h => h) _ hst.drew ?_
    have hst0 := hst.drew
    have hst9 := hst.drew
    clear hst
    have hst := hst9
    clear hst9
    refine stepT_d rfl rfl rfl rfl (does_load_gN rfl (by kernel_rfl) zf31 rfl rfl (fun j v hj => gcell_le (by first | assumption | exact Mem.le.refl _) (hcm j v hj))) ?_
    refine stepT_d rfl rfl rfl rfl (does_load_ownN 0 rfl (by kernel_rfl) zf31 rfl rfl rfl) ?_
    refine stepT_d rfl rfl rfl rfl (does_load_gN rfl (by kernel_rfl) zf31 rfl rfl (fun j v hj => gcell_le (by first | assumption | exact Mem.le.refl _) (hcm j v hj))) ?_
    refine stepT_call rfl rfl rfl rfl rfl rfl hst0 hst (Mem.le.refl _) (by repeat (first | exact zR _ | apply zC | apply zD)) (Rat_Mod hst.agree h6 hmm (by omega) (k := 201) zv zm (by decide)) ?_ ?_
    clear hst
    intro v12 g12 w12 hst hle12 hcs12 hp12
    have hlesum := hle12
    replace hT := hT.mono hle12
    replace h6 := h6.mono hle12
    replace h8 := h8.mono hle12
    replace h47 := h47.mono hle12
    replace hM := hM.mono hle12
    replace hmm := hmm.mono hle12
    obtain ⟨p2, q2, a2, rfl, h2⟩ := hp12
    refine stepT_alloc rfl rfl rfl rfl rfl zf29 rfl hst0 hst hlesum (by repeat (first | exact zR _ | apply zC | apply zD)) ?_ ?_
    clear hst
    intro b11 w13 hst
    refine stepT_alloc rfl rfl rfl rfl rfl zf29 rfl hst0 hst hlesum (by repeat (first | exact zR _ | apply zC | apply zD)) ?_ ?_
    clear hst
    intro b12 w14 hst
    refine stepT_tail ?_
    refine stepK_store 1 rfl rfl rfl rfl rfl rfl zf31 rfl rfl hst rfl (by first | (simp [uN_length]; omega) | simp) ?_
    clear hst
    intro w15 hst
    simp only [zL, splice, Nat.reduceAdd] at hst
    refine stepK_store 2 rfl rfl rfl rfl rfl rfl zf31 rfl rfl hst rfl (by first | (simp [uN_length]; omega) | simp) ?_
    clear hst
    intro w16 hst
    simp only [zL, splice, Nat.reduceAdd] at hst
    refine wpK_nil ?_
    refine join_end (((pm, qm, am), (p2, q2, a2), b11, b12)) ?_ ?_
    exact ⟨rfl, rfl, rfl, rfl, rfl, trivial⟩
    exact ⟨_, (by first | exact hst | exact hst.perm (List.Perm.cons _ (List.Perm.swap ..))), hT, h6, hM, hmm, h2⟩
    exact stepT_no
    refine stepT_alloc rfl rfl rfl rfl rfl zf29 rfl hst0 hst hlesum (by repeat (first | exact zR _ | apply zC | apply zD)) ?_ ?_
    clear hst
    intro b12 w17 hst
    refine stepT_alloc rfl rfl rfl rfl rfl zf29 rfl hst0 hst hlesum (by repeat (first | exact zR _ | apply zC | apply zD)) ?_ ?_
    clear hst
    intro b11 w18 hst
    refine stepT_tail ?_
    refine stepK_store 2 rfl rfl rfl rfl rfl rfl zf31 rfl rfl hst rfl (by first | (simp [uN_length]; omega) | simp) ?_
    clear hst
    intro w19 hst
    simp only [zL, splice, Nat.reduceAdd] at hst
    refine stepK_store 1 rfl rfl rfl rfl rfl rfl zf31 rfl rfl hst rfl (by first | (simp [uN_length]; omega) | simp) ?_
    clear hst
    intro w20 hst
    simp only [zL, splice, Nat.reduceAdd] at hst
    refine wpK_nil ?_
    refine join_end (((pm, qm, am), (p2, q2, a2), b11, b12)) ?_ ?_
    exact ⟨rfl, rfl, rfl, rfl, rfl, trivial⟩
    exact ⟨_, (by first | exact hst | exact hst.perm (List.Perm.cons _ (List.Perm.swap ..))), hT, h6, hM, hmm, h2⟩
    exact stepT_no
    exact stepT_no
    refine stepT_alloc rfl rfl rfl rfl rfl zf29 rfl hst0 hst (Mem.le.refl _) (by repeat (first | exact zR _ | apply zC | apply zD)) ?_ ?_
    clear hst
    intro b11 w21 hst
    refine stepT_call rfl rfl rfl rfl rfl rfl hst0 hst (Mem.le.refl _) (by repeat (first | exact zR _ | apply zC | apply zD)) (Rat_Mod hst.agree h6 hmm (by omega) (k := 201) zv zm (by decide)) ?_ ?_
    clear hst
    intro v22 g22 w22 hst hle22 hcs22 hp22
    have hlesum := hle22
    replace hT := hT.mono hle22
    replace h6 := h6.mono hle22
    replace h8 := h8.mono hle22
    replace h47 := h47.mono hle22
    replace hM := hM.mono hle22
    replace hmm := hmm.mono hle22
    obtain ⟨p2, q2, a2, rfl, h2⟩ := hp22
    refine stepT_alloc rfl rfl rfl rfl rfl zf29 rfl hst0 hst hlesum (by repeat (first | exact zR _ | apply zC | apply zD)) ?_ ?_
    clear hst
    intro b12 w23 hst
    refine stepT_tail ?_
    refine stepK_store 1 rfl rfl rfl rfl rfl rfl zf31 rfl rfl hst rfl (by first | (simp [uN_length]; omega) | simp) ?_
    clear hst
    intro w24 hst
    simp only [zL, splice, Nat.reduceAdd] at hst
    refine stepK_store 2 rfl rfl rfl rfl rfl rfl zf31 rfl rfl hst rfl (by first | (simp [uN_length]; omega) | simp) ?_
    clear hst
    intro w25 hst
    simp only [zL, splice, Nat.reduceAdd] at hst
    refine wpK_nil ?_
    refine join_end (((pm, qm, am), (p2, q2, a2), b11, b12)) ?_ ?_
    exact ⟨rfl, rfl, rfl, rfl, rfl, trivial⟩
    exact ⟨_, (by first | exact hst | exact hst.perm (List.Perm.cons _ (List.Perm.swap ..))), hT, h6, hM, hmm, h2⟩
    exact stepT_no
    refine stepT_alloc rfl rfl rfl rfl rfl zf29 rfl hst0 hst (Mem.le.refl _) (by repeat (first | exact zR _ | apply zC | apply zD)) ?_ ?_
    clear hst
    intro b12 w26 hst
    refine stepT_call rfl rfl rfl rfl rfl rfl hst0 hst (Mem.le.refl _) (by repeat (first | exact zR _ | apply zC | apply zD)) (Rat_Mod hst.agree h6 hmm (by omega) (k := 201) zv zm (by decide)) ?_ ?_
    clear hst
    intro v27 g27 w27 hst hle27 hcs27 hp27
    have hlesum := hle27
    replace hT := hT.mono hle27
    replace h6 := h6.mono hle27
    replace h8 := h8.mono hle27
    replace h47 := h47.mono hle27
    replace hM := hM.mono hle27
    replace hmm := hmm.mono hle27
    obtain ⟨p2, q2, a2, rfl, h2⟩ := hp27
    refine stepT_tail ?_
    refine stepK_store 1 rfl rfl rfl rfl rfl rfl zf31 rfl rfl hst rfl (by first | (simp [uN_length]; omega) | simp) ?_
    clear hst
    intro w28 hst
    simp only [zL, splice, Nat.reduceAdd] at hst
    refine stepK_store 2 rfl rfl rfl rfl rfl rfl zf31 rfl rfl hst rfl (by first | (simp [uN_length]; omega) | simp) ?_
    clear hst
    intro w29 hst
    simp only [zL, splice, Nat.reduceAdd] at hst
    refine wpK_nil ?_
    refine join_end (((pm, qm, am), (p2, q2, a2), b11, b12)) ?_ ?_
    exact ⟨rfl, rfl, rfl, rfl, rfl, trivial⟩
    exact ⟨_, (by first | exact hst | exact hst.perm (List.Perm.cons _ (List.Perm.swap ..))), hT, h6, hM, hmm, h2⟩
    exact stepT_no
    exact stepT_no
    refine stepT_alloc rfl rfl rfl rfl rfl zf29 rfl hst0 hst (Mem.le.refl _) (by repeat (first | exact zR _ | apply zC | apply zD)) ?_ ?_
    clear hst
    intro b12 w30 hst
    refine stepT_call rfl rfl rfl rfl rfl rfl hst0 hst (Mem.le.refl _) (by repeat (first | exact zR _ | apply zC | apply zD)) (Rat_Mod hst.agree h6 hmm (by omega) (k := 201) zv zm (by decide)) ?_ ?_
    clear hst
    intro v31 g31 w31 hst hle31 hcs31 hp31
    have hlesum := hle31
    replace hT := hT.mono hle31
    replace h6 := h6.mono hle31
    replace h8 := h8.mono hle31
    replace h47 := h47.mono hle31
    replace hM := hM.mono hle31
    replace hmm := hmm.mono hle31
    obtain ⟨p2, q2, a2, rfl, h2⟩ := hp31
    refine stepT_alloc rfl rfl rfl rfl rfl zf29 rfl hst0 hst hlesum (by repeat (first | exact zR _ | apply zC | apply zD)) ?_ ?_
    clear hst
    intro b11 w32 hst
    refine stepT_tail ?_
    refine stepK_store 2 rfl rfl rfl rfl rfl rfl zf31 rfl rfl hst rfl (by first | (simp [uN_length]; omega) | simp) ?_
    clear hst
    intro w33 hst
    simp only [zL, splice, Nat.reduceAdd] at hst
    refine stepK_store 1 rfl rfl rfl rfl rfl rfl zf31 rfl rfl hst rfl (by first | (simp [uN_length]; omega) | simp) ?_
    clear hst
    intro w34 hst
    simp only [zL, splice, Nat.reduceAdd] at hst
    refine wpK_nil ?_
    refine join_end (((pm, qm, am), (p2, q2, a2), b11, b12)) ?_ ?_
    exact ⟨rfl, rfl, rfl, rfl, rfl, trivial⟩
    exact ⟨_, (by first | exact hst | exact hst.perm (List.Perm.cons _ (List.Perm.swap ..))), hT, h6, hM, hmm, h2⟩
    exact stepT_no
    refine stepT_alloc rfl rfl rfl rfl rfl zf29 rfl hst0 hst (Mem.le.refl _) (by repeat (first | exact zR _ | apply zC | apply zD)) ?_ ?_
    clear hst
    intro b11 w35 hst
    refine stepT_call rfl rfl rfl rfl rfl rfl hst0 hst (Mem.le.refl _) (by repeat (first | exact zR _ | apply zC | apply zD)) (Rat_Mod hst.agree h6 hmm (by omega) (k := 201) zv zm (by decide)) ?_ ?_
    clear hst
    intro v36 g36 w36 hst hle36 hcs36 hp36
    have hlesum := hle36
    replace hT := hT.mono hle36
    replace h6 := h6.mono hle36
    replace h8 := h8.mono hle36
    replace h47 := h47.mono hle36
    replace hM := hM.mono hle36
    replace hmm := hmm.mono hle36
    obtain ⟨p2, q2, a2, rfl, h2⟩ := hp36
    refine stepT_tail ?_
    refine stepK_store 2 rfl rfl rfl rfl rfl rfl zf31 rfl rfl hst rfl (by first | (simp [uN_length]; omega) | simp) ?_
    clear hst
    intro w37 hst
    simp only [zL, splice, Nat.reduceAdd] at hst
    refine stepK_store 1 rfl rfl rfl rfl rfl rfl zf31 rfl rfl hst rfl (by first | (simp [uN_length]; omega) | simp) ?_
    clear hst
    intro w38 hst
    simp only [zL, splice, Nat.reduceAdd] at hst
    refine wpK_nil ?_
    refine join_end (((pm, qm, am), (p2, q2, a2), b11, b12)) ?_ ?_
    exact ⟨rfl, rfl, rfl, rfl, rfl, trivial⟩
    exact ⟨_, (by first | exact hst | exact hst.perm (List.Perm.cons _ (List.Perm.swap ..))), hT, h6, hM, hmm, h2⟩
    exact stepT_no
    exact stepT_no
    exact stepT_no
  case d11 =>
    clear hst
    clear hT h6 hM h8
    rintro ⟨⟨p1, q1, a1⟩, ⟨p2, q2, a2⟩, b11, b12⟩ w2 ⟨g2, hst, hT, h6, hM, h1, h2⟩
    simp only
    refine zsr ?_
    refine stepK_call rfl rfl rfl rfl rfl hst (num_Int hst.agree (n := 0) (by decide) (by decide)) ?_
    clear hst
    intro v39 g39 w39 hst hle39 hcs39 hp39
    replace hT := hT.mono hle39
    replace h6 := h6.mono hle39
    replace hM := hM.mono hle39
    replace h1 := h1.mono hle39
    replace h2 := h2.mono hle39
    obtain ⟨p3, q3, a3, rfl, h3⟩ := hp39
    refine stepK_call rfl rfl rfl rfl rfl hst (num_Int hst.agree (n := 1) (by decide) (by decide)) ?_
    clear hst
    intro v40 g40 w40 hst hle40 hcs40 hp40
    replace hT := hT.mono hle40
    replace h6 := h6.mono hle40
    replace hM := hM.mono hle40
    replace h1 := h1.mono hle40
    replace h2 := h2.mono hle40
    replace h3 := h3.mono hle40
    obtain ⟨p4, q4, a4, rfl, h4⟩ := hp40
    refine stepK_alloc rfl rfl rfl rfl zf29 rfl hst ?_
    clear hst
    intro b13 w41 hst
    refine stepK_alloc rfl rfl rfl rfl zf29 rfl hst ?_
    clear hst
    intro b14 w42 hst
    refine stepK_store 3 rfl rfl rfl rfl rfl rfl zf31 rfl rfl hst rfl (by first | (simp [uN_length]; omega) | simp) ?_
    clear hst
    intro w43 hst
    simp only [zL, splice, Nat.reduceAdd] at hst
    refine stepK_store 4 rfl rfl rfl rfl rfl rfl zf31 rfl rfl hst rfl (by first | (simp [uN_length]; omega) | simp) ?_
    clear hst
    intro w44 hst
    simp only [zL, splice, Nat.reduceAdd] at hst
    refine znq ?_
    refine cp_block ?_
    refine cp_loop (ι := Nat × (Int × Int × Option Addr) × (Int × Int × Option Addr) × (Int × Int × Option Addr) × (Int × Int × Option Addr)) (fun (i, (p1, q1, a1), (p2, q2, a2), (p3, q3, a3), (p4, q4, a4)) => [(6, .pointer (some ⟨b6, 0, none⟩)), (8, .pointer (some ⟨b8, 0, none⟩)), (10, .func (.func 38) #[] #[.pointer (some ⟨b8, 0, none⟩)]), (11, .pointer (some ⟨b11, 0, none⟩)), (12, .pointer (some ⟨b12, 0, none⟩)), (13, .pointer (some ⟨b13, 0, none⟩)), (14, .pointer (some ⟨b14, 0, none⟩))]) (fun (i, (p1, q1, a1), (p2, q2, a2), (p3, q3, a3), (p4, q4, a4)) w1 => ∃ g1, St w [] g g1 [(b6, .cells #[.int .i64 p6, .int .i64 q6, .pointer a6] 46 (0, 0)), (b11, .cells #[.int .i64 p1, .int .i64 q1, .pointer a1] 46 (0, 0)), (b12, .cells #[.int .i64 p2, .int .i64 q2, .pointer a2] 46 (0, 0)), (b13, .cells #[.int .i64 p3, .int .i64 q3, .pointer a3] 46 (0, 0)), (b14, .cells #[.int .i64 p4, .int .i64 q4, .pointer a4] 46 (0, 0))] w1 ∧ TabG Tryd.prog g1 ∧ IsRat g1 p6 q6 a6 (v : Rat) ∧ PtrRat g1 b8 (m : Rat) ∧ IsRat g1 p1 q1 a1 ((rcIt m v i).a : Rat) ∧ IsRat g1 p2 q2 a2 ((rcIt m v i).b : Rat) ∧ IsRat g1 p3 q3 a3 ((rcIt m v i).s : Rat) ∧ IsRat g1 p4 q4 a4 ((rcIt m v i).t : Rat) ∧ RcOk m v i) (fun (i, (p1, q1, a1), (p2, q2, a2), (p3, q3, a3), (p4, q4, a4)) => (rcIt m v i).b.toNat) (0, (p1, q1, a1), (p2, q2, a2), (p3, q3, a3), (p4, q4, a4)) ?k45 ?i45 ?r45
    case k45 => exact ⟨rfl, rfl, rfl, rfl, rfl, rfl, rfl, trivial⟩
    case i45 =>
      exact ⟨_, hst, hT, h6, hM, h1, h2, h3, h4, RcOk.start hm2⟩
    case r45 =>
      clear hst
      clear hT h6 hM h1 h2 h3 h4
      rintro ⟨i, ⟨p1, q1, a1⟩, ⟨p2, q2, a2⟩, ⟨p3, q3, a3⟩, ⟨p4, q4, a4⟩⟩ w1 ⟨g1, hst, hT, h6, hM, h1, h2, h3, h4, hok⟩
      obtain ⟨za, zb, zs, zt⟩ := hok.szs hm2 zm
      refine cp_seq ?_
      refine zsr ?_
      refine zM rfl hst rfl ?_
      refine stepK_d rfl rfl rfl hst (does_load_ownN 2 rfl (by kernel_rfl) zf31 rfl rfl rfl) ?_
      refine stepK_callC rfl rfl rfl rfl rfl rfl hst (rec_fits hst.agree h2 hM zb zm (by decide)) ?_
      clear hst
      intro v46 g46 w46 hst hle46 hcs46 hp46
      replace hT := hT.mono hle46
      replace h6 := h6.mono hle46
      replace hM := hM.mono hle46
      replace h1 := h1.mono hle46
      replace h2 := h2.mono hle46
      replace h3 := h3.mono hle46
      replace h4 := h4.mono hle46
      obtain rfl := hp46
      refine stepK_d rfl rfl rfl hst (does_not rfl rfl) ?_
      refine znt ?_
      refine cp_cond rfl ?_ ?_
      intro c61
      have hnf : ¬ fitsZ m (rcIt m v i).b := of_decide_eq_false (by simpa using c61)
      have hbp := hok.pos hm2 hnf
      obtain ⟨hok2, hlt⟩ := hok.step hm2 hnf
      refine cp_skip ?_
      refine cp_then ?_
      refine cp_block ?_
      refine zsr ?_
      refine stepK_d rfl rfl rfl hst (does_load_ownN 1 rfl (by kernel_rfl) zf31 rfl rfl rfl) ?_
      refine stepK_d rfl rfl rfl hst (does_load_ownN 2 rfl (by kernel_rfl) zf31 rfl rfl rfl) ?_
      refine stepK_call rfl rfl rfl rfl rfl hst (Rat_Quo hst.agree h1 h2 (za.fit (by decide)) (zb.fit (by decide))) ?_
      clear hst
      intro v47 g47 w47 hst hle47 hcs47 hp47
      replace hT := hT.mono hle47
      replace h6 := h6.mono hle47
      replace hM := hM.mono hle47
      replace h1 := h1.mono hle47
      replace h2 := h2.mono hle47
      replace h3 := h3.mono hle47
      replace h4 := h4.mono hle47
      obtain ⟨p64, q64, a64, rfl, h64⟩ := hp47
      refine stepK_call rfl rfl rfl rfl rfl hst (Rat_Floor hst.agree h64 ((za.div zb).fit (by decide))) ?_
      clear hst
      intro v48 g48 w48 hst hle48 hcs48 hp48
      replace hT := hT.mono hle48
      replace h6 := h6.mono hle48
      replace hM := hM.mono hle48
      replace h1 := h1.mono hle48
      replace h2 := h2.mono hle48
      replace h3 := h3.mono hle48
      replace h4 := h4.mono hle48
      replace h64 := h64.mono hle48
      obtain ⟨p65, q65, a65, rfl, h65⟩ := hp48
      refine stepK_alloc rfl rfl rfl rfl zf29 rfl hst ?_
      clear hst
      intro b15 w49 hst
      refine stepK_store 5 rfl rfl rfl rfl rfl rfl zf31 rfl rfl hst rfl (by first | (simp [uN_length]; omega) | simp) ?_
      clear hst
      intro w50 hst
      simp only [zL, splice, Nat.reduceAdd] at hst
      refine znq ?_
      have zq := floor_sz (za.div zb)
      refine cp_drawn (by kernel_rfl) 6 [(0, true), (1, true), (2, true), (3, true), (4, false), (5, false)] _ rfl (by kernel_rfl) (by kernel_rfl) (by kernel_rfl) (fun _ _ _ _ _ h => h) _ (hst.drew) ?_
      have hst0 := hst.drew
      clear hst
      have hst := hst0
      refine stepD_d rfl rfl rfl rfl (does_load_ownN 2 rfl (by kernel_rfl) zf31 rfl rfl rfl) ?_
      refine stepD_d rfl rfl rfl rfl (does_load_ownN 1 rfl (by kernel_rfl) zf31 rfl rfl rfl) ?_
      refine stepD_d rfl rfl rfl rfl (does_load_ownN 5 rfl (by kernel_rfl) zf31 rfl rfl rfl) ?_
      refine stepD_d rfl rfl rfl rfl (does_load_ownN 2 rfl (by kernel_rfl) zf31 rfl rfl rfl) ?_
      refine stepD_call rfl rfl rfl rfl rfl rfl hst (Rat_Mul hst.agree h65 h2 (zq.fit (by decide)) (zb.fit (by decide))) (fun _ _ h hle => St.older h hle (by simp) hst0.ext hst0.le) ?_
      clear hst
      intro v51 g51 w51 hst hle51 hcs51 hp51
      have hlesum := hle51
      replace hT := hT.mono hle51
      replace h6 := h6.mono hle51
      replace hM := hM.mono hle51
      replace h1 := h1.mono hle51
      replace h2 := h2.mono hle51
      replace h3 := h3.mono hle51
      replace h4 := h4.mono hle51
      replace h64 := h64.mono hle51
      replace h65 := h65.mono hle51
      obtain ⟨p70, q70, a70, rfl, h70⟩ := hp51
      refine stepD_call rfl rfl rfl rfl rfl rfl hst (Rat_Sub hst.agree h1 h70 (za.fit (by decide)) ((zq.mul zb).fit (by decide))) (fun _ _ h hle => St.older h (Mem.le.trans hlesum hle) (by simp) hst0.ext hst0.le) ?_
      clear hst
      intro v52 g52 w52 hst hle52 hcs52 hp52
      replace hlesum := Mem.le.trans hlesum hle52
      replace hT := hT.mono hle52
      replace h6 := h6.mono hle52
      replace hM := hM.mono hle52
      replace h1 := h1.mono hle52
      replace h2 := h2.mono hle52
      replace h3 := h3.mono hle52
      replace h4 := h4.mono hle52
      replace h64 := h64.mono hle52
      replace h65 := h65.mono hle52
      replace h70 := h70.mono hle52
      obtain ⟨p71, q71, a71, rfl, h71⟩ := hp52
      refine stepD_tail ?_
      refine stepK_store 1 rfl rfl rfl rfl rfl rfl zf31 rfl rfl hst rfl (by first | (simp [uN_length]; omega) | simp) ?_
      clear hst
      intro w53 hst
      simp only [zL, splice, Nat.reduceAdd] at hst
      refine stepK_store 2 rfl rfl rfl rfl rfl rfl zf31 rfl rfl hst rfl (by first | (simp [uN_length]; omega) | simp) ?_
      clear hst
      intro w54 hst
      simp only [zL, splice, Nat.reduceAdd] at hst
      refine znt ?_
      refine cp_drawn (by kernel_rfl) 6 [(0, true), (1, true), (2, true), (3, true), (4, false), (5, false)] _ rfl (by kernel_rfl) (by kernel_rfl) (by kernel_rfl) (fun _ _ _ _ _ h => h) _ (hst.drew) ?_
      have hst0 := hst.drew
      clear hst
      have hst := hst0
      refine stepD_d rfl rfl rfl rfl (does_load_ownN 4 rfl (by kernel_rfl) zf31 rfl rfl rfl) ?_
      refine stepD_d rfl rfl rfl rfl (does_load_ownN 3 rfl (by kernel_rfl) zf31 rfl rfl rfl) ?_
      refine stepD_d rfl rfl rfl rfl (does_load_ownN 5 rfl (by kernel_rfl) zf31 rfl rfl rfl) ?_
      refine stepD_d rfl rfl rfl rfl (does_load_ownN 4 rfl (by kernel_rfl) zf31 rfl rfl rfl) ?_
      refine stepD_call rfl rfl rfl rfl rfl rfl hst (Rat_Mul hst.agree h65 h4 (zq.fit (by decide)) (zt.fit (by decide))) (fun _ _ h hle => St.older h hle (by simp) hst0.ext hst0.le) ?_
      clear hst
      intro v55 g55 w55 hst hle55 hcs55 hp55
      have hlesum := hle55
      replace hT := hT.mono hle55
      replace h6 := h6.mono hle55
      replace hM := hM.mono hle55
      replace h1 := h1.mono hle55
      replace h2 := h2.mono hle55
      replace h3 := h3.mono hle55
      replace h4 := h4.mono hle55
      replace h64 := h64.mono hle55
      replace h65 := h65.mono hle55
      replace h70 := h70.mono hle55
      replace h71 := h71.mono hle55
      obtain ⟨p76, q76, a76, rfl, h76⟩ := hp55
      refine stepD_call rfl rfl rfl rfl rfl rfl hst (Rat_Sub hst.agree h3 h76 (zs.fit (by decide)) ((zq.mul zt).fit (by decide))) (fun _ _ h hle => St.older h (Mem.le.trans hlesum hle) (by simp) hst0.ext hst0.le) ?_
      clear hst
      intro v56 g56 w56 hst hle56 hcs56 hp56
      replace hlesum := Mem.le.trans hlesum hle56
      replace hT := hT.mono hle56
      replace h6 := h6.mono hle56
      replace hM := hM.mono hle56
      replace h1 := h1.mono hle56
      replace h2 := h2.mono hle56
      replace h3 := h3.mono hle56
      replace h4 := h4.mono hle56
      replace h64 := h64.mono hle56
      replace h65 := h65.mono hle56
      replace h70 := h70.mono hle56
      replace h71 := h71.mono hle56
      replace h76 := h76.mono hle56
      obtain ⟨p77, q77, a77, rfl, h77⟩ := hp56
      refine stepD_tail ?_
      refine stepK_store 3 rfl rfl rfl rfl rfl rfl zf31 rfl rfl hst rfl (by first | (simp [uN_length]; omega) | simp) ?_
      clear hst
      intro w57 hst
      simp only [zL, splice, Nat.reduceAdd] at hst
      refine stepK_store 4 rfl rfl rfl rfl rfl rfl zf31 rfl rfl hst rfl (by first | (simp [uN_length]; omega) | simp) ?_
      clear hst
      intro w58 hst
      simp only [zL, splice, Nat.reduceAdd] at hst
      refine wpK_nil ?_
      refine at_block_normal ?_
      refine round_end ((i + 1, (p2, q2, a2), (p71, q71, a71), (p4, q4, a4), (p77, q77, a77))) ?_ ?_ ?_
      exact ⟨rfl, rfl, rfl, rfl, rfl, rfl, rfl, trivial⟩
      exact ⟨_, hst.weaken _ (by simp), hT, h6, hM, h2, h71.to (rc_castb _ (by omega) hbp), h4, h77.to (rc_castt _ hbp), hok2⟩
      show (rcIt m v (i + 1)).b.toNat < (rcIt m v i).b.toNat
      omega
      intro c61
      have hfit : fitsZ m (rcIt m v i).b := of_decide_eq_true (by simpa using c61)
      refine cp_exit ?_
      refine at_then_exit ?_
      refine at_then_exit ?_
      refine cp_exit_here ?_
      refine cp_then ?_
      refine cp_seq ?_
      refine zsr ?_
      refine stepK_d rfl rfl rfl hst (does_load_ownN 4 rfl (by kernel_rfl) zf31 rfl rfl rfl) ?_
      refine stepK_call rfl rfl rfl rfl rfl hst (Rat_Zero hst.agree h4) ?_
      clear hst
      intro v59 g59 w59 hst hle59 hcs59 hp59
      replace hT := hT.mono hle59
      replace h6 := h6.mono hle59
      replace hM := hM.mono hle59
      replace h1 := h1.mono hle59
      replace h2 := h2.mono hle59
      replace h3 := h3.mono hle59
      replace h4 := h4.mono hle59
      obtain rfl := hp59
      refine znt ?_
      refine cp_if rfl ?_ ?_
      intro c79
      have hng : ¬ (rcIt m v i).Good m := fun h => by
        have h9 := (Rc.good_iff hm2 hok.inv hfit).2 h
        exact h9.1 (Rat.intCast_inj.1 c79)
      subst hve hme
      refine zsr ?_
      refine zA rfl hst rfl ?_
      refine zA rfl hst rfl ?_
      refine zn5 ?_
      refine ret2 rfl rfl rfl hst ?_
      first
      | exact ⟨_, _, rfl, rec_bad hno⟩
      | exact ⟨_, _, rfl, rec_none hin hok.no hfit hng⟩
      intro c79
      have ht0 : (rcIt m v i).t ≠ 0 := fun e => c79 (by rw [e]; rfl)
      refine zk4 ?_
      refine stepK_d rfl rfl rfl hst (does_load_ownN 2 rfl (by kernel_rfl) zf31 rfl rfl rfl) ?_
      refine stepK_d rfl rfl rfl hst (does_load_ownN 4 rfl (by kernel_rfl) zf31 rfl rfl rfl) ?_
      refine stepK_call rfl rfl rfl rfl rfl hst (Rat_Quo hst.agree h2 h4 (zb.fit (by decide)) (zt.fit (by decide))) ?_
      clear hst
      intro v60 g60 w60 hst hle60 hcs60 hp60
      replace hT := hT.mono hle60
      replace h6 := h6.mono hle60
      replace hM := hM.mono hle60
      replace h1 := h1.mono hle60
      replace h2 := h2.mono hle60
      replace h3 := h3.mono hle60
      replace h4 := h4.mono hle60
      obtain ⟨p82, q82, a82, rfl, h82⟩ := hp60
      refine stepK_alloc rfl rfl rfl rfl zf29 rfl hst ?_
      clear hst
      intro b16 w61 hst
      refine stepK_store 5 rfl rfl rfl rfl rfl rfl zf31 rfl rfl hst rfl (by first | (simp [uN_length]; omega) | simp) ?_
      clear hst
      intro w62 hst
      simp only [zL, splice, Nat.reduceAdd] at hst
      refine znt ?_
      refine cp_join (ι := (Int × Int × Option Addr) × (Int × Int × Option Addr) × Nat × Nat) (fun ((pn, qn, an), (pd, qd, ad), b17, b18) => [(6, .pointer (some ⟨b6, 0, none⟩)), (8, .pointer (some ⟨b8, 0, none⟩)), (10, .func (.func 38) #[] #[.pointer (some ⟨b8, 0, none⟩)]), (16, .pointer (some ⟨b16, 0, none⟩)), (17, .pointer (some ⟨b17, 0, none⟩)), (18, .pointer (some ⟨b18, 0, none⟩))]) (fun ((pn, qn, an), (pd, qd, ad), b17, b18) w2 => ∃ g2, St w [] g g2 [(b6, .cells #[.int .i64 p6, .int .i64 q6, .pointer a6] 46 (0, 0)), (b16, .cells #[.int .i64 p82, .int .i64 q82, .pointer a82] 46 (0, 0)), (b17, .cells #[.int .i64 pn, .int .i64 qn, .pointer an] 46 (0, 0)), (b18, .cells #[.int .i64 pd, .int .i64 qd, .pointer ad] 46 (0, 0))] w2 ∧ TabG Tryd.prog g2 ∧ IsRat g2 p6 q6 a6 (v : Rat) ∧ PtrRat g2 b8 (m : Rat) ∧ IsRat g2 p82 q82 a82 (((rcIt m v i).b : Rat) / ((rcIt m v i).t : Rat)) ∧ IsRat g2 pn qn an ((((((rcIt m v i).b : Rat) / ((rcIt m v i).t : Rat)).num : Int) : Rat)) ∧ IsRat g2 pd qd ad ((((((rcIt m v i).b : Rat) / ((rcIt m v i).t : Rat)).den : Int) : Rat))) ?c63 ?d63
      case c63 =>
        have zr := zb.div zt
        have fr := zr.fit (by decide)
        refine cp_drawnT (by kernel_rfl) 6 (.d 0 (.d 2 (.e 1 (.e 3 (.e 4 (.e 5 .fin .no) (.e 5 (.e 4 .fin .no) .no)) (.e 4 (.e 3 (.e 5 .fin .no) (.e 5 (.e 3 .fin .no) .no)) (.e 5 (.e 3 (.e 4 .fin .no) (.e 4 (.e 3 .fin .no) .no)) .no))) (.e 4 (.e 1 (.e 3 (.e 5 .fin .no) (.e 5 (.e 3 .fin .no) .no)) (.e 5 (.e 1 (.e 3 .fin .no) .no) .no)) (.e 5 (.e 1 (.e 3 (.e 4 .fin .no) (.e 4 (.e 3 .fin .no) .no)) (.e 4 (.e 1 (.e 3 .fin .no) .no) .no)) .no))))) _ rfl (by kernel_rfl) (by kernel_rfl) (by kernel_rfl) (fun _ _ _ _ _ h => h) _ hst.drew ?_
        have hst0 := hst.drew
        have hst9 := hst.drew
        clear hst
        have hst := hst9
        clear hst9
        refine stepT_d rfl rfl rfl rfl (does_load_ownN 5 rfl (by kernel_rfl) zf31 rfl rfl rfl) ?_
        refine stepT_d rfl rfl rfl rfl (does_load_ownN 5 rfl (by kernel_rfl) zf31 rfl rfl rfl) ?_
        refine stepT_call rfl rfl rfl rfl rfl rfl hst0 hst (Mem.le.refl _) (by repeat (first | exact zR _ | apply zC | apply zD)) (Rat_Num hst.agree h82) ?_ ?_
        clear hst
        intro v64 g64 w64 hst hle64 hcs64 hp64
        have hlesum := hle64
        replace hT := hT.mono hle64
        replace h6 := h6.mono hle64
        replace hM := hM.mono hle64
        replace h1 := h1.mono hle64
        replace h2 := h2.mono hle64
        replace h3 := h3.mono hle64
        replace h4 := h4.mono hle64
        replace h82 := h82.mono hle64
        obtain ⟨pn, qn, an, rfl, hn⟩ := hp64
        refine stepT_call rfl rfl rfl rfl rfl rfl hst0 hst hlesum (by repeat (first | exact zR _ | apply zC | apply zD)) (Rat_Den hst.agree h82) ?_ ?_
        clear hst
        intro v65 g65 w65 hst hle65 hcs65 hp65
        replace hlesum := Mem.le.trans hlesum hle65
        replace hT := hT.mono hle65
        replace h6 := h6.mono hle65
        replace hM := hM.mono hle65
        replace h1 := h1.mono hle65
        replace h2 := h2.mono hle65
        replace h3 := h3.mono hle65
        replace h4 := h4.mono hle65
        replace h82 := h82.mono hle65
        replace hn := hn.mono hle65
        obtain ⟨pd, qd, ad, rfl, hd⟩ := hp65
        refine stepT_alloc rfl rfl rfl rfl rfl zf29 rfl hst0 hst hlesum (by repeat (first | exact zR _ | apply zC | apply zD)) ?_ ?_
        clear hst
        intro b17 w66 hst
        refine stepT_alloc rfl rfl rfl rfl rfl zf29 rfl hst0 hst hlesum (by repeat (first | exact zR _ | apply zC | apply zD)) ?_ ?_
        clear hst
        intro b18 w67 hst
        refine stepT_tail ?_
        refine stepK_store 6 rfl rfl rfl rfl rfl rfl zf31 rfl rfl hst rfl (by first | (simp [uN_length]; omega) | simp) ?_
        clear hst
        intro w68 hst
        simp only [zL, splice, Nat.reduceAdd] at hst
        refine stepK_store 7 rfl rfl rfl rfl rfl rfl zf31 rfl rfl hst rfl (by first | (simp [uN_length]; omega) | simp) ?_
        clear hst
        intro w69 hst
        simp only [zL, splice, Nat.reduceAdd] at hst
        refine wpK_nil ?_
        refine join_end (((pn, qn, an), (pd, qd, ad), b17, b18)) ?_ ?_
        exact ⟨rfl, rfl, rfl, rfl, rfl, rfl, trivial⟩
        refine ⟨_, ?_, hT, h6, hM, h82, hn, hd⟩
        first
        | exact hst.weaken _ (.cons_cons _ (.cons _ (.cons _ (.cons _ (.cons _ (.cons_cons _ (.cons_cons _ (.cons_cons _ .slnil))))))))
        | exact St.perm (hst.weaken _ (.cons_cons _ (.cons _ (.cons _ (.cons _ (.cons _ (.cons_cons _ (.cons_cons _ (.cons_cons _ .slnil))))))))) (List.Perm.cons _ (List.Perm.cons _ (List.Perm.swap ..)))
        exact stepT_no
        refine stepT_alloc rfl rfl rfl rfl rfl zf29 rfl hst0 hst hlesum (by repeat (first | exact zR _ | apply zC | apply zD)) ?_ ?_
        clear hst
        intro b18 w70 hst
        refine stepT_alloc rfl rfl rfl rfl rfl zf29 rfl hst0 hst hlesum (by repeat (first | exact zR _ | apply zC | apply zD)) ?_ ?_
        clear hst
        intro b17 w71 hst
        refine stepT_tail ?_
        refine stepK_store 7 rfl rfl rfl rfl rfl rfl zf31 rfl rfl hst rfl (by first | (simp [uN_length]; omega) | simp) ?_
        clear hst
        intro w72 hst
        simp only [zL, splice, Nat.reduceAdd] at hst
        refine stepK_store 6 rfl rfl rfl rfl rfl rfl zf31 rfl rfl hst rfl (by first | (simp [uN_length]; omega) | simp) ?_
        clear hst
        intro w73 hst
        simp only [zL, splice, Nat.reduceAdd] at hst
        refine wpK_nil ?_
        refine join_end (((pn, qn, an), (pd, qd, ad), b17, b18)) ?_ ?_
        exact ⟨rfl, rfl, rfl, rfl, rfl, rfl, trivial⟩
        refine ⟨_, ?_, hT, h6, hM, h82, hn, hd⟩
        first
        | exact hst.weaken _ (.cons_cons _ (.cons _ (.cons _ (.cons _ (.cons _ (.cons_cons _ (.cons_cons _ (.cons_cons _ .slnil))))))))
        | exact St.perm (hst.weaken _ (.cons_cons _ (.cons _ (.cons _ (.cons _ (.cons _ (.cons_cons _ (.cons_cons _ (.cons_cons _ .slnil))))))))) (List.Perm.cons _ (List.Perm.cons _ (List.Perm.swap ..)))
        exact stepT_no
        exact stepT_no
        refine stepT_alloc rfl rfl rfl rfl rfl zf29 rfl hst0 hst hlesum (by repeat (first | exact zR _ | apply zC | apply zD)) ?_ ?_
        clear hst
        intro b17 w74 hst
        refine stepT_call rfl rfl rfl rfl rfl rfl hst0 hst hlesum (by repeat (first | exact zR _ | apply zC | apply zD)) (Rat_Den hst.agree h82) ?_ ?_
        clear hst
        intro v75 g75 w75 hst hle75 hcs75 hp75
        replace hlesum := Mem.le.trans hlesum hle75
        replace hT := hT.mono hle75
        replace h6 := h6.mono hle75
        replace hM := hM.mono hle75
        replace h1 := h1.mono hle75
        replace h2 := h2.mono hle75
        replace h3 := h3.mono hle75
        replace h4 := h4.mono hle75
        replace h82 := h82.mono hle75
        replace hn := hn.mono hle75
        obtain ⟨pd, qd, ad, rfl, hd⟩ := hp75
        refine stepT_alloc rfl rfl rfl rfl rfl zf29 rfl hst0 hst hlesum (by repeat (first | exact zR _ | apply zC | apply zD)) ?_ ?_
        clear hst
        intro b18 w76 hst
        refine stepT_tail ?_
        refine stepK_store 6 rfl rfl rfl rfl rfl rfl zf31 rfl rfl hst rfl (by first | (simp [uN_length]; omega) | simp) ?_
        clear hst
        intro w77 hst
        simp only [zL, splice, Nat.reduceAdd] at hst
        refine stepK_store 7 rfl rfl rfl rfl rfl rfl zf31 rfl rfl hst rfl (by first | (simp [uN_length]; omega) | simp) ?_
        clear hst
        intro w78 hst
        simp only [zL, splice, Nat.reduceAdd] at hst
        refine wpK_nil ?_
        refine join_end (((pn, qn, an), (pd, qd, ad), b17, b18)) ?_ ?_
        exact ⟨rfl, rfl, rfl, rfl, rfl, rfl, trivial⟩
        refine ⟨_, ?_, hT, h6, hM, h82, hn, hd⟩
        first
        | exact hst.weaken _ (.cons_cons _ (.cons _ (.cons _ (.cons _ (.cons _ (.cons_cons _ (.cons_cons _ (.cons_cons _ .slnil))))))))
        | exact St.perm (hst.weaken _ (.cons_cons _ (.cons _ (.cons _ (.cons _ (.cons _ (.cons_cons _ (.cons_cons _ (.cons_cons _ .slnil))))))))) (List.Perm.cons _ (List.Perm.cons _ (List.Perm.swap ..)))
        exact stepT_no
        refine stepT_alloc rfl rfl rfl rfl rfl zf29 rfl hst0 hst hlesum (by repeat (first | exact zR _ | apply zC | apply zD)) ?_ ?_
        clear hst
        intro b18 w79 hst
        refine stepT_call rfl rfl rfl rfl rfl rfl hst0 hst hlesum (by repeat (first | exact zR _ | apply zC | apply zD)) (Rat_Den hst.agree h82) ?_ ?_
        clear hst
        intro v80 g80 w80 hst hle80 hcs80 hp80
        replace hlesum := Mem.le.trans hlesum hle80
        replace hT := hT.mono hle80
        replace h6 := h6.mono hle80
        replace hM := hM.mono hle80
        replace h1 := h1.mono hle80
        replace h2 := h2.mono hle80
        replace h3 := h3.mono hle80
        replace h4 := h4.mono hle80
        replace h82 := h82.mono hle80
        replace hn := hn.mono hle80
        obtain ⟨pd, qd, ad, rfl, hd⟩ := hp80
        refine stepT_tail ?_
        refine stepK_store 6 rfl rfl rfl rfl rfl rfl zf31 rfl rfl hst rfl (by first | (simp [uN_length]; omega) | simp) ?_
        clear hst
        intro w81 hst
        simp only [zL, splice, Nat.reduceAdd] at hst
        refine stepK_store 7 rfl rfl rfl rfl rfl rfl zf31 rfl rfl hst rfl (by first | (simp [uN_length]; omega) | simp) ?_
        clear hst
        intro w82 hst
        simp only [zL, splice, Nat.reduceAdd] at hst
        refine wpK_nil ?_
        refine join_end (((pn, qn, an), (pd, qd, ad), b17, b18)) ?_ ?_
        exact ⟨rfl, rfl, rfl, rfl, rfl, rfl, trivial⟩
        refine ⟨_, ?_, hT, h6, hM, h82, hn, hd⟩
        first
        | exact hst.weaken _ (.cons_cons _ (.cons _ (.cons _ (.cons _ (.cons _ (.cons_cons _ (.cons_cons _ (.cons_cons _ .slnil))))))))
        | exact St.perm (hst.weaken _ (.cons_cons _ (.cons _ (.cons _ (.cons _ (.cons _ (.cons_cons _ (.cons_cons _ (.cons_cons _ .slnil))))))))) (List.Perm.cons _ (List.Perm.cons _ (List.Perm.swap ..)))
        exact stepT_no
        exact stepT_no
        refine stepT_alloc rfl rfl rfl rfl rfl zf29 rfl hst0 hst hlesum (by repeat (first | exact zR _ | apply zC | apply zD)) ?_ ?_
        clear hst
        intro b18 w83 hst
        refine stepT_call rfl rfl rfl rfl rfl rfl hst0 hst hlesum (by repeat (first | exact zR _ | apply zC | apply zD)) (Rat_Den hst.agree h82) ?_ ?_
        clear hst
        intro v84 g84 w84 hst hle84 hcs84 hp84
        replace hlesum := Mem.le.trans hlesum hle84
        replace hT := hT.mono hle84
        replace h6 := h6.mono hle84
        replace hM := hM.mono hle84
        replace h1 := h1.mono hle84
        replace h2 := h2.mono hle84
        replace h3 := h3.mono hle84
        replace h4 := h4.mono hle84
        replace h82 := h82.mono hle84
        replace hn := hn.mono hle84
        obtain ⟨pd, qd, ad, rfl, hd⟩ := hp84
        refine stepT_alloc rfl rfl rfl rfl rfl zf29 rfl hst0 hst hlesum (by repeat (first | exact zR _ | apply zC | apply zD)) ?_ ?_
        clear hst
        intro b17 w85 hst
        refine stepT_tail ?_
        refine stepK_store 7 rfl rfl rfl rfl rfl rfl zf31 rfl rfl hst rfl (by first | (simp [uN_length]; omega) | simp) ?_
        clear hst
        intro w86 hst
        simp only [zL, splice, Nat.reduceAdd] at hst
        refine stepK_store 6 rfl rfl rfl rfl rfl rfl zf31 rfl rfl hst rfl (by first | (simp [uN_length]; omega) | simp) ?_
        clear hst
        intro w87 hst
        simp only [zL, splice, Nat.reduceAdd] at hst
        refine wpK_nil ?_
        refine join_end (((pn, qn, an), (pd, qd, ad), b17, b18)) ?_ ?_
        exact ⟨rfl, rfl, rfl, rfl, rfl, rfl, trivial⟩
        refine ⟨_, ?_, hT, h6, hM, h82, hn, hd⟩
        first
        | exact hst.weaken _ (.cons_cons _ (.cons _ (.cons _ (.cons _ (.cons _ (.cons_cons _ (.cons_cons _ (.cons_cons _ .slnil))))))))
        | exact St.perm (hst.weaken _ (.cons_cons _ (.cons _ (.cons _ (.cons _ (.cons _ (.cons_cons _ (.cons_cons _ (.cons_cons _ .slnil))))))))) (List.Perm.cons _ (List.Perm.cons _ (List.Perm.swap ..)))
        exact stepT_no
        refine stepT_alloc rfl rfl rfl rfl rfl zf29 rfl hst0 hst hlesum (by repeat (first | exact zR _ | apply zC | apply zD)) ?_ ?_
        clear hst
        intro b17 w88 hst
        refine stepT_call rfl rfl rfl rfl rfl rfl hst0 hst hlesum (by repeat (first | exact zR _ | apply zC | apply zD)) (Rat_Den hst.agree h82) ?_ ?_
        clear hst
        intro v89 g89 w89 hst hle89 hcs89 hp89
        replace hlesum := Mem.le.trans hlesum hle89
        replace hT := hT.mono hle89
        replace h6 := h6.mono hle89
        replace hM := hM.mono hle89
        replace h1 := h1.mono hle89
        replace h2 := h2.mono hle89
        replace h3 := h3.mono hle89
        replace h4 := h4.mono hle89
        replace h82 := h82.mono hle89
        replace hn := hn.mono hle89
        obtain ⟨pd, qd, ad, rfl, hd⟩ := hp89
        refine stepT_tail ?_
        refine stepK_store 7 rfl rfl rfl rfl rfl rfl zf31 rfl rfl hst rfl (by first | (simp [uN_length]; omega) | simp) ?_
        clear hst
        intro w90 hst
        simp only [zL, splice, Nat.reduceAdd] at hst
        refine stepK_store 6 rfl rfl rfl rfl rfl rfl zf31 rfl rfl hst rfl (by first | (simp [uN_length]; omega) | simp) ?_
        clear hst
        intro w91 hst
        simp only [zL, splice, Nat.reduceAdd] at hst
        refine wpK_nil ?_
        refine join_end (((pn, qn, an), (pd, qd, ad), b17, b18)) ?_ ?_
        exact ⟨rfl, rfl, rfl, rfl, rfl, rfl, trivial⟩
        refine ⟨_, ?_, hT, h6, hM, h82, hn, hd⟩
        first
        | exact hst.weaken _ (.cons_cons _ (.cons _ (.cons _ (.cons _ (.cons _ (.cons_cons _ (.cons_cons _ (.cons_cons _ .slnil))))))))
        | exact St.perm (hst.weaken _ (.cons_cons _ (.cons _ (.cons _ (.cons _ (.cons _ (.cons_cons _ (.cons_cons _ (.cons_cons _ .slnil))))))))) (List.Perm.cons _ (List.Perm.cons _ (List.Perm.swap ..)))
        exact stepT_no
        exact stepT_no
        exact stepT_no
        refine stepT_alloc rfl rfl rfl rfl rfl zf29 rfl hst0 hst (Mem.le.refl _) (by repeat (first | exact zR _ | apply zC | apply zD)) ?_ ?_
        clear hst
        intro b17 w92 hst
        refine stepT_call rfl rfl rfl rfl rfl rfl hst0 hst (Mem.le.refl _) (by repeat (first | exact zR _ | apply zC | apply zD)) (Rat_Num hst.agree h82) ?_ ?_
        clear hst
        intro v93 g93 w93 hst hle93 hcs93 hp93
        have hlesum := hle93
        replace hT := hT.mono hle93
        replace h6 := h6.mono hle93
        replace hM := hM.mono hle93
        replace h1 := h1.mono hle93
        replace h2 := h2.mono hle93
        replace h3 := h3.mono hle93
        replace h4 := h4.mono hle93
        replace h82 := h82.mono hle93
        obtain ⟨pn, qn, an, rfl, hn⟩ := hp93
        refine stepT_call rfl rfl rfl rfl rfl rfl hst0 hst hlesum (by repeat (first | exact zR _ | apply zC | apply zD)) (Rat_Den hst.agree h82) ?_ ?_
        clear hst
        intro v94 g94 w94 hst hle94 hcs94 hp94
        replace hlesum := Mem.le.trans hlesum hle94
        replace hT := hT.mono hle94
        replace h6 := h6.mono hle94
        replace hM := hM.mono hle94
        replace h1 := h1.mono hle94
        replace h2 := h2.mono hle94
        replace h3 := h3.mono hle94
        replace h4 := h4.mono hle94
        replace h82 := h82.mono hle94
        replace hn := hn.mono hle94
        obtain ⟨pd, qd, ad, rfl, hd⟩ := hp94
        refine stepT_alloc rfl rfl rfl rfl rfl zf29 rfl hst0 hst hlesum (by repeat (first | exact zR _ | apply zC | apply zD)) ?_ ?_
        clear hst
        intro b18 w95 hst
        refine stepT_tail ?_
        refine stepK_store 6 rfl rfl rfl rfl rfl rfl zf31 rfl rfl hst rfl (by first | (simp [uN_length]; omega) | simp) ?_
        clear hst
        intro w96 hst
        simp only [zL, splice, Nat.reduceAdd] at hst
        refine stepK_store 7 rfl rfl rfl rfl rfl rfl zf31 rfl rfl hst rfl (by first | (simp [uN_length]; omega) | simp) ?_
        clear hst
        intro w97 hst
        simp only [zL, splice, Nat.reduceAdd] at hst
        refine wpK_nil ?_
        refine join_end (((pn, qn, an), (pd, qd, ad), b17, b18)) ?_ ?_
        exact ⟨rfl, rfl, rfl, rfl, rfl, rfl, trivial⟩
        refine ⟨_, ?_, hT, h6, hM, h82, hn, hd⟩
        first
        | exact hst.weaken _ (.cons_cons _ (.cons _ (.cons _ (.cons _ (.cons _ (.cons_cons _ (.cons_cons _ (.cons_cons _ .slnil))))))))
        | exact St.perm (hst.weaken _ (.cons_cons _ (.cons _ (.cons _ (.cons _ (.cons _ (.cons_cons _ (.cons_cons _ (.cons_cons _ .slnil))))))))) (List.Perm.cons _ (List.Perm.cons _ (List.Perm.swap ..)))
        exact stepT_no
        refine stepT_alloc rfl rfl rfl rfl rfl zf29 rfl hst0 hst hlesum (by repeat (first | exact zR _ | apply zC | apply zD)) ?_ ?_
        clear hst
        intro b18 w98 hst
        refine stepT_call rfl rfl rfl rfl rfl rfl hst0 hst hlesum (by repeat (first | exact zR _ | apply zC | apply zD)) (Rat_Den hst.agree h82) ?_ ?_
        clear hst
        intro v99 g99 w99 hst hle99 hcs99 hp99
        replace hlesum := Mem.le.trans hlesum hle99
        replace hT := hT.mono hle99
        replace h6 := h6.mono hle99
        replace hM := hM.mono hle99
        replace h1 := h1.mono hle99
        replace h2 := h2.mono hle99
        replace h3 := h3.mono hle99
        replace h4 := h4.mono hle99
        replace h82 := h82.mono hle99
        replace hn := hn.mono hle99
        obtain ⟨pd, qd, ad, rfl, hd⟩ := hp99
        refine stepT_tail ?_
        refine stepK_store 6 rfl rfl rfl rfl rfl rfl zf31 rfl rfl hst rfl (by first | (simp [uN_length]; omega) | simp) ?_
        clear hst
        intro w100 hst
        simp only [zL, splice, Nat.reduceAdd] at hst
        refine stepK_store 7 rfl rfl rfl rfl rfl rfl zf31 rfl rfl hst rfl (by first | (simp [uN_length]; omega) | simp) ?_
        clear hst
        intro w101 hst
        simp only [zL, splice, Nat.reduceAdd] at hst
        refine wpK_nil ?_
        refine join_end (((pn, qn, an), (pd, qd, ad), b17, b18)) ?_ ?_
        exact ⟨rfl, rfl, rfl, rfl, rfl, rfl, trivial⟩
        refine ⟨_, ?_, hT, h6, hM, h82, hn, hd⟩
        first
        | exact hst.weaken _ (.cons_cons _ (.cons _ (.cons _ (.cons _ (.cons _ (.cons_cons _ (.cons_cons _ (.cons_cons _ .slnil))))))))
        | exact St.perm (hst.weaken _ (.cons_cons _ (.cons _ (.cons _ (.cons _ (.cons _ (.cons_cons _ (.cons_cons _ (.cons_cons _ .slnil))))))))) (List.Perm.cons _ (List.Perm.cons _ (List.Perm.swap ..)))
        exact stepT_no
        exact stepT_no
        refine stepT_alloc rfl rfl rfl rfl rfl zf29 rfl hst0 hst (Mem.le.refl _) (by repeat (first | exact zR _ | apply zC | apply zD)) ?_ ?_
        clear hst
        intro b18 w102 hst
        refine stepT_call rfl rfl rfl rfl rfl rfl hst0 hst (Mem.le.refl _) (by repeat (first | exact zR _ | apply zC | apply zD)) (Rat_Num hst.agree h82) ?_ ?_
        clear hst
        intro v103 g103 w103 hst hle103 hcs103 hp103
        have hlesum := hle103
        replace hT := hT.mono hle103
        replace h6 := h6.mono hle103
        replace hM := hM.mono hle103
        replace h1 := h1.mono hle103
        replace h2 := h2.mono hle103
        replace h3 := h3.mono hle103
        replace h4 := h4.mono hle103
        replace h82 := h82.mono hle103
        obtain ⟨pn, qn, an, rfl, hn⟩ := hp103
        refine stepT_call rfl rfl rfl rfl rfl rfl hst0 hst hlesum (by repeat (first | exact zR _ | apply zC | apply zD)) (Rat_Den hst.agree h82) ?_ ?_
        clear hst
        intro v104 g104 w104 hst hle104 hcs104 hp104
        replace hlesum := Mem.le.trans hlesum hle104
        replace hT := hT.mono hle104
        replace h6 := h6.mono hle104
        replace hM := hM.mono hle104
        replace h1 := h1.mono hle104
        replace h2 := h2.mono hle104
        replace h3 := h3.mono hle104
        replace h4 := h4.mono hle104
        replace h82 := h82.mono hle104
        replace hn := hn.mono hle104
        obtain ⟨pd, qd, ad, rfl, hd⟩ := hp104
        refine stepT_tail ?_
        refine stepK_store 6 rfl rfl rfl rfl rfl rfl zf31 rfl rfl hst rfl (by first | (simp [uN_length]; omega) | simp) ?_
        clear hst
        intro w105 hst
        simp only [zL, splice, Nat.reduceAdd] at hst
        refine stepK_store 7 rfl rfl rfl rfl rfl rfl zf31 rfl rfl hst rfl (by first | (simp [uN_length]; omega) | simp) ?_
        clear hst
        intro w106 hst
        simp only [zL, splice, Nat.reduceAdd] at hst
        refine wpK_nil ?_
        refine join_end (((pn, qn, an), (pd, qd, ad), b17, b18)) ?_ ?_
        exact ⟨rfl, rfl, rfl, rfl, rfl, rfl, trivial⟩
        refine ⟨_, ?_, hT, h6, hM, h82, hn, hd⟩
        first
        | exact hst.weaken _ (.cons_cons _ (.cons _ (.cons _ (.cons _ (.cons _ (.cons_cons _ (.cons_cons _ (.cons_cons _ .slnil))))))))
        | exact St.perm (hst.weaken _ (.cons_cons _ (.cons _ (.cons _ (.cons _ (.cons _ (.cons_cons _ (.cons_cons _ (.cons_cons _ .slnil))))))))) (List.Perm.cons _ (List.Perm.cons _ (List.Perm.swap ..)))
        exact stepT_no
        exact stepT_no
        exact stepT_no
        refine stepT_alloc rfl rfl rfl rfl rfl zf29 rfl hst0 hst (Mem.le.refl _) (by repeat (first | exact zR _ | apply zC | apply zD)) ?_ ?_
        clear hst
        intro b18 w107 hst
        refine stepT_call rfl rfl rfl rfl rfl rfl hst0 hst (Mem.le.refl _) (by repeat (first | exact zR _ | apply zC | apply zD)) (Rat_Num hst.agree h82) ?_ ?_
        clear hst
        intro v108 g108 w108 hst hle108 hcs108 hp108
        have hlesum := hle108
        replace hT := hT.mono hle108
        replace h6 := h6.mono hle108
        replace hM := hM.mono hle108
        replace h1 := h1.mono hle108
        replace h2 := h2.mono hle108
        replace h3 := h3.mono hle108
        replace h4 := h4.mono hle108
        replace h82 := h82.mono hle108
        obtain ⟨pn, qn, an, rfl, hn⟩ := hp108
        refine stepT_call rfl rfl rfl rfl rfl rfl hst0 hst hlesum (by repeat (first | exact zR _ | apply zC | apply zD)) (Rat_Den hst.agree h82) ?_ ?_
        clear hst
        intro v109 g109 w109 hst hle109 hcs109 hp109
        replace hlesum := Mem.le.trans hlesum hle109
        replace hT := hT.mono hle109
        replace h6 := h6.mono hle109
        replace hM := hM.mono hle109
        replace h1 := h1.mono hle109
        replace h2 := h2.mono hle109
        replace h3 := h3.mono hle109
        replace h4 := h4.mono hle109
        replace h82 := h82.mono hle109
        replace hn := hn.mono hle109
        obtain ⟨pd, qd, ad, rfl, hd⟩ := hp109
        refine stepT_alloc rfl rfl rfl rfl rfl zf29 rfl hst0 hst hlesum (by repeat (first | exact zR _ | apply zC | apply zD)) ?_ ?_
        clear hst
        intro b17 w110 hst
        refine stepT_tail ?_
        refine stepK_store 7 rfl rfl rfl rfl rfl rfl zf31 rfl rfl hst rfl (by first | (simp [uN_length]; omega) | simp) ?_
        clear hst
        intro w111 hst
        simp only [zL, splice, Nat.reduceAdd] at hst
        refine stepK_store 6 rfl rfl rfl rfl rfl rfl zf31 rfl rfl hst rfl (by first | (simp [uN_length]; omega) | simp) ?_
        clear hst
        intro w112 hst
        simp only [zL, splice, Nat.reduceAdd] at hst
        refine wpK_nil ?_
        refine join_end (((pn, qn, an), (pd, qd, ad), b17, b18)) ?_ ?_
        exact ⟨rfl, rfl, rfl, rfl, rfl, rfl, trivial⟩
        refine ⟨_, ?_, hT, h6, hM, h82, hn, hd⟩
        first
        | exact hst.weaken _ (.cons_cons _ (.cons _ (.cons _ (.cons _ (.cons _ (.cons_cons _ (.cons_cons _ (.cons_cons _ .slnil))))))))
        | exact St.perm (hst.weaken _ (.cons_cons _ (.cons _ (.cons _ (.cons _ (.cons _ (.cons_cons _ (.cons_cons _ (.cons_cons _ .slnil))))))))) (List.Perm.cons _ (List.Perm.cons _ (List.Perm.swap ..)))
        exact stepT_no
        refine stepT_alloc rfl rfl rfl rfl rfl zf29 rfl hst0 hst hlesum (by repeat (first | exact zR _ | apply zC | apply zD)) ?_ ?_
        clear hst
        intro b17 w113 hst
        refine stepT_call rfl rfl rfl rfl rfl rfl hst0 hst hlesum (by repeat (first | exact zR _ | apply zC | apply zD)) (Rat_Den hst.agree h82) ?_ ?_
        clear hst
        intro v114 g114 w114 hst hle114 hcs114 hp114
        replace hlesum := Mem.le.trans hlesum hle114
        replace hT := hT.mono hle114
        replace h6 := h6.mono hle114
        replace hM := hM.mono hle114
        replace h1 := h1.mono hle114
        replace h2 := h2.mono hle114
        replace h3 := h3.mono hle114
        replace h4 := h4.mono hle114
        replace h82 := h82.mono hle114
        replace hn := hn.mono hle114
        obtain ⟨pd, qd, ad, rfl, hd⟩ := hp114
        refine stepT_tail ?_
        refine stepK_store 7 rfl rfl rfl rfl rfl rfl zf31 rfl rfl hst rfl (by first | (simp [uN_length]; omega) | simp) ?_
        clear hst
        intro w115 hst
        simp only [zL, splice, Nat.reduceAdd] at hst
        refine stepK_store 6 rfl rfl rfl rfl rfl rfl zf31 rfl rfl hst rfl (by first | (simp [uN_length]; omega) | simp) ?_
        clear hst
        intro w116 hst
        simp only [zL, splice, Nat.reduceAdd] at hst
        refine wpK_nil ?_
        refine join_end (((pn, qn, an), (pd, qd, ad), b17, b18)) ?_ ?_
        exact ⟨rfl, rfl, rfl, rfl, rfl, rfl, trivial⟩
        refine ⟨_, ?_, hT, h6, hM, h82, hn, hd⟩
        first
        | exact hst.weaken _ (.cons_cons _ (.cons _ (.cons _ (.cons _ (.cons _ (.cons_cons _ (.cons_cons _ (.cons_cons _ .slnil))))))))
        | exact St.perm (hst.weaken _ (.cons_cons _ (.cons _ (.cons _ (.cons _ (.cons _ (.cons_cons _ (.cons_cons _ (.cons_cons _ .slnil))))))))) (List.Perm.cons _ (List.Perm.cons _ (List.Perm.swap ..)))
        exact stepT_no
        exact stepT_no
        refine stepT_alloc rfl rfl rfl rfl rfl zf29 rfl hst0 hst (Mem.le.refl _) (by repeat (first | exact zR _ | apply zC | apply zD)) ?_ ?_
        clear hst
        intro b17 w117 hst
        refine stepT_call rfl rfl rfl rfl rfl rfl hst0 hst (Mem.le.refl _) (by repeat (first | exact zR _ | apply zC | apply zD)) (Rat_Num hst.agree h82) ?_ ?_
        clear hst
        intro v118 g118 w118 hst hle118 hcs118 hp118
        have hlesum := hle118
        replace hT := hT.mono hle118
        replace h6 := h6.mono hle118
        replace hM := hM.mono hle118
        replace h1 := h1.mono hle118
        replace h2 := h2.mono hle118
        replace h3 := h3.mono hle118
        replace h4 := h4.mono hle118
        replace h82 := h82.mono hle118
        obtain ⟨pn, qn, an, rfl, hn⟩ := hp118
        refine stepT_call rfl rfl rfl rfl rfl rfl hst0 hst hlesum (by repeat (first | exact zR _ | apply zC | apply zD)) (Rat_Den hst.agree h82) ?_ ?_
        clear hst
        intro v119 g119 w119 hst hle119 hcs119 hp119
        replace hlesum := Mem.le.trans hlesum hle119
        replace hT := hT.mono hle119
        replace h6 := h6.mono hle119
        replace hM := hM.mono hle119
        replace h1 := h1.mono hle119
        replace h2 := h2.mono hle119
        replace h3 := h3.mono hle119
        replace h4 := h4.mono hle119
        replace h82 := h82.mono hle119
        replace hn := hn.mono hle119
        obtain ⟨pd, qd, ad, rfl, hd⟩ := hp119
        refine stepT_tail ?_
        refine stepK_store 7 rfl rfl rfl rfl rfl rfl zf31 rfl rfl hst rfl (by first | (simp [uN_length]; omega) | simp) ?_
        clear hst
        intro w120 hst
        simp only [zL, splice, Nat.reduceAdd] at hst
        refine stepK_store 6 rfl rfl rfl rfl rfl rfl zf31 rfl rfl hst rfl (by first | (simp [uN_length]; omega) | simp) ?_
        clear hst
        intro w121 hst
        simp only [zL, splice, Nat.reduceAdd] at hst
        refine wpK_nil ?_
        refine join_end (((pn, qn, an), (pd, qd, ad), b17, b18)) ?_ ?_
        exact ⟨rfl, rfl, rfl, rfl, rfl, rfl, trivial⟩
        refine ⟨_, ?_, hT, h6, hM, h82, hn, hd⟩
        first
        | exact hst.weaken _ (.cons_cons _ (.cons _ (.cons _ (.cons _ (.cons _ (.cons_cons _ (.cons_cons _ (.cons_cons _ .slnil))))))))
        | exact St.perm (hst.weaken _ (.cons_cons _ (.cons _ (.cons _ (.cons _ (.cons _ (.cons_cons _ (.cons_cons _ (.cons_cons _ .slnil))))))))) (List.Perm.cons _ (List.Perm.cons _ (List.Perm.swap ..)))
        exact stepT_no
        exact stepT_no
        exact stepT_no
        exact stepT_no
      case d63 =>
        clear hst
        clear hT h6 hM h82 h1 h2 h3 h4
        rintro ⟨⟨pn, qn, an⟩, ⟨pd, qd, ad⟩, b17, b18⟩ w2 ⟨g2, hst, hT, h6, hM, h82, hn, hd⟩
        simp only
        have zr := zb.div zt
        obtain ⟨r, hr⟩ : ∃ r, r = ((rcIt m v i).b : Rat) / ((rcIt m v i).t : Rat) := ⟨_, rfl⟩
        have hgi := Rc.good_iff hm2 hok.inv hfit
        rw [← hr] at h82 hn hd zr hgi
        have zn := zr.numI
        have zd := zr.denI
        refine cp_seq ?_
        refine cp_seq ?_
        obtain ⟨pm, qm, am, hcm, hmm⟩ := id hM
        refine cp_drawnE (by kernel_rfl) 28 [(0, true), (1, true), (2, false), (3, true), (4, true), (5, true), (6, true), (7, false), (8, true), (9, true), (10, true), (11, true), (12, true), (13, false), (14, false), (15, true), (16, true), (17, true), (18, true), (19, true), (20, true), (23, true), (21, false), (22, false), (24, false), (25, false), (26, true), (27, true)] _ rfl (by kernel_rfl) (by kernel_rfl) (by kernel_rfl) (fun _ _ _ _ _ h => h) _ (hst.drew) ?_
        have hst0 := hst.drew
        clear hst
        have hst := hst0
        refine stepE_d rfl rfl rfl rfl (does_move rfl rfl) ?_
        refine stepE_d rfl rfl rfl rfl (does_load_ownN 2 rfl (by kernel_rfl) zf31 rfl rfl rfl) ?_
        refine stepE_callC rfl rfl rfl rfl rfl rfl rfl hst (rec_fits hst.agree hn hM zn (zm.mono (m := 402) (by decide)) (by decide)) (fun _ _ h hle => St.older h hle (by simp) hst0.ext hst0.le) ?_
        clear hst
        intro v122 g122 w122 hst hle122 hcs122 hp122
        have hlesum := hle122
        replace hT := hT.mono hle122
        replace h6 := h6.mono hle122
        replace hM := hM.mono hle122
        replace h82 := h82.mono hle122
        replace hn := hn.mono hle122
        replace hd := hd.mono hle122
        replace hmm := hmm.mono hle122
        obtain rfl := hp122
        refine stepE_d rfl rfl rfl rfl (does_not rfl rfl) ?_
        refine stepE_d rfl rfl rfl rfl (does_move rfl rfl) ?_
        refine wpE_splitb (t := 91) rfl ?_ ?_
        intro s91
        have hng : ¬ (rcIt m v i).Good m := fun h => (of_decide_eq_false (by simpa using s91) : ¬ fitsZ m r.num) (hgi.2 h).2.1
        subst hve hme
        refine stepE_pass rfl rfl rfl rfl rfl rfl rfl rfl ?_
        refine stepE_pass rfl rfl rfl rfl rfl rfl rfl rfl ?_
        refine stepE_skip rfl rfl rfl rfl rfl rfl rfl rfl ?_
        refine stepE_pass rfl rfl rfl rfl rfl rfl rfl rfl ?_
        refine stepE_d rfl rfl rfl rfl (does_pick_true rfl rfl rfl) ?_
        refine stepE_d rfl rfl rfl rfl (does_move rfl rfl) ?_
        refine stepE_pass rfl rfl rfl rfl rfl rfl rfl rfl ?_
        refine stepE_pass rfl rfl rfl rfl rfl rfl rfl rfl ?_
        refine stepE_skip rfl rfl rfl rfl rfl rfl rfl rfl ?_
        refine stepE_skip rfl rfl rfl rfl rfl rfl rfl rfl ?_
        refine stepE_pass rfl rfl rfl rfl rfl rfl rfl rfl ?_
        refine stepE_d rfl rfl rfl rfl (does_pick_true rfl rfl rfl) ?_
        refine stepE_d rfl rfl rfl rfl (does_move rfl rfl) ?_
        refine stepE_pass rfl rfl rfl rfl rfl rfl rfl rfl ?_
        refine stepE_pass rfl rfl rfl rfl rfl rfl rfl rfl ?_
        refine stepE_pass rfl rfl rfl rfl rfl rfl rfl rfl ?_
        refine stepE_pass rfl rfl rfl rfl rfl rfl rfl rfl ?_
        refine stepE_skip rfl rfl rfl rfl rfl rfl rfl rfl ?_
        refine stepE_skip rfl rfl rfl rfl rfl rfl rfl rfl ?_
        refine stepE_skip rfl rfl rfl rfl rfl rfl rfl rfl ?_
        refine stepE_skip rfl rfl rfl rfl rfl rfl rfl rfl ?_
        refine stepE_pass rfl rfl rfl rfl rfl rfl rfl rfl ?_
        refine stepE_d rfl rfl rfl rfl (does_pick_true rfl rfl rfl) ?_
        refine stepE_tail ?_
        refine znt ?_
        refine cp_cond_true rfl ?_
        refine zsr ?_
        refine zA rfl hst rfl ?_
        refine zA rfl hst rfl ?_
        refine zn5 ?_
        refine ret2 rfl rfl rfl hst ?_
        first
        | exact ⟨_, _, rfl, rec_bad hno⟩
        | exact ⟨_, _, rfl, rec_none hin hok.no hfit hng⟩
        intro s91
        have g1_ : fitsZ m r.num := of_decide_eq_true (by simpa using s91)
        refine stepE_guard rfl rfl rfl rfl rfl rfl rfl (does_move rfl rfl) ?_
        refine stepE_guard rfl rfl rfl rfl rfl rfl rfl (does_load_ownN 3 rfl (by kernel_rfl) zf31 rfl rfl rfl) ?_
        refine stepE_callC_guard rfl rfl rfl rfl rfl rfl rfl rfl rfl rfl hst (rec_fits hst.agree hd hM zd (zm.mono (m := 402) (by decide)) (by decide)) (fun _ _ h hle => St.older h (Mem.le.trans hlesum hle) (by simp) hst0.ext hst0.le) ?_
        clear hst
        intro v123 g123 w123 hst hle123 hcs123 hp123
        replace hlesum := Mem.le.trans hlesum hle123
        replace hT := hT.mono hle123
        replace h6 := h6.mono hle123
        replace hM := hM.mono hle123
        replace h82 := h82.mono hle123
        replace hn := hn.mono hle123
        replace hd := hd.mono hle123
        replace hmm := hmm.mono hle123
        obtain rfl := hp123
        refine stepE_guard rfl rfl rfl rfl rfl rfl rfl (does_not rfl rfl) ?_
        refine stepE_d rfl rfl rfl rfl (does_pick_false rfl rfl rfl) ?_
        refine stepE_d rfl rfl rfl rfl (does_move rfl rfl) ?_
        refine wpE_splitb (t := 97) rfl ?_ ?_
        intro s97
        have hng : ¬ (rcIt m v i).Good m := fun h => (of_decide_eq_false (by simpa using s97) : ¬ fitsZ m (r.den : Int)) (hgi.2 h).2.2.1
        subst hve hme
        refine stepE_pass rfl rfl rfl rfl rfl rfl rfl rfl ?_
        refine stepE_pass rfl rfl rfl rfl rfl rfl rfl rfl ?_
        refine stepE_skip rfl rfl rfl rfl rfl rfl rfl rfl ?_
        refine stepE_skip rfl rfl rfl rfl rfl rfl rfl rfl ?_
        refine stepE_pass rfl rfl rfl rfl rfl rfl rfl rfl ?_
        refine stepE_d rfl rfl rfl rfl (does_pick_true rfl rfl rfl) ?_
        refine stepE_d rfl rfl rfl rfl (does_move rfl rfl) ?_
        refine stepE_pass rfl rfl rfl rfl rfl rfl rfl rfl ?_
        refine stepE_pass rfl rfl rfl rfl rfl rfl rfl rfl ?_
        refine stepE_pass rfl rfl rfl rfl rfl rfl rfl rfl ?_
        refine stepE_pass rfl rfl rfl rfl rfl rfl rfl rfl ?_
        refine stepE_skip rfl rfl rfl rfl rfl rfl rfl rfl ?_
        refine stepE_skip rfl rfl rfl rfl rfl rfl rfl rfl ?_
        refine stepE_skip rfl rfl rfl rfl rfl rfl rfl rfl ?_
        refine stepE_skip rfl rfl rfl rfl rfl rfl rfl rfl ?_
        refine stepE_pass rfl rfl rfl rfl rfl rfl rfl rfl ?_
        refine stepE_d rfl rfl rfl rfl (does_pick_true rfl rfl rfl) ?_
        refine stepE_tail ?_
        refine znt ?_
        refine cp_cond_true rfl ?_
        refine zsr ?_
        refine zA rfl hst rfl ?_
        refine zA rfl hst rfl ?_
        refine zn5 ?_
        refine ret2 rfl rfl rfl hst ?_
        first
        | exact ⟨_, _, rfl, rec_bad hno⟩
        | exact ⟨_, _, rfl, rec_none hin hok.no hfit hng⟩
        intro s97
        have g2_ : fitsZ m (r.den : Int) := of_decide_eq_true (by simpa using s97)
        refine stepE_guard rfl rfl rfl rfl rfl rfl rfl (does_load_ownN 3 rfl (by kernel_rfl) zf31 rfl rfl rfl) ?_
        refine stepE_guard rfl rfl rfl rfl rfl rfl rfl (does_load_gN rfl (by kernel_rfl) zf31 rfl rfl (fun j v hj => gcell_le (by first | assumption | exact Mem.le.refl _) (hcm j v hj))) ?_
        refine stepE_call_guard rfl rfl rfl rfl rfl rfl rfl rfl rfl hst (num_GCD hst.agree hd hmm (zd.fit (by decide)) (zm.fit (by decide))) (fun _ _ h hle => St.older h (Mem.le.trans hlesum hle) (by simp) hst0.ext hst0.le) ?_
        clear hst
        intro v124 g124 w124 hst hle124 hcs124 hp124
        replace hlesum := Mem.le.trans hlesum hle124
        replace hT := hT.mono hle124
        replace h6 := h6.mono hle124
        replace hM := hM.mono hle124
        replace h82 := h82.mono hle124
        replace hn := hn.mono hle124
        replace hd := hd.mono hle124
        replace hmm := hmm.mono hle124
        obtain ⟨p100, q100, a100, rfl, h100⟩ := hp124
        refine stepE_call_guard rfl rfl rfl rfl rfl rfl rfl rfl rfl hst (Rat_One hst.agree h100) (fun _ _ h hle => St.older h (Mem.le.trans hlesum hle) (by simp) hst0.ext hst0.le) ?_
        clear hst
        intro v125 g125 w125 hst hle125 hcs125 hp125
        replace hlesum := Mem.le.trans hlesum hle125
        replace hT := hT.mono hle125
        replace h6 := h6.mono hle125
        replace hM := hM.mono hle125
        replace h82 := h82.mono hle125
        replace hn := hn.mono hle125
        replace hd := hd.mono hle125
        replace hmm := hmm.mono hle125
        replace h100 := h100.mono hle125
        obtain rfl := hp125
        refine stepE_guard rfl rfl rfl rfl rfl rfl rfl (does_not rfl rfl) ?_
        refine stepE_d rfl rfl rfl rfl (does_pick_false rfl rfl rfl) ?_
        refine stepE_d rfl rfl rfl rfl (does_move rfl rfl) ?_
        refine wpE_splitb (t := 104) rfl ?_ ?_
        intro s104
        have hng : ¬ (rcIt m v i).Good m := fun h => (of_decide_eq_false (by simpa using s104) : ¬ gcdR ((r.den : Int) : Rat) (m : Rat) = 1) (gcd_ints.2 (hgi.2 h).2.2.2.1)
        subst hve hme
        refine stepE_pass rfl rfl rfl rfl rfl rfl rfl rfl ?_
        refine stepE_pass rfl rfl rfl rfl rfl rfl rfl rfl ?_
        refine stepE_pass rfl rfl rfl rfl rfl rfl rfl rfl ?_
        refine stepE_pass rfl rfl rfl rfl rfl rfl rfl rfl ?_
        refine stepE_skip rfl rfl rfl rfl rfl rfl rfl rfl ?_
        refine stepE_skip rfl rfl rfl rfl rfl rfl rfl rfl ?_
        refine stepE_skip rfl rfl rfl rfl rfl rfl rfl rfl ?_
        refine stepE_skip rfl rfl rfl rfl rfl rfl rfl rfl ?_
        refine stepE_pass rfl rfl rfl rfl rfl rfl rfl rfl ?_
        refine stepE_d rfl rfl rfl rfl (does_pick_true rfl rfl rfl) ?_
        refine stepE_tail ?_
        refine znt ?_
        refine cp_cond_true rfl ?_
        refine zsr ?_
        refine zA rfl hst rfl ?_
        refine zA rfl hst rfl ?_
        refine zn5 ?_
        refine ret2 rfl rfl rfl hst ?_
        first
        | exact ⟨_, _, rfl, rec_bad hno⟩
        | exact ⟨_, _, rfl, rec_none hin hok.no hfit hng⟩
        intro s104
        have g3_ := gcd_ints.1 (of_decide_eq_true (by simpa using s104) : gcdR ((r.den : Int) : Rat) (m : Rat) = 1)
        refine stepE_guard rfl rfl rfl rfl rfl rfl rfl (does_load_ownN 2 rfl (by kernel_rfl) zf31 rfl rfl rfl) ?_
        refine stepE_guard rfl rfl rfl rfl rfl rfl rfl (does_load_ownN 0 rfl (by kernel_rfl) zf31 rfl rfl rfl) ?_
        refine stepE_guard rfl rfl rfl rfl rfl rfl rfl (does_load_ownN 3 rfl (by kernel_rfl) zf31 rfl rfl rfl) ?_
        refine stepE_guard rfl rfl rfl rfl rfl rfl rfl (does_load_gN rfl (by kernel_rfl) zf31 rfl rfl (fun j v hj => gcell_le (by first | assumption | exact Mem.le.refl _) (hcm j v hj))) ?_
        refine stepE_call_guard rfl rfl rfl rfl rfl rfl rfl rfl rfl hst (Rat_Mul hst.agree h6 hd (zv.fit (by decide)) (zd.fit (by decide))) (fun _ _ h hle => St.older h (Mem.le.trans hlesum hle) (by simp) hst0.ext hst0.le) ?_
        clear hst
        intro v126 g126 w126 hst hle126 hcs126 hp126
        replace hlesum := Mem.le.trans hlesum hle126
        replace hT := hT.mono hle126
        replace h6 := h6.mono hle126
        replace hM := hM.mono hle126
        replace h82 := h82.mono hle126
        replace hn := hn.mono hle126
        replace hd := hd.mono hle126
        replace hmm := hmm.mono hle126
        replace h100 := h100.mono hle126
        obtain ⟨p108, q108, a108, rfl, h108⟩ := hp126
        refine stepE_call_guard rfl rfl rfl rfl rfl rfl rfl rfl rfl hst (Rat_Sub hst.agree hn h108 (zn.fit (by decide)) ((zv.mul zd).fit (by decide))) (fun _ _ h hle => St.older h (Mem.le.trans hlesum hle) (by simp) hst0.ext hst0.le) ?_
        clear hst
        intro v127 g127 w127 hst hle127 hcs127 hp127
        replace hlesum := Mem.le.trans hlesum hle127
        replace hT := hT.mono hle127
        replace h6 := h6.mono hle127
        replace hM := hM.mono hle127
        replace h82 := h82.mono hle127
        replace hn := hn.mono hle127
        replace hd := hd.mono hle127
        replace hmm := hmm.mono hle127
        replace h100 := h100.mono hle127
        replace h108 := h108.mono hle127
        obtain ⟨p109, q109, a109, rfl, h109⟩ := hp127
        rw [nvd_cast] at h109
        have znv := zn.sub (zv.mul zd)
        rw [nvd_cast] at znv
        refine stepE_call_guard rfl rfl rfl rfl rfl rfl rfl rfl rfl hst (Rat_Mod hst.agree h109 hmm (by omega) (k := 2000) (znv.mono (by decide)) (zm.mono (by decide)) (by decide)) (fun _ _ h hle => St.older h (Mem.le.trans hlesum hle) (by simp) hst0.ext hst0.le) ?_
        clear hst
        intro v128 g128 w128 hst hle128 hcs128 hp128
        replace hlesum := Mem.le.trans hlesum hle128
        replace hT := hT.mono hle128
        replace h6 := h6.mono hle128
        replace hM := hM.mono hle128
        replace h82 := h82.mono hle128
        replace hn := hn.mono hle128
        replace hd := hd.mono hle128
        replace hmm := hmm.mono hle128
        replace h100 := h100.mono hle128
        replace h108 := h108.mono hle128
        replace h109 := h109.mono hle128
        obtain ⟨p111, q111, a111, rfl, h111⟩ := hp128
        refine stepE_call_guard rfl rfl rfl rfl rfl rfl rfl rfl rfl hst (Rat_Zero hst.agree h111) (fun _ _ h hle => St.older h (Mem.le.trans hlesum hle) (by simp) hst0.ext hst0.le) ?_
        clear hst
        intro v129 g129 w129 hst hle129 hcs129 hp129
        replace hlesum := Mem.le.trans hlesum hle129
        replace hT := hT.mono hle129
        replace h6 := h6.mono hle129
        replace hM := hM.mono hle129
        replace h82 := h82.mono hle129
        replace hn := hn.mono hle129
        replace hd := hd.mono hle129
        replace hmm := hmm.mono hle129
        replace h100 := h100.mono hle129
        replace h108 := h108.mono hle129
        replace h109 := h109.mono hle129
        replace h111 := h111.mono hle129
        obtain rfl := hp129
        refine stepE_guard rfl rfl rfl rfl rfl rfl rfl (does_not rfl rfl) ?_
        refine stepE_d rfl rfl rfl rfl (does_pick_false rfl rfl rfl) ?_
        refine stepE_tail ?_
        refine znt ?_
        refine cp_cond rfl ?_ ?_
        intro c114
        have hng : ¬ (rcIt m v i).Good m := fun h => (of_decide_eq_false (by simpa using c114) : ¬ (((r.num - v * (r.den : Int)) % m : Int) : Rat) = 0) (by rw [(hgi.2 h).2.2.2.2]; rfl)
        subst hve hme
        refine zsr ?_
        refine zA rfl hst rfl ?_
        refine zA rfl hst rfl ?_
        refine zn5 ?_
        refine ret2 rfl rfl rfl hst ?_
        first
        | exact ⟨_, _, rfl, rec_bad hno⟩
        | exact ⟨_, _, rfl, rec_none hin hok.no hfit hng⟩
        intro c114
        have g4_ : (r.num - v * (r.den : Int)) % m = 0 := Rat.intCast_inj.1 (of_decide_eq_true (by simpa using c114) : (((r.num - v * (r.den : Int)) % m : Int) : Rat) = 0)
        have hgood : (rcIt m v i).Good m := hgi.1 ⟨ht0, g1_, g2_, g3_, g4_⟩
        refine zk4 ?_
        refine stepK_d rfl rfl rfl hst (does_load_ownN 1 rfl (by kernel_rfl) zf31 rfl rfl rfl) ?_
        refine stepK_call rfl rfl rfl rfl rfl hst (Rat_String hst.agree hT h82 (zr.fit (by decide))) ?_
        clear hst
        intro v130 g130 w130 hst hle130 hcs130 hp130
        replace hT := hT.mono hle130
        replace h6 := h6.mono hle130
        replace hM := hM.mono hle130
        replace h82 := h82.mono hle130
        replace hn := hn.mono hle130
        replace hd := hd.mono hle130
        replace hmm := hmm.mono hle130
        replace h100 := h100.mono hle130
        replace h108 := h108.mono hle130
        replace h109 := h109.mono hle130
        replace h111 := h111.mono hle130
        obtain rfl := hp130
        refine zA rfl hst rfl ?_
        refine zA rfl hst rfl ?_
        refine znt ?_
        refine cp_ret ?_
        refine ret2 rfl rfl rfl hst ?_
        subst hve hme
        rw [hr]
        exact ⟨_, _, rfl, rec_some hin hok.no hfit hgood⟩

end Go.Proofs.YtcjhnkmoloiepaaDoor
