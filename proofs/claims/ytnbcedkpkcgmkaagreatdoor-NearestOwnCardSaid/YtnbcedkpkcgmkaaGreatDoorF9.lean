/- The walks of functions, printed by a program of this session out of its specs. -/
import Derived.Test.YtnbcedkpkcgmkaaGreatDoorF8
import Derived.Test.YtnbcedkpkcgmkaaGreatDoorProg
import Derived.Test.YtnbcedkpkcgmkaaGreatDoorF0
namespace Go.Proofs.YtnbcedkpkcgmkaaGreatDoor
open Go Go.RowKit Go.Proofs.Vc
set_option linter.unusedVariables false
set_option linter.unusedSimpArgs false

set_option maxHeartbeats 1000000 in
theorem snum_RAdd {g : Mem} {w : World} (hag : Agree g w) {na nb : Bool} {A B : Option Addr} {n c m d : Nat} {r : Rat} (ha : IsQ g na A n nb B m r) {na2 nb2 : Bool} {A2 B2 : Option Addr} {n2 c2 m2 d2 : Nat} {x : Rat} (hb : IsQ g na2 A2 n2 nb2 B2 m2 x) (hfa : FitH r) (hfb : FitH x) :
    CallTo Tryz.prog 68 #[.agg #[.bool na, .slice A n c, .bool nb, .slice B m d], .agg #[.bool na2, .slice A2 n2 c2, .bool nb2, .slice B2 m2 d2]] w (Ret w g fun v g => ∃ na A n c nb B m d, v = .agg #[.bool na, .slice A n c, .bool nb, .slice B m d] ∧ IsQ g na A n nb B m (r + x)) := by
  refine CallTo.enter (vs := [.agg #[.bool na, .slice A n c, .bool nb, .slice B m d], .agg #[.bool na2, .slice A2 n2 c2, .bool nb2, .slice B2 m2 d2]]) zf113 (by kernel_rfl) rfl rfl rfl ?_
  have hst := St.init hag
  have l1 := ha.1.len hfa.1
  have l2 := hb.1.len hfb.1
  refine zsr ?_
  refine stepK_box rfl rfl rfl rfl rfl rfl hst ?_
  clear hst
  intro b1 w1 hst
  refine stepK_box rfl rfl rfl rfl rfl rfl hst ?_
  clear hst
  intro b2 w2 hst
  refine stepK_alloc rfl rfl rfl rfl zf107 rfl hst ?_
  clear hst
  intro b3 w3 hst
  refine znq ?_
  refine zsr ?_
  refine stepK_d rfl rfl rfl hst (does_fieldAddr rfl zf103 rfl) ?_
  refine stepK_d rfl rfl rfl hst (does_fieldAddr rfl zf93 rfl) ?_
  refine stepK_d rfl rfl rfl hst (does_load_ownL 0 rfl (by kernel_rfl) rfl rfl rfl) ?_
  refine stepK_d rfl rfl rfl hst (does_len_slice rfl zf76 rfl) ?_
  refine stepK_d rfl rfl rfl hst (does_eql rfl rfl rfl) ?_
  refine zM rfl hst rfl ?_
  refine wpK_split (t := 10) rfl ?_ ?_
  intro s10
  refine stepK_guard rfl rfl rfl rfl rfl rfl hst (does_fieldAddr rfl zf103 rfl) ?_
  refine stepK_guard rfl rfl rfl rfl rfl rfl hst (does_fieldAddr rfl zf93 rfl) ?_
  refine stepK_guard rfl rfl rfl rfl rfl rfl hst (does_load_ownL 1 rfl (by kernel_rfl) rfl rfl rfl) ?_
  refine stepK_guard rfl rfl rfl rfl rfl rfl hst (does_len_slice rfl zf76 rfl) ?_
  refine stepK_guard rfl rfl rfl rfl rfl rfl hst (does_eql rfl rfl rfl) ?_
  refine stepK_d rfl rfl rfl hst (does_pick_true rfl rfl rfl) ?_
  refine znt ?_
  refine cp_if rfl ?_ ?_
  intro c16
  refine zsr ?_
  refine stepK_d rfl rfl rfl hst (does_fieldAddr rfl zf110 rfl) ?_
  refine stepK_d rfl rfl rfl hst (does_load_ownN 0 rfl (by kernel_rfl) zf89 rfl rfl rfl) ?_
  refine stepK_d rfl rfl rfl hst (does_fieldAddr rfl zf110 rfl) ?_
  refine stepK_d rfl rfl rfl hst (does_load_ownN 1 rfl (by kernel_rfl) zf89 rfl rfl rfl) ?_
  refine stepK_call rfl rfl rfl rfl rfl hst (snum_Add hst.agree ha.1 hb.1 (by omega) (by omega)) ?_
  clear hst
  intro v4 g4 w4 hst hle4 hcs4 hp4
  replace ha := ha.mono hle4
  replace hb := hb.mono hle4
  obtain ⟨ng1, Az, nz, cz, rfl, hz⟩ := hp4
  refine stepK_d rfl rfl rfl hst (does_build rfl zf108 rfl rfl) ?_
  refine stepK_store 2 rfl rfl rfl rfl rfl rfl zf105 rfl rfl hst rfl (by first | (simp [uN_length]; omega) | simp) ?_
  clear hst
  intro w5 hst
  simp only [zL, splice, Nat.reduceAdd] at hst
  refine zn5 ?_
  refine ret1c (k := 2) rfl rfl (by kernel_rfl) (by kernel_rfl) rfl hst rfl ?_
  exact ⟨_, _, _, _, _, _, _, _, rfl, (IsQ.int hz).to (add_ints (ha.den1.1 (by omega)) (hb.den1.1 (by omega)))⟩
  intro c16
  refine cp_skip ?_
  refine cp_then ?_
  refine cp_seq ?_
  refine cp_drawn (by kernel_rfl) 17 [(0, true), (1, true), (2, true), (5, true), (6, true), (7, true), (11, true), (13, true), (3, false), (4, false), (8, false), (9, false), (10, false), (12, false), (14, false), (15, false), (16, false)] _ rfl (by kernel_rfl) (by kernel_rfl) (by kernel_rfl) (fun _ _ _ _ _ h => h) _ (hst.drew) ?_
  have hst0 := hst.drew
  clear hst
  have hst := hst0
  refine stepD_d rfl rfl rfl rfl (does_fieldAddr rfl zf110 rfl) ?_
  refine stepD_d rfl rfl rfl rfl (does_load_ownN 0 rfl (by kernel_rfl) zf89 rfl rfl rfl) ?_
  refine stepD_d rfl rfl rfl rfl (does_load_ownN 1 rfl (by kernel_rfl) zf105 rfl rfl rfl) ?_
  refine stepD_d rfl rfl rfl rfl (does_fieldAddr rfl zf110 rfl) ?_
  refine stepD_d rfl rfl rfl rfl (does_load_ownN 1 rfl (by kernel_rfl) zf89 rfl rfl rfl) ?_
  refine stepD_d rfl rfl rfl rfl (does_load_ownN 0 rfl (by kernel_rfl) zf105 rfl rfl rfl) ?_
  refine stepD_d rfl rfl rfl rfl (does_load_ownN 0 rfl (by kernel_rfl) zf105 rfl rfl rfl) ?_
  refine stepD_d rfl rfl rfl rfl (does_load_ownN 1 rfl (by kernel_rfl) zf105 rfl rfl rfl) ?_
  refine stepD_call rfl rfl rfl rfl rfl rfl hst (snum_den hst.agree hb) (fun _ _ h hle => St.older h hle (by simp) hst0.ext hst0.le) ?_
  clear hst
  intro v6 g6 w6 hst hle6 hcs6 hp6
  have hlesum := hle6
  replace ha := ha.mono hle6
  replace hb := hb.mono hle6
  obtain ⟨nd1, D1, dn1, dc1, rfl, hd1⟩ := hp6
  have l3 := hd1.len hfb.2
  refine stepD_call rfl rfl rfl rfl rfl rfl hst (snum_Mul hst.agree ha.1 hd1 (by omega) (by omega)) (fun _ _ h hle => St.older h (Mem.le.trans hlesum hle) (by simp) hst0.ext hst0.le) ?_
  clear hst
  intro v7 g7 w7 hst hle7 hcs7 hp7
  replace hlesum := Mem.le.trans hlesum hle7
  replace ha := ha.mono hle7
  replace hb := hb.mono hle7
  replace hd1 := hd1.mono hle7
  obtain ⟨nd2, D2, dn2, dc2, rfl, hd2⟩ := hp7
  have l4 := hZmul hd2 hfa.1 hfb.2
  refine stepD_call rfl rfl rfl rfl rfl rfl hst (snum_den hst.agree ha) (fun _ _ h hle => St.older h (Mem.le.trans hlesum hle) (by simp) hst0.ext hst0.le) ?_
  clear hst
  intro v8 g8 w8 hst hle8 hcs8 hp8
  replace hlesum := Mem.le.trans hlesum hle8
  replace ha := ha.mono hle8
  replace hb := hb.mono hle8
  replace hd1 := hd1.mono hle8
  replace hd2 := hd2.mono hle8
  obtain ⟨nd3, D3, dn3, dc3, rfl, hd3⟩ := hp8
  have l5 := hd3.len hfa.2
  refine stepD_call rfl rfl rfl rfl rfl rfl hst (snum_Mul hst.agree hb.1 hd3 (by omega) (by omega)) (fun _ _ h hle => St.older h (Mem.le.trans hlesum hle) (by simp) hst0.ext hst0.le) ?_
  clear hst
  intro v9 g9 w9 hst hle9 hcs9 hp9
  replace hlesum := Mem.le.trans hlesum hle9
  replace ha := ha.mono hle9
  replace hb := hb.mono hle9
  replace hd1 := hd1.mono hle9
  replace hd2 := hd2.mono hle9
  replace hd3 := hd3.mono hle9
  obtain ⟨nd4, D4, dn4, dc4, rfl, hd4⟩ := hp9
  have l6 := hZmul hd4 hfb.1 hfa.2
  refine stepD_call rfl rfl rfl rfl rfl rfl hst (snum_Add hst.agree hd2 hd4 (by omega) (by omega)) (fun _ _ h hle => St.older h (Mem.le.trans hlesum hle) (by simp) hst0.ext hst0.le) ?_
  clear hst
  intro v10 g10 w10 hst hle10 hcs10 hp10
  replace hlesum := Mem.le.trans hlesum hle10
  replace ha := ha.mono hle10
  replace hb := hb.mono hle10
  replace hd1 := hd1.mono hle10
  replace hd2 := hd2.mono hle10
  replace hd3 := hd3.mono hle10
  replace hd4 := hd4.mono hle10
  obtain ⟨nd5, D5, dn5, dc5, rfl, hd5⟩ := hp10
  have l7 := hZsum hd5 hfa.1 hfb.2 hfb.1 hfa.2
  refine stepD_call rfl rfl rfl rfl rfl rfl hst (snum_den hst.agree ha) (fun _ _ h hle => St.older h (Mem.le.trans hlesum hle) (by simp) hst0.ext hst0.le) ?_
  clear hst
  intro v11 g11 w11 hst hle11 hcs11 hp11
  replace hlesum := Mem.le.trans hlesum hle11
  replace ha := ha.mono hle11
  replace hb := hb.mono hle11
  replace hd1 := hd1.mono hle11
  replace hd2 := hd2.mono hle11
  replace hd3 := hd3.mono hle11
  replace hd4 := hd4.mono hle11
  replace hd5 := hd5.mono hle11
  obtain ⟨nd6, D6, dn6, dc6, rfl, hd6⟩ := hp11
  have l8 := hd6.len hfa.2
  refine stepD_call rfl rfl rfl rfl rfl rfl hst (snum_den hst.agree hb) (fun _ _ h hle => St.older h (Mem.le.trans hlesum hle) (by simp) hst0.ext hst0.le) ?_
  clear hst
  intro v12 g12 w12 hst hle12 hcs12 hp12
  replace hlesum := Mem.le.trans hlesum hle12
  replace ha := ha.mono hle12
  replace hb := hb.mono hle12
  replace hd1 := hd1.mono hle12
  replace hd2 := hd2.mono hle12
  replace hd3 := hd3.mono hle12
  replace hd4 := hd4.mono hle12
  replace hd5 := hd5.mono hle12
  replace hd6 := hd6.mono hle12
  obtain ⟨nd7, D7, dn7, dc7, rfl, hd7⟩ := hp12
  have l9 := hd7.len hfb.2
  refine stepD_call rfl rfl rfl rfl rfl rfl hst (snum_Mul hst.agree hd6 hd7 (by omega) (by omega)) (fun _ _ h hle => St.older h (Mem.le.trans hlesum hle) (by simp) hst0.ext hst0.le) ?_
  clear hst
  intro v13 g13 w13 hst hle13 hcs13 hp13
  replace hlesum := Mem.le.trans hlesum hle13
  replace ha := ha.mono hle13
  replace hb := hb.mono hle13
  replace hd1 := hd1.mono hle13
  replace hd2 := hd2.mono hle13
  replace hd3 := hd3.mono hle13
  replace hd4 := hd4.mono hle13
  replace hd5 := hd5.mono hle13
  replace hd6 := hd6.mono hle13
  replace hd7 := hd7.mono hle13
  obtain ⟨nd8, D8, dn8, dc8, rfl, hd8⟩ := hp13
  have l10 := hZmul hd8 hfa.2 hfb.2
  refine stepD_call rfl rfl rfl rfl rfl rfl hst (snum_Frac hst.agree hd5 hd8 (den_mul_ne r x) (by omega) (by omega)) (fun _ _ h hle => St.older h (Mem.le.trans hlesum hle) (by simp) hst0.ext hst0.le) ?_
  clear hst
  intro v14 g14 w14 hst hle14 hcs14 hp14
  replace hlesum := Mem.le.trans hlesum hle14
  replace ha := ha.mono hle14
  replace hb := hb.mono hle14
  replace hd1 := hd1.mono hle14
  replace hd2 := hd2.mono hle14
  replace hd3 := hd3.mono hle14
  replace hd4 := hd4.mono hle14
  replace hd5 := hd5.mono hle14
  replace hd6 := hd6.mono hle14
  replace hd7 := hd7.mono hle14
  replace hd8 := hd8.mono hle14
  obtain ⟨_, _, _, _, _, _, _, _, rfl, hq9⟩ := hp14
  refine stepD_tail ?_
  refine stepK_store 2 rfl rfl rfl rfl rfl rfl zf105 rfl rfl hst rfl (by first | (simp [uN_length]; omega) | simp) ?_
  clear hst
  intro w15 hst
  simp only [zL, splice, Nat.reduceAdd] at hst
  refine znt ?_
  refine cp_ret ?_
  refine ret1c (k := 2) rfl rfl (by kernel_rfl) (by kernel_rfl) rfl hst rfl ?_
  exact ⟨_, _, _, _, _, _, _, _, rfl, hq9.to (add_frac r x)⟩
  intro s10
  refine stepK_pass rfl rfl rfl rfl rfl rfl rfl ?_
  refine stepK_pass rfl rfl rfl rfl rfl rfl rfl ?_
  refine stepK_pass rfl rfl rfl rfl rfl rfl rfl ?_
  refine stepK_pass rfl rfl rfl rfl rfl rfl rfl ?_
  refine stepK_pass rfl rfl rfl rfl rfl rfl rfl ?_
  refine stepK_d rfl rfl rfl hst (does_pick_false rfl rfl rfl) ?_
  refine znt ?_
  refine cp_cond_false rfl ?_
  refine cp_skip ?_
  refine cp_then ?_
  refine cp_seq ?_
  refine cp_drawn (by kernel_rfl) 17 [(0, true), (1, true), (2, true), (5, true), (6, true), (7, true), (11, true), (13, true), (3, false), (4, false), (8, false), (9, false), (10, false), (12, false), (14, false), (15, false), (16, false)] _ rfl (by kernel_rfl) (by kernel_rfl) (by kernel_rfl) (fun _ _ _ _ _ h => h) _ (hst.drew) ?_
  have hst0 := hst.drew
  clear hst
  have hst := hst0
  refine stepD_d rfl rfl rfl rfl (does_fieldAddr rfl zf110 rfl) ?_
  refine stepD_d rfl rfl rfl rfl (does_load_ownN 0 rfl (by kernel_rfl) zf89 rfl rfl rfl) ?_
  refine stepD_d rfl rfl rfl rfl (does_load_ownN 1 rfl (by kernel_rfl) zf105 rfl rfl rfl) ?_
  refine stepD_d rfl rfl rfl rfl (does_fieldAddr rfl zf110 rfl) ?_
  refine stepD_d rfl rfl rfl rfl (does_load_ownN 1 rfl (by kernel_rfl) zf89 rfl rfl rfl) ?_
  refine stepD_d rfl rfl rfl rfl (does_load_ownN 0 rfl (by kernel_rfl) zf105 rfl rfl rfl) ?_
  refine stepD_d rfl rfl rfl rfl (does_load_ownN 0 rfl (by kernel_rfl) zf105 rfl rfl rfl) ?_
  refine stepD_d rfl rfl rfl rfl (does_load_ownN 1 rfl (by kernel_rfl) zf105 rfl rfl rfl) ?_
  refine stepD_call rfl rfl rfl rfl rfl rfl hst (snum_den hst.agree hb) (fun _ _ h hle => St.older h hle (by simp) hst0.ext hst0.le) ?_
  clear hst
  intro v16 g16 w16 hst hle16 hcs16 hp16
  have hlesum := hle16
  replace ha := ha.mono hle16
  replace hb := hb.mono hle16
  obtain ⟨nd1, D1, dn1, dc1, rfl, hd1⟩ := hp16
  have l3 := hd1.len hfb.2
  refine stepD_call rfl rfl rfl rfl rfl rfl hst (snum_Mul hst.agree ha.1 hd1 (by omega) (by omega)) (fun _ _ h hle => St.older h (Mem.le.trans hlesum hle) (by simp) hst0.ext hst0.le) ?_
  clear hst
  intro v17 g17 w17 hst hle17 hcs17 hp17
  replace hlesum := Mem.le.trans hlesum hle17
  replace ha := ha.mono hle17
  replace hb := hb.mono hle17
  replace hd1 := hd1.mono hle17
  obtain ⟨nd2, D2, dn2, dc2, rfl, hd2⟩ := hp17
  have l4 := hZmul hd2 hfa.1 hfb.2
  refine stepD_call rfl rfl rfl rfl rfl rfl hst (snum_den hst.agree ha) (fun _ _ h hle => St.older h (Mem.le.trans hlesum hle) (by simp) hst0.ext hst0.le) ?_
  clear hst
  intro v18 g18 w18 hst hle18 hcs18 hp18
  replace hlesum := Mem.le.trans hlesum hle18
  replace ha := ha.mono hle18
  replace hb := hb.mono hle18
  replace hd1 := hd1.mono hle18
  replace hd2 := hd2.mono hle18
  obtain ⟨nd3, D3, dn3, dc3, rfl, hd3⟩ := hp18
  have l5 := hd3.len hfa.2
  refine stepD_call rfl rfl rfl rfl rfl rfl hst (snum_Mul hst.agree hb.1 hd3 (by omega) (by omega)) (fun _ _ h hle => St.older h (Mem.le.trans hlesum hle) (by simp) hst0.ext hst0.le) ?_
  clear hst
  intro v19 g19 w19 hst hle19 hcs19 hp19
  replace hlesum := Mem.le.trans hlesum hle19
  replace ha := ha.mono hle19
  replace hb := hb.mono hle19
  replace hd1 := hd1.mono hle19
  replace hd2 := hd2.mono hle19
  replace hd3 := hd3.mono hle19
  obtain ⟨nd4, D4, dn4, dc4, rfl, hd4⟩ := hp19
  have l6 := hZmul hd4 hfb.1 hfa.2
  refine stepD_call rfl rfl rfl rfl rfl rfl hst (snum_Add hst.agree hd2 hd4 (by omega) (by omega)) (fun _ _ h hle => St.older h (Mem.le.trans hlesum hle) (by simp) hst0.ext hst0.le) ?_
  clear hst
  intro v20 g20 w20 hst hle20 hcs20 hp20
  replace hlesum := Mem.le.trans hlesum hle20
  replace ha := ha.mono hle20
  replace hb := hb.mono hle20
  replace hd1 := hd1.mono hle20
  replace hd2 := hd2.mono hle20
  replace hd3 := hd3.mono hle20
  replace hd4 := hd4.mono hle20
  obtain ⟨nd5, D5, dn5, dc5, rfl, hd5⟩ := hp20
  have l7 := hZsum hd5 hfa.1 hfb.2 hfb.1 hfa.2
  refine stepD_call rfl rfl rfl rfl rfl rfl hst (snum_den hst.agree ha) (fun _ _ h hle => St.older h (Mem.le.trans hlesum hle) (by simp) hst0.ext hst0.le) ?_
  clear hst
  intro v21 g21 w21 hst hle21 hcs21 hp21
  replace hlesum := Mem.le.trans hlesum hle21
  replace ha := ha.mono hle21
  replace hb := hb.mono hle21
  replace hd1 := hd1.mono hle21
  replace hd2 := hd2.mono hle21
  replace hd3 := hd3.mono hle21
  replace hd4 := hd4.mono hle21
  replace hd5 := hd5.mono hle21
  obtain ⟨nd6, D6, dn6, dc6, rfl, hd6⟩ := hp21
  have l8 := hd6.len hfa.2
  refine stepD_call rfl rfl rfl rfl rfl rfl hst (snum_den hst.agree hb) (fun _ _ h hle => St.older h (Mem.le.trans hlesum hle) (by simp) hst0.ext hst0.le) ?_
  clear hst
  intro v22 g22 w22 hst hle22 hcs22 hp22
  replace hlesum := Mem.le.trans hlesum hle22
  replace ha := ha.mono hle22
  replace hb := hb.mono hle22
  replace hd1 := hd1.mono hle22
  replace hd2 := hd2.mono hle22
  replace hd3 := hd3.mono hle22
  replace hd4 := hd4.mono hle22
  replace hd5 := hd5.mono hle22
  replace hd6 := hd6.mono hle22
  obtain ⟨nd7, D7, dn7, dc7, rfl, hd7⟩ := hp22
  have l9 := hd7.len hfb.2
  refine stepD_call rfl rfl rfl rfl rfl rfl hst (snum_Mul hst.agree hd6 hd7 (by omega) (by omega)) (fun _ _ h hle => St.older h (Mem.le.trans hlesum hle) (by simp) hst0.ext hst0.le) ?_
  clear hst
  intro v23 g23 w23 hst hle23 hcs23 hp23
  replace hlesum := Mem.le.trans hlesum hle23
  replace ha := ha.mono hle23
  replace hb := hb.mono hle23
  replace hd1 := hd1.mono hle23
  replace hd2 := hd2.mono hle23
  replace hd3 := hd3.mono hle23
  replace hd4 := hd4.mono hle23
  replace hd5 := hd5.mono hle23
  replace hd6 := hd6.mono hle23
  replace hd7 := hd7.mono hle23
  obtain ⟨nd8, D8, dn8, dc8, rfl, hd8⟩ := hp23
  have l10 := hZmul hd8 hfa.2 hfb.2
  refine stepD_call rfl rfl rfl rfl rfl rfl hst (snum_Frac hst.agree hd5 hd8 (den_mul_ne r x) (by omega) (by omega)) (fun _ _ h hle => St.older h (Mem.le.trans hlesum hle) (by simp) hst0.ext hst0.le) ?_
  clear hst
  intro v24 g24 w24 hst hle24 hcs24 hp24
  replace hlesum := Mem.le.trans hlesum hle24
  replace ha := ha.mono hle24
  replace hb := hb.mono hle24
  replace hd1 := hd1.mono hle24
  replace hd2 := hd2.mono hle24
  replace hd3 := hd3.mono hle24
  replace hd4 := hd4.mono hle24
  replace hd5 := hd5.mono hle24
  replace hd6 := hd6.mono hle24
  replace hd7 := hd7.mono hle24
  replace hd8 := hd8.mono hle24
  obtain ⟨_, _, _, _, _, _, _, _, rfl, hq9⟩ := hp24
  refine stepD_tail ?_
  refine stepK_store 2 rfl rfl rfl rfl rfl rfl zf105 rfl rfl hst rfl (by first | (simp [uN_length]; omega) | simp) ?_
  clear hst
  intro w25 hst
  simp only [zL, splice, Nat.reduceAdd] at hst
  refine znt ?_
  refine cp_ret ?_
  refine ret1c (k := 2) rfl rfl (by kernel_rfl) (by kernel_rfl) rfl hst rfl ?_
  exact ⟨_, _, _, _, _, _, _, _, rfl, hq9.to (add_frac r x)⟩

set_option maxHeartbeats 1000000 in
theorem snum_RSub {g : Mem} {w : World} (hag : Agree g w) {na nb : Bool} {A B : Option Addr} {n c m d : Nat} {r : Rat} (ha : IsQ g na A n nb B m r) {na2 nb2 : Bool} {A2 B2 : Option Addr} {n2 c2 m2 d2 : Nat} {x : Rat} (hb : IsQ g na2 A2 n2 nb2 B2 m2 x) (hfa : FitH r) (hfb : FitH x) :
    CallTo Tryz.prog 53 #[.agg #[.bool na, .slice A n c, .bool nb, .slice B m d], .agg #[.bool na2, .slice A2 n2 c2, .bool nb2, .slice B2 m2 d2]] w (Ret w g fun v g => ∃ na A n c nb B m d, v = .agg #[.bool na, .slice A n c, .bool nb, .slice B m d] ∧ IsQ g na A n nb B m (r - x)) := by
  refine CallTo.enter (vs := [.agg #[.bool na, .slice A n c, .bool nb, .slice B m d], .agg #[.bool na2, .slice A2 n2 c2, .bool nb2, .slice B2 m2 d2]]) zf114 (by kernel_rfl) rfl rfl rfl ?_
  have hst := St.init hag
  refine zsr ?_
  refine stepK_box rfl rfl rfl rfl rfl rfl hst ?_
  clear hst
  intro b1 w1 hst
  refine stepK_box rfl rfl rfl rfl rfl rfl hst ?_
  clear hst
  intro b2 w2 hst
  refine stepK_alloc rfl rfl rfl rfl zf107 rfl hst ?_
  clear hst
  intro b3 w3 hst
  refine znq ?_
  refine cp_drawn (by kernel_rfl) 4 [(0, true), (1, true), (2, false), (3, false)] _ rfl (by kernel_rfl) (by kernel_rfl) (by kernel_rfl) (fun _ _ _ _ _ h => h) _ (hst.drew) ?_
  have hst0 := hst.drew
  clear hst
  have hst := hst0
  refine stepD_d rfl rfl rfl rfl (does_load_ownN 0 rfl (by kernel_rfl) zf105 rfl rfl rfl) ?_
  refine stepD_d rfl rfl rfl rfl (does_load_ownN 1 rfl (by kernel_rfl) zf105 rfl rfl rfl) ?_
  refine stepD_call rfl rfl rfl rfl rfl rfl hst (snum_RNeg hst.agree hb) (fun _ _ h hle => St.older h hle (by simp) hst0.ext hst0.le) ?_
  clear hst
  intro v4 g4 w4 hst hle4 hcs4 hp4
  have hlesum := hle4
  replace ha := ha.mono hle4
  replace hb := hb.mono hle4
  obtain ⟨_, _, _, _, _, _, _, _, rfl, h7⟩ := hp4
  refine stepD_call rfl rfl rfl rfl rfl rfl hst (snum_RAdd hst.agree ha h7 hfa hfb.neg) (fun _ _ h hle => St.older h (Mem.le.trans hlesum hle) (by simp) hst0.ext hst0.le) ?_
  clear hst
  intro v5 g5 w5 hst hle5 hcs5 hp5
  replace hlesum := Mem.le.trans hlesum hle5
  replace ha := ha.mono hle5
  replace hb := hb.mono hle5
  replace h7 := h7.mono hle5
  obtain ⟨_, _, _, _, _, _, _, _, rfl, h8⟩ := hp5
  refine stepD_tail ?_
  refine stepK_store 2 rfl rfl rfl rfl rfl rfl zf105 rfl rfl hst rfl (by first | (simp [uN_length]; omega) | simp) ?_
  clear hst
  intro w6 hst
  simp only [zL, splice, Nat.reduceAdd] at hst
  refine znt ?_
  refine cp_ret ?_
  refine ret1c (k := 2) rfl rfl (by kernel_rfl) (by kernel_rfl) rfl hst rfl ?_
  exact ⟨_, _, _, _, _, _, _, _, rfl, h8.to (Rat.sub_eq_add_neg r x).symm⟩

set_option maxHeartbeats 1000000 in
theorem snum_RMul {g : Mem} {w : World} (hag : Agree g w) {na nb : Bool} {A B : Option Addr} {n c m d : Nat} {r : Rat} (ha : IsQ g na A n nb B m r) {na2 nb2 : Bool} {A2 B2 : Option Addr} {n2 c2 m2 d2 : Nat} {x : Rat} (hb : IsQ g na2 A2 n2 nb2 B2 m2 x) (hfa : FitH r) (hfb : FitH x) :
    CallTo Tryz.prog 51 #[.agg #[.bool na, .slice A n c, .bool nb, .slice B m d], .agg #[.bool na2, .slice A2 n2 c2, .bool nb2, .slice B2 m2 d2]] w (Ret w g fun v g => ∃ na A n c nb B m d, v = .agg #[.bool na, .slice A n c, .bool nb, .slice B m d] ∧ IsQ g na A n nb B m (r * x)) := by
  refine CallTo.enter (vs := [.agg #[.bool na, .slice A n c, .bool nb, .slice B m d], .agg #[.bool na2, .slice A2 n2 c2, .bool nb2, .slice B2 m2 d2]]) zf115 (by kernel_rfl) rfl rfl rfl ?_
  have hst := St.init hag
  have l1 := ha.1.len hfa.1
  have l2 := hb.1.len hfb.1
  refine zsr ?_
  refine stepK_box rfl rfl rfl rfl rfl rfl hst ?_
  clear hst
  intro b1 w1 hst
  refine stepK_box rfl rfl rfl rfl rfl rfl hst ?_
  clear hst
  intro b2 w2 hst
  refine stepK_alloc rfl rfl rfl rfl zf107 rfl hst ?_
  clear hst
  intro b3 w3 hst
  refine znq ?_
  refine zsr ?_
  refine stepK_d rfl rfl rfl hst (does_fieldAddr rfl zf103 rfl) ?_
  refine stepK_d rfl rfl rfl hst (does_fieldAddr rfl zf93 rfl) ?_
  refine stepK_d rfl rfl rfl hst (does_load_ownL 0 rfl (by kernel_rfl) rfl rfl rfl) ?_
  refine stepK_d rfl rfl rfl hst (does_len_slice rfl zf76 rfl) ?_
  refine stepK_d rfl rfl rfl hst (does_eql rfl rfl rfl) ?_
  refine zM rfl hst rfl ?_
  refine wpK_split (t := 10) rfl ?_ ?_
  intro s10
  refine stepK_guard rfl rfl rfl rfl rfl rfl hst (does_fieldAddr rfl zf103 rfl) ?_
  refine stepK_guard rfl rfl rfl rfl rfl rfl hst (does_fieldAddr rfl zf93 rfl) ?_
  refine stepK_guard rfl rfl rfl rfl rfl rfl hst (does_load_ownL 1 rfl (by kernel_rfl) rfl rfl rfl) ?_
  refine stepK_guard rfl rfl rfl rfl rfl rfl hst (does_len_slice rfl zf76 rfl) ?_
  refine stepK_guard rfl rfl rfl rfl rfl rfl hst (does_eql rfl rfl rfl) ?_
  refine stepK_d rfl rfl rfl hst (does_pick_true rfl rfl rfl) ?_
  refine znt ?_
  refine cp_if rfl ?_ ?_
  intro c16
  refine zsr ?_
  refine stepK_d rfl rfl rfl hst (does_fieldAddr rfl zf110 rfl) ?_
  refine stepK_d rfl rfl rfl hst (does_load_ownN 0 rfl (by kernel_rfl) zf89 rfl rfl rfl) ?_
  refine stepK_d rfl rfl rfl hst (does_fieldAddr rfl zf110 rfl) ?_
  refine stepK_d rfl rfl rfl hst (does_load_ownN 1 rfl (by kernel_rfl) zf89 rfl rfl rfl) ?_
  refine stepK_call rfl rfl rfl rfl rfl hst (snum_Mul hst.agree ha.1 hb.1 (by omega) (by omega)) ?_
  clear hst
  intro v4 g4 w4 hst hle4 hcs4 hp4
  replace ha := ha.mono hle4
  replace hb := hb.mono hle4
  obtain ⟨ng1, Az, nz, cz, rfl, hz⟩ := hp4
  refine stepK_d rfl rfl rfl hst (does_build rfl zf108 rfl rfl) ?_
  refine stepK_store 2 rfl rfl rfl rfl rfl rfl zf105 rfl rfl hst rfl (by first | (simp [uN_length]; omega) | simp) ?_
  clear hst
  intro w5 hst
  simp only [zL, splice, Nat.reduceAdd] at hst
  refine zn5 ?_
  refine ret1c (k := 2) rfl rfl (by kernel_rfl) (by kernel_rfl) rfl hst rfl ?_
  exact ⟨_, _, _, _, _, _, _, _, rfl, (IsQ.int hz).to (mul_ints (ha.den1.1 (by omega)) (hb.den1.1 (by omega)))⟩
  intro c16
  refine cp_skip ?_
  refine cp_then ?_
  refine cp_seq ?_
  refine cp_drawn (by kernel_rfl) 11 [(0, true), (1, true), (2, true), (3, true), (5, true), (7, true), (4, false), (6, false), (8, false), (9, false), (10, false)] _ rfl (by kernel_rfl) (by kernel_rfl) (by kernel_rfl) (fun _ _ _ _ _ h => h) _ (hst.drew) ?_
  have hst0 := hst.drew
  clear hst
  have hst := hst0
  refine stepD_d rfl rfl rfl rfl (does_fieldAddr rfl zf110 rfl) ?_
  refine stepD_d rfl rfl rfl rfl (does_load_ownN 0 rfl (by kernel_rfl) zf89 rfl rfl rfl) ?_
  refine stepD_d rfl rfl rfl rfl (does_fieldAddr rfl zf110 rfl) ?_
  refine stepD_d rfl rfl rfl rfl (does_load_ownN 1 rfl (by kernel_rfl) zf89 rfl rfl rfl) ?_
  refine stepD_d rfl rfl rfl rfl (does_load_ownN 0 rfl (by kernel_rfl) zf105 rfl rfl rfl) ?_
  refine stepD_d rfl rfl rfl rfl (does_load_ownN 1 rfl (by kernel_rfl) zf105 rfl rfl rfl) ?_
  refine stepD_call rfl rfl rfl rfl rfl rfl hst (snum_Mul hst.agree ha.1 hb.1 (by omega) (by omega)) (fun _ _ h hle => St.older h hle (by simp) hst0.ext hst0.le) ?_
  clear hst
  intro v6 g6 w6 hst hle6 hcs6 hp6
  have hlesum := hle6
  replace ha := ha.mono hle6
  replace hb := hb.mono hle6
  obtain ⟨nd2, D2, dn2, dc2, rfl, hd2⟩ := hp6
  have l4 := hZmul hd2 hfa.1 hfb.1
  refine stepD_call rfl rfl rfl rfl rfl rfl hst (snum_den hst.agree ha) (fun _ _ h hle => St.older h (Mem.le.trans hlesum hle) (by simp) hst0.ext hst0.le) ?_
  clear hst
  intro v7 g7 w7 hst hle7 hcs7 hp7
  replace hlesum := Mem.le.trans hlesum hle7
  replace ha := ha.mono hle7
  replace hb := hb.mono hle7
  replace hd2 := hd2.mono hle7
  obtain ⟨nd6, D6, dn6, dc6, rfl, hd6⟩ := hp7
  have l8 := hd6.len hfa.2
  refine stepD_call rfl rfl rfl rfl rfl rfl hst (snum_den hst.agree hb) (fun _ _ h hle => St.older h (Mem.le.trans hlesum hle) (by simp) hst0.ext hst0.le) ?_
  clear hst
  intro v8 g8 w8 hst hle8 hcs8 hp8
  replace hlesum := Mem.le.trans hlesum hle8
  replace ha := ha.mono hle8
  replace hb := hb.mono hle8
  replace hd2 := hd2.mono hle8
  replace hd6 := hd6.mono hle8
  obtain ⟨nd7, D7, dn7, dc7, rfl, hd7⟩ := hp8
  have l9 := hd7.len hfb.2
  refine stepD_call rfl rfl rfl rfl rfl rfl hst (snum_Mul hst.agree hd6 hd7 (by omega) (by omega)) (fun _ _ h hle => St.older h (Mem.le.trans hlesum hle) (by simp) hst0.ext hst0.le) ?_
  clear hst
  intro v9 g9 w9 hst hle9 hcs9 hp9
  replace hlesum := Mem.le.trans hlesum hle9
  replace ha := ha.mono hle9
  replace hb := hb.mono hle9
  replace hd2 := hd2.mono hle9
  replace hd6 := hd6.mono hle9
  replace hd7 := hd7.mono hle9
  obtain ⟨nd8, D8, dn8, dc8, rfl, hd8⟩ := hp9
  have l10 := hZmul hd8 hfa.2 hfb.2
  refine stepD_call rfl rfl rfl rfl rfl rfl hst (snum_Frac hst.agree hd2 hd8 (den_mul_ne r x) (by omega) (by omega)) (fun _ _ h hle => St.older h (Mem.le.trans hlesum hle) (by simp) hst0.ext hst0.le) ?_
  clear hst
  intro v10 g10 w10 hst hle10 hcs10 hp10
  replace hlesum := Mem.le.trans hlesum hle10
  replace ha := ha.mono hle10
  replace hb := hb.mono hle10
  replace hd2 := hd2.mono hle10
  replace hd6 := hd6.mono hle10
  replace hd7 := hd7.mono hle10
  replace hd8 := hd8.mono hle10
  obtain ⟨_, _, _, _, _, _, _, _, rfl, hq9⟩ := hp10
  refine stepD_tail ?_
  refine stepK_store 2 rfl rfl rfl rfl rfl rfl zf105 rfl rfl hst rfl (by first | (simp [uN_length]; omega) | simp) ?_
  clear hst
  intro w11 hst
  simp only [zL, splice, Nat.reduceAdd] at hst
  refine znt ?_
  refine cp_ret ?_
  refine ret1c (k := 2) rfl rfl (by kernel_rfl) (by kernel_rfl) rfl hst rfl ?_
  exact ⟨_, _, _, _, _, _, _, _, rfl, hq9.to (mul_frac r x)⟩
  intro s10
  refine stepK_pass rfl rfl rfl rfl rfl rfl rfl ?_
  refine stepK_pass rfl rfl rfl rfl rfl rfl rfl ?_
  refine stepK_pass rfl rfl rfl rfl rfl rfl rfl ?_
  refine stepK_pass rfl rfl rfl rfl rfl rfl rfl ?_
  refine stepK_pass rfl rfl rfl rfl rfl rfl rfl ?_
  refine stepK_d rfl rfl rfl hst (does_pick_false rfl rfl rfl) ?_
  refine znt ?_
  refine cp_cond_false rfl ?_
  refine cp_skip ?_
  refine cp_then ?_
  refine cp_seq ?_
  refine cp_drawn (by kernel_rfl) 11 [(0, true), (1, true), (2, true), (3, true), (5, true), (7, true), (4, false), (6, false), (8, false), (9, false), (10, false)] _ rfl (by kernel_rfl) (by kernel_rfl) (by kernel_rfl) (fun _ _ _ _ _ h => h) _ (hst.drew) ?_
  have hst0 := hst.drew
  clear hst
  have hst := hst0
  refine stepD_d rfl rfl rfl rfl (does_fieldAddr rfl zf110 rfl) ?_
  refine stepD_d rfl rfl rfl rfl (does_load_ownN 0 rfl (by kernel_rfl) zf89 rfl rfl rfl) ?_
  refine stepD_d rfl rfl rfl rfl (does_fieldAddr rfl zf110 rfl) ?_
  refine stepD_d rfl rfl rfl rfl (does_load_ownN 1 rfl (by kernel_rfl) zf89 rfl rfl rfl) ?_
  refine stepD_d rfl rfl rfl rfl (does_load_ownN 0 rfl (by kernel_rfl) zf105 rfl rfl rfl) ?_
  refine stepD_d rfl rfl rfl rfl (does_load_ownN 1 rfl (by kernel_rfl) zf105 rfl rfl rfl) ?_
  refine stepD_call rfl rfl rfl rfl rfl rfl hst (snum_Mul hst.agree ha.1 hb.1 (by omega) (by omega)) (fun _ _ h hle => St.older h hle (by simp) hst0.ext hst0.le) ?_
  clear hst
  intro v12 g12 w12 hst hle12 hcs12 hp12
  have hlesum := hle12
  replace ha := ha.mono hle12
  replace hb := hb.mono hle12
  obtain ⟨nd2, D2, dn2, dc2, rfl, hd2⟩ := hp12
  have l4 := hZmul hd2 hfa.1 hfb.1
  refine stepD_call rfl rfl rfl rfl rfl rfl hst (snum_den hst.agree ha) (fun _ _ h hle => St.older h (Mem.le.trans hlesum hle) (by simp) hst0.ext hst0.le) ?_
  clear hst
  intro v13 g13 w13 hst hle13 hcs13 hp13
  replace hlesum := Mem.le.trans hlesum hle13
  replace ha := ha.mono hle13
  replace hb := hb.mono hle13
  replace hd2 := hd2.mono hle13
  obtain ⟨nd6, D6, dn6, dc6, rfl, hd6⟩ := hp13
  have l8 := hd6.len hfa.2
  refine stepD_call rfl rfl rfl rfl rfl rfl hst (snum_den hst.agree hb) (fun _ _ h hle => St.older h (Mem.le.trans hlesum hle) (by simp) hst0.ext hst0.le) ?_
  clear hst
  intro v14 g14 w14 hst hle14 hcs14 hp14
  replace hlesum := Mem.le.trans hlesum hle14
  replace ha := ha.mono hle14
  replace hb := hb.mono hle14
  replace hd2 := hd2.mono hle14
  replace hd6 := hd6.mono hle14
  obtain ⟨nd7, D7, dn7, dc7, rfl, hd7⟩ := hp14
  have l9 := hd7.len hfb.2
  refine stepD_call rfl rfl rfl rfl rfl rfl hst (snum_Mul hst.agree hd6 hd7 (by omega) (by omega)) (fun _ _ h hle => St.older h (Mem.le.trans hlesum hle) (by simp) hst0.ext hst0.le) ?_
  clear hst
  intro v15 g15 w15 hst hle15 hcs15 hp15
  replace hlesum := Mem.le.trans hlesum hle15
  replace ha := ha.mono hle15
  replace hb := hb.mono hle15
  replace hd2 := hd2.mono hle15
  replace hd6 := hd6.mono hle15
  replace hd7 := hd7.mono hle15
  obtain ⟨nd8, D8, dn8, dc8, rfl, hd8⟩ := hp15
  have l10 := hZmul hd8 hfa.2 hfb.2
  refine stepD_call rfl rfl rfl rfl rfl rfl hst (snum_Frac hst.agree hd2 hd8 (den_mul_ne r x) (by omega) (by omega)) (fun _ _ h hle => St.older h (Mem.le.trans hlesum hle) (by simp) hst0.ext hst0.le) ?_
  clear hst
  intro v16 g16 w16 hst hle16 hcs16 hp16
  replace hlesum := Mem.le.trans hlesum hle16
  replace ha := ha.mono hle16
  replace hb := hb.mono hle16
  replace hd2 := hd2.mono hle16
  replace hd6 := hd6.mono hle16
  replace hd7 := hd7.mono hle16
  replace hd8 := hd8.mono hle16
  obtain ⟨_, _, _, _, _, _, _, _, rfl, hq9⟩ := hp16
  refine stepD_tail ?_
  refine stepK_store 2 rfl rfl rfl rfl rfl rfl zf105 rfl rfl hst rfl (by first | (simp [uN_length]; omega) | simp) ?_
  clear hst
  intro w17 hst
  simp only [zL, splice, Nat.reduceAdd] at hst
  refine znt ?_
  refine cp_ret ?_
  refine ret1c (k := 2) rfl rfl (by kernel_rfl) (by kernel_rfl) rfl hst rfl ?_
  exact ⟨_, _, _, _, _, _, _, _, rfl, hq9.to (mul_frac r x)⟩

set_option maxHeartbeats 1000000 in
theorem snum_RDiv {g : Mem} {w : World} (hag : Agree g w) {na nb : Bool} {A B : Option Addr} {n c m d : Nat} {r : Rat} (ha : IsQ g na A n nb B m r) {na2 nb2 : Bool} {A2 B2 : Option Addr} {n2 c2 m2 d2 : Nat} {x : Rat} (hb : IsQ g na2 A2 n2 nb2 B2 m2 x) (hfa : FitH r) (hfb : FitH x) :
    CallTo Tryz.prog 67 #[.agg #[.bool na, .slice A n c, .bool nb, .slice B m d], .agg #[.bool na2, .slice A2 n2 c2, .bool nb2, .slice B2 m2 d2]] w (Ret w g fun v g => ∃ na A n c nb B m d, v = .agg #[.bool na, .slice A n c, .bool nb, .slice B m d] ∧ IsQ g na A n nb B m (r / x)) := by
  refine CallTo.enter (vs := [.agg #[.bool na, .slice A n c, .bool nb, .slice B m d], .agg #[.bool na2, .slice A2 n2 c2, .bool nb2, .slice B2 m2 d2]]) zf116 (by kernel_rfl) rfl rfl rfl ?_
  have hst := St.init hag
  have l1 := ha.1.len hfa.1
  have l2 := hb.1.len hfb.1
  refine zsr ?_
  refine stepK_box rfl rfl rfl rfl rfl rfl hst ?_
  clear hst
  intro b1 w1 hst
  refine stepK_box rfl rfl rfl rfl rfl rfl hst ?_
  clear hst
  intro b2 w2 hst
  refine stepK_alloc rfl rfl rfl rfl zf107 rfl hst ?_
  clear hst
  intro b3 w3 hst
  refine znq ?_
  refine zsr ?_
  refine stepK_d rfl rfl rfl hst (does_load_ownN 1 rfl (by kernel_rfl) zf105 rfl rfl rfl) ?_
  refine stepK_call rfl rfl rfl rfl rfl hst (snum_RSign hst.agree hb) ?_
  clear hst
  intro v4 g4 w4 hst hle4 hcs4 hp4
  replace ha := ha.mono hle4
  replace hb := hb.mono hle4
  obtain rfl := hp4
  refine stepK_d rfl rfl rfl hst (does_eql rfl rfl rfl) ?_
  refine znt ?_
  refine cp_if rfl ?_ ?_
  intro c7
  have hx0 : x = 0 := Rat.num_eq_zero.1 (Int.sign_eq_zero_iff_zero.1 c7)
  refine zsr ?_
  refine stepK_d rfl rfl rfl hst (does_build rfl zf108 rfl rfl) ?_
  refine stepK_store 2 rfl rfl rfl rfl rfl rfl zf105 rfl rfl hst rfl (by first | (simp [uN_length]; omega) | simp) ?_
  clear hst
  intro w5 hst
  simp only [zL, splice, Nat.reduceAdd] at hst
  refine zn5 ?_
  refine ret1c (k := 2) rfl rfl (by kernel_rfl) (by kernel_rfl) rfl hst rfl ?_
  exact ⟨_, _, _, _, _, _, _, _, rfl, (IsQ.zero _).to (by rw [hx0, Rat.div_def, Rat.inv_zero, Rat.mul_zero])⟩
  intro c7
  have hx0 : x.num ≠ 0 := fun e => c7 (by rw [e]; rfl)
  refine cp_skip ?_
  refine cp_then ?_
  refine cp_seq ?_
  refine cp_drawn (by kernel_rfl) 11 [(0, true), (1, true), (2, true), (5, true), (7, true), (8, true), (3, false), (4, false), (6, false), (9, false), (10, false)] _ rfl (by kernel_rfl) (by kernel_rfl) (by kernel_rfl) (fun _ _ _ _ _ h => h) _ (hst.drew) ?_
  have hst0 := hst.drew
  clear hst
  have hst := hst0
  refine stepD_d rfl rfl rfl rfl (does_fieldAddr rfl zf110 rfl) ?_
  refine stepD_d rfl rfl rfl rfl (does_load_ownN 0 rfl (by kernel_rfl) zf89 rfl rfl rfl) ?_
  refine stepD_d rfl rfl rfl rfl (does_load_ownN 1 rfl (by kernel_rfl) zf105 rfl rfl rfl) ?_
  refine stepD_d rfl rfl rfl rfl (does_load_ownN 0 rfl (by kernel_rfl) zf105 rfl rfl rfl) ?_
  refine stepD_d rfl rfl rfl rfl (does_fieldAddr rfl zf110 rfl) ?_
  refine stepD_d rfl rfl rfl rfl (does_load_ownN 1 rfl (by kernel_rfl) zf89 rfl rfl rfl) ?_
  refine stepD_call rfl rfl rfl rfl rfl rfl hst (snum_den hst.agree hb) (fun _ _ h hle => St.older h hle (by simp) hst0.ext hst0.le) ?_
  clear hst
  intro v6 g6 w6 hst hle6 hcs6 hp6
  have hlesum := hle6
  replace ha := ha.mono hle6
  replace hb := hb.mono hle6
  obtain ⟨nd1, D1, dn1, dc1, rfl, hd1⟩ := hp6
  have l3 := hd1.len hfb.2
  refine stepD_call rfl rfl rfl rfl rfl rfl hst (snum_Mul hst.agree ha.1 hd1 (by omega) (by omega)) (fun _ _ h hle => St.older h (Mem.le.trans hlesum hle) (by simp) hst0.ext hst0.le) ?_
  clear hst
  intro v7 g7 w7 hst hle7 hcs7 hp7
  replace hlesum := Mem.le.trans hlesum hle7
  replace ha := ha.mono hle7
  replace hb := hb.mono hle7
  replace hd1 := hd1.mono hle7
  obtain ⟨nd2, D2, dn2, dc2, rfl, hd2⟩ := hp7
  have l4 := hZmul hd2 hfa.1 hfb.2
  refine stepD_call rfl rfl rfl rfl rfl rfl hst (snum_den hst.agree ha) (fun _ _ h hle => St.older h (Mem.le.trans hlesum hle) (by simp) hst0.ext hst0.le) ?_
  clear hst
  intro v8 g8 w8 hst hle8 hcs8 hp8
  replace hlesum := Mem.le.trans hlesum hle8
  replace ha := ha.mono hle8
  replace hb := hb.mono hle8
  replace hd1 := hd1.mono hle8
  replace hd2 := hd2.mono hle8
  obtain ⟨nd6, D6, dn6, dc6, rfl, hd6⟩ := hp8
  have l8 := hd6.len hfa.2
  refine stepD_call rfl rfl rfl rfl rfl rfl hst (snum_Mul hst.agree hd6 hb.1 (by omega) (by omega)) (fun _ _ h hle => St.older h (Mem.le.trans hlesum hle) (by simp) hst0.ext hst0.le) ?_
  clear hst
  intro v9 g9 w9 hst hle9 hcs9 hp9
  replace hlesum := Mem.le.trans hlesum hle9
  replace ha := ha.mono hle9
  replace hb := hb.mono hle9
  replace hd1 := hd1.mono hle9
  replace hd2 := hd2.mono hle9
  replace hd6 := hd6.mono hle9
  obtain ⟨nd8, D8, dn8, dc8, rfl, hd8⟩ := hp9
  have l10 := hZmul hd8 hfa.2 hfb.1
  refine stepD_call rfl rfl rfl rfl rfl rfl hst (snum_Frac hst.agree hd2 hd8 (Int.mul_ne_zero (by have := r.den_nz; omega) hx0) (by omega) (by omega)) (fun _ _ h hle => St.older h (Mem.le.trans hlesum hle) (by simp) hst0.ext hst0.le) ?_
  clear hst
  intro v10 g10 w10 hst hle10 hcs10 hp10
  replace hlesum := Mem.le.trans hlesum hle10
  replace ha := ha.mono hle10
  replace hb := hb.mono hle10
  replace hd1 := hd1.mono hle10
  replace hd2 := hd2.mono hle10
  replace hd6 := hd6.mono hle10
  replace hd8 := hd8.mono hle10
  obtain ⟨_, _, _, _, _, _, _, _, rfl, hq9⟩ := hp10
  refine stepD_tail ?_
  refine stepK_store 2 rfl rfl rfl rfl rfl rfl zf105 rfl rfl hst rfl (by first | (simp [uN_length]; omega) | simp) ?_
  clear hst
  intro w11 hst
  simp only [zL, splice, Nat.reduceAdd] at hst
  refine znt ?_
  refine cp_ret ?_
  refine ret1c (k := 2) rfl rfl (by kernel_rfl) (by kernel_rfl) rfl hst rfl ?_
  exact ⟨_, _, _, _, _, _, _, _, rfl, hq9.to (div_frac r x)⟩

set_option maxHeartbeats 1000000 in
theorem snum_RCmp {g : Mem} {w : World} (hag : Agree g w) {na nb : Bool} {A B : Option Addr} {n c m d : Nat} {r : Rat} (ha : IsQ g na A n nb B m r) {na2 nb2 : Bool} {A2 B2 : Option Addr} {n2 c2 m2 d2 : Nat} {x : Rat} (hb : IsQ g na2 A2 n2 nb2 B2 m2 x) (hfa : FitH r) (hfb : FitH x) :
    CallTo Tryz.prog 20 #[.agg #[.bool na, .slice A n c, .bool nb, .slice B m d], .agg #[.bool na2, .slice A2 n2 c2, .bool nb2, .slice B2 m2 d2]] w (Ret w g fun v g => v = .int .i64 (r - x).num.sign) := by
  refine CallTo.enter (vs := [.agg #[.bool na, .slice A n c, .bool nb, .slice B m d], .agg #[.bool na2, .slice A2 n2 c2, .bool nb2, .slice B2 m2 d2]]) zf117 (by kernel_rfl) rfl rfl rfl ?_
  have hst := St.init hag
  refine zsr ?_
  refine stepK_box rfl rfl rfl rfl rfl rfl hst ?_
  clear hst
  intro b1 w1 hst
  refine stepK_box rfl rfl rfl rfl rfl rfl hst ?_
  clear hst
  intro b2 w2 hst
  refine zA rfl hst rfl ?_
  refine zn4 ?_
  refine stepK_d rfl rfl rfl hst (does_load_ownN 0 rfl (by kernel_rfl) zf105 rfl rfl rfl) ?_
  refine stepK_d rfl rfl rfl hst (does_load_ownN 1 rfl (by kernel_rfl) zf105 rfl rfl rfl) ?_
  refine stepK_call rfl rfl rfl rfl rfl hst (snum_RSub hst.agree ha hb hfa hfb) ?_
  clear hst
  intro v3 g3 w3 hst hle3 hcs3 hp3
  replace ha := ha.mono hle3
  replace hb := hb.mono hle3
  obtain ⟨_, _, _, _, _, _, _, _, rfl, h7⟩ := hp3
  refine stepK_call rfl rfl rfl rfl rfl hst (snum_RSign hst.agree h7) ?_
  clear hst
  intro v4 g4 w4 hst hle4 hcs4 hp4
  replace ha := ha.mono hle4
  replace hb := hb.mono hle4
  replace h7 := h7.mono hle4
  obtain rfl := hp4
  refine zA rfl hst rfl ?_
  refine znt ?_
  refine cp_ret ?_
  refine ret1 rfl rfl hst ?_
  rfl

end Go.Proofs.YtnbcedkpkcgmkaaGreatDoor
