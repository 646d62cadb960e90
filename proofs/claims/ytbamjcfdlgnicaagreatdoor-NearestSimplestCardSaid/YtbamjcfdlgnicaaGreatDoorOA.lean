/- The walks of functions, printed by a program of this session out of its specs. -/
import Derived.Test.YtbamjcfdlgnicaaGreatDoorFN
import Derived.Test.YtbamjcfdlgnicaaGreatDoorFA
import Derived.Test.YtbamjcfdlgnicaaGreatDoorQ3
import Derived.Test.YtbamjcfdlgnicaaGreatDoorProg
import Derived.Test.YtbamjcfdlgnicaaGreatDoorF0
namespace Go.Proofs.YtbamjcfdlgnicaaGreatDoor
open Go Go.RowKit Go.Proofs.Vc
set_option linter.unusedVariables false
set_option linter.unusedSimpArgs false

set_option maxHeartbeats 4000000 in
theorem NearestSimplest_walk {g : Mem} {w : World} (hag : Agree g w) (hT : TabG Tryz.prog g) {a b : ByteArray} :
    CallTo Tryz.prog 3 #[.string a, .string b] w (Ret w g fun v g => v = .bool true) := by
  refine CallTo.enter (vs := [.string a, .string b]) (by kernel_rfl : Tryz.prog.funcs[3]? = some Tryz.f3) (by kernel_rfl) rfl rfl rfl ?_
  have hst := St.init hag
  refine zsr ?_
  refine zA rfl hst rfl ?_
  refine znq ?_
  refine zsr ?_
  refine zM rfl hst rfl ?_
  refine stepK_d rfl rfl rfl hst (does_len_string rfl (by kernel_rfl) rfl) ?_
  refine stepK_d rfl rfl rfl hst (does_gtr rfl rfl rfl) ?_
  refine zM rfl hst rfl ?_
  refine wpK_split (t := 14) rfl ?_ ?_
  intro s14
  refine stepK_pass rfl rfl rfl rfl rfl rfl rfl ?_
  refine stepK_pass rfl rfl rfl rfl rfl rfl rfl ?_
  refine stepK_pass rfl rfl rfl rfl rfl rfl rfl ?_
  refine stepK_d rfl rfl rfl hst (does_pick_true rfl rfl rfl) ?_
  refine znt ?_
  refine cp_cond_true rfl ?_
  refine zsr ?_
  refine stepK_call rfl rfl rfl rfl rfl hst (law28_known hst.agree hT) ?_
  clear hst
  intro v1 g1 w1 hst hle1 hcs1 hp1
  replace hT := hT.mono hle1
  obtain rfl := hp1
  refine zA rfl hst rfl ?_
  refine zn5 ?_
  refine ret1 rfl rfl hst ?_
  first
  | rfl
  | contradiction
  | simp_all
  intro s14
  have ha : a.size ≤ 60 := by omega
  refine stepK_guard rfl rfl rfl rfl rfl rfl hst (does_move rfl rfl) ?_
  refine stepK_guard rfl rfl rfl rfl rfl rfl hst (does_len_string rfl (by kernel_rfl) rfl) ?_
  refine stepK_guard rfl rfl rfl rfl rfl rfl hst (does_gtr rfl rfl rfl) ?_
  refine stepK_d rfl rfl rfl hst (does_pick_false rfl rfl rfl) ?_
  refine znt ?_
  refine cp_if rfl ?_ ?_
  intro c18
  refine zsr ?_
  refine stepK_call rfl rfl rfl rfl rfl hst (law28_known hst.agree hT) ?_
  clear hst
  intro v2 g2 w2 hst hle2 hcs2 hp2
  replace hT := hT.mono hle2
  obtain rfl := hp2
  refine zA rfl hst rfl ?_
  refine zn5 ?_
  refine ret1 rfl rfl hst ?_
  first
  | rfl
  | contradiction
  | simp_all
  intro c18
  have hb : b.size ≤ 60 := by omega
  have sx := (getR_sz a).mono (m := 61) (by omega)
  have sy := (getR_sz b).mono (m := 61) (by omega)
  have fx := sx.fitH (by decide)
  have fy := sy.fitH (by decide)
  refine zk4 ?_
  refine zM rfl hst rfl ?_
  refine zM rfl hst rfl ?_
  refine stepK_call rfl rfl rfl rfl rfl hst (nearest_Simplest hst.agree hT ha hb) ?_
  clear hst
  intro v3 g3 w3 hst hle3 hcs3 hp3
  replace hT := hT.mono hle3
  obtain rfl := hp3
  refine zM rfl hst rfl ?_
  refine zE rfl hst rfl rfl ?_
  refine zE rfl hst rfl rfl ?_
  refine zA rfl hst rfl ?_
  refine zA rfl hst rfl ?_
  refine zn4 ?_
  refine zM rfl hst rfl ?_
  refine stepK_call rfl rfl rfl rfl rfl hst (snum_Read hst.agree (by omega)) ?_
  clear hst
  intro v4 g4 w4 hst hle4 hcs4 hp4
  replace hT := hT.mono hle4
  obtain ⟨na, A, n, c, nb, B, m, d, ok1, ρ1, rfl, hx, hy1, hn1⟩ := hp4
  refine zM rfl hst rfl ?_
  refine zE rfl hst rfl rfl ?_
  refine zE rfl hst rfl rfl ?_
  refine stepK_alloc rfl rfl rfl rfl zf121 rfl hst ?_
  clear hst
  intro b7 w5 hst
  refine stepK_store 0 rfl rfl rfl rfl rfl rfl zf119 rfl rfl hst rfl (by first | (simp [uN_length]; omega) | simp) ?_
  clear hst
  intro w6 hst
  simp only [zL, splice, Nat.reduceAdd] at hst
  refine zA rfl hst rfl ?_
  refine zn4 ?_
  refine zM rfl hst rfl ?_
  refine stepK_call rfl rfl rfl rfl rfl hst (snum_Read hst.agree (by omega)) ?_
  clear hst
  intro v7 g7 w7 hst hle7 hcs7 hp7
  replace hT := hT.mono hle7
  replace hx := hx.mono hle7
  obtain ⟨na2, A2, n2, c2, nb2, B2, m2, d2, ok2, ρ2, rfl, hy, hy2, hn2⟩ := hp7
  refine zM rfl hst rfl ?_
  refine zE rfl hst rfl rfl ?_
  refine zE rfl hst rfl rfl ?_
  refine stepK_alloc rfl rfl rfl rfl zf121 rfl hst ?_
  clear hst
  intro b9 w8 hst
  refine stepK_store 1 rfl rfl rfl rfl rfl rfl zf119 rfl rfl hst rfl (by first | (simp [uN_length]; omega) | simp) ?_
  clear hst
  intro w9 hst
  simp only [zL, splice, Nat.reduceAdd] at hst
  refine zA rfl hst rfl ?_
  refine znq ?_
  refine zsr ?_
  refine zM rfl hst rfl ?_
  refine stepK_d rfl rfl rfl hst (does_not rfl rfl) ?_
  refine zM rfl hst rfl ?_
  refine wpK_splitb (t := 38) rfl ?_ ?_
  intro s38
  have hno : ¬ ((readR a).isSome ∧ (readR b).isSome) := fun h => by have e := hn1 (by simpa using s38); rw [e] at h; cases h.1
  refine stepK_pass rfl rfl rfl rfl rfl rfl rfl ?_
  refine stepK_pass rfl rfl rfl rfl rfl rfl rfl ?_
  refine stepK_d rfl rfl rfl hst (does_pick_true rfl rfl rfl) ?_
  refine znt ?_
  refine cp_cond_true rfl ?_
  refine zsr ?_
  refine stepK_call rfl rfl rfl rfl rfl hst (law28_known hst.agree hT) ?_
  clear hst
  intro v10 g10 w10 hst hle10 hcs10 hp10
  replace hT := hT.mono hle10
  replace hx := hx.mono hle10
  replace hy := hy.mono hle10
  obtain rfl := hp10
  refine zM rfl hst rfl ?_
  refine wpK_splitb (t := 43) rfl ?_ ?_
  intro s43
  refine stepK_guard rfl rfl rfl rfl rfl rfl hst (does_move rfl rfl) ?_
  refine stepK_guard rfl rfl rfl rfl rfl rfl hst (Does.yes (does_eql rfl rfl rfl) (by rw [if_neg hno])) ?_
  refine stepK_d rfl rfl rfl hst (does_pick_true rfl rfl rfl) ?_
  refine zM rfl hst rfl ?_
  refine stepK_guard rfl rfl rfl rfl rfl rfl hst (does_move rfl rfl) ?_
  refine stepK_guard rfl rfl rfl rfl rfl rfl hst (Does.yes (does_eql_string rfl rfl rfl) (by rw [if_neg (fun h => hno ⟨h.1, h.2.1⟩)])) ?_
  refine stepK_d rfl rfl rfl hst (does_pick_true rfl rfl rfl) ?_
  refine zA rfl hst rfl ?_
  refine zn5 ?_
  refine ret1 rfl rfl hst ?_
  first
  | rfl
  | contradiction
  | simp_all
  intro s43
  refine stepK_pass rfl rfl rfl rfl rfl rfl rfl ?_
  refine stepK_pass rfl rfl rfl rfl rfl rfl rfl ?_
  refine stepK_d rfl rfl rfl hst (does_pick_false rfl rfl rfl) ?_
  refine zM rfl hst rfl ?_
  refine stepK_pass rfl rfl rfl rfl rfl rfl rfl ?_
  refine stepK_pass rfl rfl rfl rfl rfl rfl rfl ?_
  refine stepK_d rfl rfl rfl hst (does_pick_false rfl rfl rfl) ?_
  refine zA rfl hst rfl ?_
  refine zn5 ?_
  refine ret1 rfl rfl hst ?_
  first
  | rfl
  | contradiction
  | simp_all
  intro s38
  have e1 := hy1 (by simpa using s38)
  have g1 : getR a = ρ1 := by unfold getR; rw [e1]; rfl
  refine stepK_guard rfl rfl rfl rfl rfl rfl hst (does_move rfl rfl) ?_
  refine stepK_guard rfl rfl rfl rfl rfl rfl hst (does_not rfl rfl) ?_
  refine stepK_d rfl rfl rfl hst (does_pick_false rfl rfl rfl) ?_
  refine znt ?_
  refine cp_cond rfl ?_ ?_
  intro c41
  have hno : ¬ ((readR a).isSome ∧ (readR b).isSome) := fun h => by first | assumption | (have e := hn2 (by simpa using c41); rw [e] at h; cases h.2)
  refine zsr ?_
  refine stepK_call rfl rfl rfl rfl rfl hst (law28_known hst.agree hT) ?_
  clear hst
  intro v11 g11 w11 hst hle11 hcs11 hp11
  replace hT := hT.mono hle11
  replace hx := hx.mono hle11
  replace hy := hy.mono hle11
  obtain rfl := hp11
  refine zM rfl hst rfl ?_
  refine wpK_splitb (t := 43) rfl ?_ ?_
  intro s43
  refine stepK_guard rfl rfl rfl rfl rfl rfl hst (does_move rfl rfl) ?_
  refine stepK_guard rfl rfl rfl rfl rfl rfl hst (Does.yes (does_eql rfl rfl rfl) (by rw [if_neg hno])) ?_
  refine stepK_d rfl rfl rfl hst (does_pick_true rfl rfl rfl) ?_
  refine zM rfl hst rfl ?_
  refine stepK_guard rfl rfl rfl rfl rfl rfl hst (does_move rfl rfl) ?_
  refine stepK_guard rfl rfl rfl rfl rfl rfl hst (Does.yes (does_eql_string rfl rfl rfl) (by rw [if_neg (fun h => hno ⟨h.1, h.2.1⟩)])) ?_
  refine stepK_d rfl rfl rfl hst (does_pick_true rfl rfl rfl) ?_
  refine zA rfl hst rfl ?_
  refine zn5 ?_
  refine ret1 rfl rfl hst ?_
  first
  | rfl
  | contradiction
  | simp_all
  intro s43
  refine stepK_pass rfl rfl rfl rfl rfl rfl rfl ?_
  refine stepK_pass rfl rfl rfl rfl rfl rfl rfl ?_
  refine stepK_d rfl rfl rfl hst (does_pick_false rfl rfl rfl) ?_
  refine zM rfl hst rfl ?_
  refine stepK_pass rfl rfl rfl rfl rfl rfl rfl ?_
  refine stepK_pass rfl rfl rfl rfl rfl rfl rfl ?_
  refine stepK_d rfl rfl rfl hst (does_pick_false rfl rfl rfl) ?_
  refine zA rfl hst rfl ?_
  refine zn5 ?_
  refine ret1 rfl rfl hst ?_
  first
  | rfl
  | contradiction
  | simp_all
  intro c41
  have e2 := hy2 (by simpa using c41)
  have g2e : getR b = ρ2 := by unfold getR; rw [e2]; rfl
  have hs1 : (readR a).isSome = true := by rw [e1]; rfl
  have hs2 : (readR b).isSome = true := by rw [e2]; rfl
  rw [← g1] at hx
  rw [← g2e] at hy
  refine cp_skip ?_
  refine cp_then ?_
  refine cp_seq ?_
  refine zsr ?_
  refine stepK_d rfl rfl rfl hst (does_load_ownN 0 rfl (by kernel_rfl) zf119 rfl rfl rfl) ?_
  refine stepK_d rfl rfl rfl hst (does_load_ownN 1 rfl (by kernel_rfl) zf119 rfl rfl rfl) ?_
  refine stepK_call rfl rfl rfl rfl rfl hst (snum_RCmp hst.agree hx hy fx fy) ?_
  clear hst
  intro v12 g12 w12 hst hle12 hcs12 hp12
  replace hT := hT.mono hle12
  replace hx := hx.mono hle12
  replace hy := hy.mono hle12
  obtain rfl := hp12
  refine stepK_d rfl rfl rfl hst (does_gtr rfl rfl rfl) ?_
  refine znt ?_
  refine cp_if rfl ?_ ?_
  intro c54
  have hle : ¬ getR a ≤ getR b := fun h => absurd (sgn_le.2 h) (by omega)
  refine zsr ?_
  refine stepK_call rfl rfl rfl rfl rfl hst (law28_known hst.agree hT) ?_
  clear hst
  intro v13 g13 w13 hst hle13 hcs13 hp13
  replace hT := hT.mono hle13
  replace hx := hx.mono hle13
  replace hy := hy.mono hle13
  obtain rfl := hp13
  refine zM rfl hst rfl ?_
  refine wpK_splitb (t := 56) rfl ?_ ?_
  intro s56
  refine stepK_guard rfl rfl rfl rfl rfl rfl hst (does_move rfl rfl) ?_
  refine stepK_guard rfl rfl rfl rfl rfl rfl hst (Does.yes (does_eql rfl rfl rfl) (by rw [if_pos ⟨hs1, hs2⟩, if_neg hle])) ?_
  refine stepK_d rfl rfl rfl hst (does_pick_true rfl rfl rfl) ?_
  refine zM rfl hst rfl ?_
  refine stepK_guard rfl rfl rfl rfl rfl rfl hst (does_move rfl rfl) ?_
  refine stepK_guard rfl rfl rfl rfl rfl rfl hst (Does.yes (does_eql_string rfl rfl rfl) (by rw [if_neg (fun h => hle h.2.2)])) ?_
  refine stepK_d rfl rfl rfl hst (does_pick_true rfl rfl rfl) ?_
  refine zA rfl hst rfl ?_
  refine zn5 ?_
  refine ret1 rfl rfl hst ?_
  first
  | rfl
  | contradiction
  | simp_all
  intro s56
  refine stepK_pass rfl rfl rfl rfl rfl rfl rfl ?_
  refine stepK_pass rfl rfl rfl rfl rfl rfl rfl ?_
  refine stepK_d rfl rfl rfl hst (does_pick_false rfl rfl rfl) ?_
  refine zM rfl hst rfl ?_
  refine stepK_pass rfl rfl rfl rfl rfl rfl rfl ?_
  refine stepK_pass rfl rfl rfl rfl rfl rfl rfl ?_
  refine stepK_d rfl rfl rfl hst (does_pick_false rfl rfl rfl) ?_
  refine zA rfl hst rfl ?_
  refine zn5 ?_
  refine ret1 rfl rfl hst ?_
  first
  | rfl
  | contradiction
  | simp_all
  intro c54
  have hle : getR a ≤ getR b := sgn_le.1 (by omega)
  refine zk4 ?_
  refine stepK_call rfl rfl rfl rfl rfl hst (law28_known hst.agree hT) ?_
  clear hst
  intro v14 g14 w14 hst hle14 hcs14 hp14
  replace hT := hT.mono hle14
  replace hx := hx.mono hle14
  replace hy := hy.mono hle14
  obtain rfl := hp14
  refine zM rfl hst rfl ?_
  refine wpK_splitb (t := 65) rfl ?_ ?_
  intro s65
  refine stepK_guard rfl rfl rfl rfl rfl rfl hst (does_move rfl rfl) ?_
  refine stepK_guard rfl rfl rfl rfl rfl rfl hst (Does.yes (does_eql rfl rfl rfl) (by rw [if_pos ⟨hs1, hs2⟩, if_pos hle])) ?_
  refine stepK_d rfl rfl rfl hst (does_pick_true rfl rfl rfl) ?_
  refine zM rfl hst rfl ?_
  refine stepK_guard rfl rfl rfl rfl rfl rfl hst (does_move rfl rfl) ?_
  refine stepK_guard rfl rfl rfl rfl rfl rfl hst (does_load_ownN 0 rfl (by kernel_rfl) zf119 rfl rfl rfl) ?_
  refine stepK_guard rfl rfl rfl rfl rfl rfl hst (does_load_ownN 1 rfl (by kernel_rfl) zf119 rfl rfl rfl) ?_
  refine stepK_call_guard rfl rfl rfl rfl rfl rfl rfl rfl hst (sref_Simplest (k := 61) (by decide) hst.agree hx hy hle sx sy) ?_
  clear hst
  intro v15 g15 w15 hst hle15 hcs15 hp15
  replace hT := hT.mono hle15
  replace hx := hx.mono hle15
  replace hy := hy.mono hle15
  obtain ⟨_, _, _, _, _, _, _, _, rfl, hq⟩ := hp15
  refine stepK_call_guard rfl rfl rfl rfl rfl rfl rfl rfl hst (snum_Text hst.agree hq ((simpZ_sz hle sx sy).fitH (by decide))) ?_
  clear hst
  intro v16 g16 w16 hst hle16 hcs16 hp16
  replace hT := hT.mono hle16
  replace hx := hx.mono hle16
  replace hy := hy.mono hle16
  replace hq := hq.mono hle16
  obtain rfl := hp16
  refine stepK_guard rfl rfl rfl rfl rfl rfl hst (Does.yes (does_eql_string rfl rfl rfl) (by rw [if_pos ⟨hs1, hs2, hle⟩])) ?_
  refine stepK_d rfl rfl rfl hst (does_pick_true rfl rfl rfl) ?_
  refine zA rfl hst rfl ?_
  refine znt ?_
  refine cp_ret ?_
  refine ret1 rfl rfl hst ?_
  first
  | rfl
  | contradiction
  | simp_all
  intro s65
  refine stepK_pass rfl rfl rfl rfl rfl rfl rfl ?_
  refine stepK_pass rfl rfl rfl rfl rfl rfl rfl ?_
  refine stepK_d rfl rfl rfl hst (does_pick_false rfl rfl rfl) ?_
  refine zM rfl hst rfl ?_
  refine stepK_pass rfl rfl rfl rfl rfl rfl rfl ?_
  refine stepK_pass rfl rfl rfl rfl rfl rfl rfl ?_
  refine stepK_pass rfl rfl rfl rfl rfl rfl rfl ?_
  refine stepK_pass rfl rfl rfl rfl rfl rfl rfl ?_
  refine stepK_pass rfl rfl rfl rfl rfl rfl rfl ?_
  refine stepK_pass rfl rfl rfl rfl rfl rfl rfl ?_
  refine stepK_d rfl rfl rfl hst (does_pick_false rfl rfl rfl) ?_
  refine zA rfl hst rfl ?_
  refine znt ?_
  refine cp_ret ?_
  refine ret1 rfl rfl hst ?_
  first
  | rfl
  | contradiction
  | simp_all

end Go.Proofs.YtbamjcfdlgnicaaGreatDoor
