/- The walks of functions, printed by a program of this session out of its specs. -/
import Derived.Test.YtcjhnkmoloiepaaGreatDoorH9
import Derived.Test.YtcjhnkmoloiepaaGreatDoorH8
import Derived.Test.YtcjhnkmoloiepaaGreatDoorH4
import Derived.Test.YtcjhnkmoloiepaaGreatDoorH2
import Derived.Test.YtcjhnkmoloiepaaGreatDoorHA
import Derived.Test.YtcjhnkmoloiepaaGreatDoorFT
import Derived.Test.YtcjhnkmoloiepaaGreatDoorQ3
import Derived.Test.YtcjhnkmoloiepaaGreatDoorP4
import Derived.Test.YtcjhnkmoloiepaaGreatDoorProg
import Derived.Test.YtcjhnkmoloiepaaGreatDoorF0
namespace Go.Proofs.YtcjhnkmoloiepaaGreatDoor
open Go Go.RowKit Go.Proofs.Vc
set_option linter.unusedVariables false
set_option linter.unusedSimpArgs false

set_option maxHeartbeats 8000000 in
theorem ModularReduceField_walk {g : Mem} {w : World} (hag : Agree g w) (hT : TabG Tryz.prog g) {a b : ByteArray} {n : Int} (z1 : -9223372036854775808 ≤ n) (z2 : n ≤ 9223372036854775807)  :
    CallTo Tryz.prog 5 #[.string a, .string b, .int .i64 n] w (Ret w g fun v g => v = .bool true) := by
  refine CallTo.enter (vs := [.string a, .string b, .int .i64 n]) zf156 (by kernel_rfl) rfl rfl rfl ?_
  have hst := St.init hag
  refine zsr ?_
  refine zA rfl hst rfl ?_
  refine znq ?_
  refine zsr ?_
  refine zM rfl hst rfl ?_
  refine zM rfl hst rfl ?_
  refine stepK_buildSlice rfl rfl rfl rfl zf153 zf157 rfl rfl (by decide) (by decide) (by decide) rfl rfl hst ?_
  clear hst
  intro bs w1 hst
  obtain ⟨hst, hleS⟩ := hst.publish 0 rfl
  replace hT := hT.mono hleS
  refine stepK_call rfl rfl rfl rfl rfl hst (keep_Short (ss := [a, b]) (n := 100) hst.agree (fun j s hj => by rw [gcell_put]; match j, hj with | 0, hj => simpa using hj | 1, hj => simpa using hj) (by simp)) ?_
  clear hst
  intro v2 g2 w2 hst hle2 hcs2 hp2
  replace hT := hT.mono hle2
  obtain rfl := hp2
  refine stepK_d rfl rfl rfl hst (does_not rfl rfl) ?_
  refine znt ?_
  refine cp_cond rfl ?_ ?_
  intro c23
  refine zsr ?_
  refine stepK_call rfl rfl rfl rfl rfl hst (law02_awake hst.agree hT) ?_
  clear hst
  intro v3 g3 w3 hst hle3 hcs3 hp3
  replace hT := hT.mono hle3
  obtain rfl := hp3
  refine zA rfl hst rfl ?_
  refine zn5 ?_
  refine ret1 rfl rfl hst ?_
  first
  | rfl
  | contradiction
  | simp_all
  intro c23
  have hsh : ∀ s ∈ [a, b], s.size ≤ 100 := dec_of c23
  have ha : a.size ≤ 100 := hsh a (by simp)
  have hb : b.size ≤ 100 := hsh b (by simp)
  have sx := (getR_sz a).mono (m := 101) (by omega)
  have sy := (getR_sz b).mono (m := 101) (by omega)
  have fx := sx.fitH (by decide)
  have fy := sy.fitH (by decide)
  refine zk4 ?_
  refine zM rfl hst rfl ?_
  refine stepK_call rfl rfl rfl rfl rfl hst (law02_prime hst.agree z1 z2) ?_
  clear hst
  intro v4 g4 w4 hst hle4 hcs4 hp4
  replace hT := hT.mono hle4
  obtain ⟨p, rfl, hp⟩ := hp4
  have hp0 : 0 < p := by have := hp.1; omega
  have hp1 := hp.2.1
  refine zA rfl hst rfl ?_
  refine zn4 ?_
  refine zM rfl hst rfl ?_
  refine zM rfl hst rfl ?_
  refine stepK_call rfl rfl rfl rfl rfl hst (mod_Reduce (a := a) hst.agree (by omega) (by omega) (by omega)) ?_
  clear hst
  intro v5 g5 w5 hst hle5 hcs5 hp5
  replace hT := hT.mono hle5
  obtain rfl := hp5
  refine zM rfl hst rfl ?_
  refine zE rfl hst rfl rfl ?_
  refine zE rfl hst rfl rfl ?_
  refine zA rfl hst rfl ?_
  refine zA rfl hst rfl ?_
  refine zn4 ?_
  refine zM rfl hst rfl ?_
  refine zM rfl hst rfl ?_
  refine stepK_call rfl rfl rfl rfl rfl hst (mod_Reduce (a := b) hst.agree (by omega) (by omega) (by omega)) ?_
  clear hst
  intro v6 g6 w6 hst hle6 hcs6 hp6
  replace hT := hT.mono hle6
  obtain rfl := hp6
  refine zM rfl hst rfl ?_
  refine zE rfl hst rfl rfl ?_
  refine zE rfl hst rfl rfl ?_
  refine zA rfl hst rfl ?_
  refine zA rfl hst rfl ?_
  refine znq ?_
  refine zsr ?_
  refine zM rfl hst rfl ?_
  refine stepK_d rfl rfl rfl hst (does_not rfl rfl) ?_
  refine zM rfl hst rfl ?_
  refine wpK_splitb (t := 41) rfl ?_ ?_
  intro s41
  refine stepK_pass rfl rfl rfl rfl rfl rfl rfl ?_
  refine stepK_pass rfl rfl rfl rfl rfl rfl rfl ?_
  refine stepK_d rfl rfl rfl hst (does_pick_true rfl rfl rfl) ?_
  refine znt ?_
  refine cp_cond_true rfl ?_
  refine zsr ?_
  refine stepK_call rfl rfl rfl rfl rfl hst (law02_awake hst.agree hT) ?_
  clear hst
  intro v7 g7 w7 hst hle7 hcs7 hp7
  replace hT := hT.mono hle7
  obtain rfl := hp7
  refine zA rfl hst rfl ?_
  refine zn5 ?_
  refine ret1 rfl rfl hst ?_
  first
  | rfl
  | contradiction
  | simp_all
  intro s41
  have ha9 : RedOk a p := of_decide_eq_true (by simpa using s41)
  refine stepK_guard rfl rfl rfl rfl rfl rfl hst (does_move rfl rfl) ?_
  refine stepK_guard rfl rfl rfl rfl rfl rfl hst (does_not rfl rfl) ?_
  refine stepK_d rfl rfl rfl hst (does_pick_false rfl rfl rfl) ?_
  refine znt ?_
  refine cp_cond rfl ?_ ?_
  intro c44
  refine zsr ?_
  refine stepK_call rfl rfl rfl rfl rfl hst (law02_awake hst.agree hT) ?_
  clear hst
  intro v8 g8 w8 hst hle8 hcs8 hp8
  replace hT := hT.mono hle8
  obtain rfl := hp8
  refine zA rfl hst rfl ?_
  refine zn5 ?_
  refine ret1 rfl rfl hst ?_
  first
  | rfl
  | contradiction
  | simp_all
  intro c44
  have hb9 : RedOk b p := of_decide_eq_true (by simpa using c44)
  rw [if_pos ha9, if_pos hb9]
  obtain ⟨x1, x2, _⟩ := redM_spec ha9.1 ha9.2.2
  obtain ⟨y1, y2, _⟩ := redM_spec hb9.1 hb9.2.2
  obtain ⟨hda, hea⟩ := redM_add ha9 hb9
  obtain ⟨hdm, hem⟩ := redM_mul ha9 hb9
  have hoa := redOk_text hp hda
  have hom := redOk_text hp hdm
  obtain ⟨hm1, hm2⟩ := mul31I x1 (show redM (getR a) p < 2147483648 by omega) y1 (by omega)
  refine zk4 ?_
  refine zM rfl hst rfl ?_
  refine zM rfl hst rfl ?_
  refine stepK_call rfl rfl rfl rfl rfl hst (rational_Add hst.agree hT (a := a) (b := b) (by omega) (by omega)) ?_
  clear hst
  intro v9 g9 w9 hst hle9 hcs9 hp9
  replace hT := hT.mono hle9
  obtain rfl := hp9
  have zs := ratS_size (sx.add sy)
  refine zM rfl hst rfl ?_
  refine stepK_call rfl rfl rfl rfl rfl hst (mod_Reduce (a := ratS (getR a + getR b)) hst.agree (by omega) (by omega) (by omega)) ?_
  clear hst
  intro v10 g10 w10 hst hle10 hcs10 hp10
  replace hT := hT.mono hle10
  obtain rfl := hp10
  rw [if_pos hoa, decide_eq_true hoa, getR_text, hea]
  refine zM rfl hst rfl ?_
  refine zE rfl hst rfl rfl ?_
  refine zE rfl hst rfl rfl ?_
  refine zA rfl hst rfl ?_
  refine zA rfl hst rfl ?_
  refine zn4 ?_
  refine zM rfl hst rfl ?_
  refine zM rfl hst rfl ?_
  refine stepK_call rfl rfl rfl rfl rfl hst (rational_Mul hst.agree hT (a := a) (b := b) (by omega) (by omega)) ?_
  clear hst
  intro v11 g11 w11 hst hle11 hcs11 hp11
  replace hT := hT.mono hle11
  obtain rfl := hp11
  have zm := ratS_size (sx.mul sy)
  refine zM rfl hst rfl ?_
  refine stepK_call rfl rfl rfl rfl rfl hst (mod_Reduce (a := ratS (getR a * getR b)) hst.agree (by omega) (by omega) (by omega)) ?_
  clear hst
  intro v12 g12 w12 hst hle12 hcs12 hp12
  replace hT := hT.mono hle12
  obtain rfl := hp12
  rw [if_pos hom, decide_eq_true hom, getR_text, hem]
  refine zM rfl hst rfl ?_
  refine zE rfl hst rfl rfl ?_
  refine zE rfl hst rfl rfl ?_
  refine zA rfl hst rfl ?_
  refine zA rfl hst rfl ?_
  refine znq ?_
  refine zsr ?_
  refine zM rfl hst rfl ?_
  refine stepK_d rfl rfl rfl hst (Does.bfalse' (does_not rfl rfl) rfl) ?_
  refine zM rfl hst rfl ?_
  refine stepK_guard rfl rfl rfl rfl rfl rfl hst (does_move rfl rfl) ?_
  refine stepK_guard rfl rfl rfl rfl rfl rfl hst (Does.bfalse' (does_not rfl rfl) rfl) ?_
  refine stepK_d rfl rfl rfl hst (does_pick_false rfl rfl rfl) ?_
  refine zM rfl hst rfl ?_
  refine stepK_guard rfl rfl rfl rfl rfl rfl hst (does_move rfl rfl) ?_
  refine stepK_guard rfl rfl rfl rfl rfl rfl hst (does_move rfl rfl) ?_
  refine stepK_guard rfl rfl rfl rfl rfl rfl hst (does_move rfl rfl) ?_
  refine stepK_guard rfl rfl rfl rfl rfl rfl hst (Does.int (does_add rfl rfl rfl) (wrap_i64 (by omega) (by omega))) ?_
  refine stepK_guard rfl rfl rfl rfl rfl rfl hst (does_move rfl rfl) ?_
  refine stepK_guard rfl rfl rfl rfl rfl rfl hst (Does.int (b := (redM (getR a) p + redM (getR b) p) % p) (does_rem rfl rfl rfl (by omega)) (Int.tmod_eq_emod_of_nonneg (by omega))) ?_
  refine stepK_guard rfl rfl rfl rfl rfl rfl hst (Does.no (does_neq rfl rfl rfl) (fun h => h rfl)) ?_
  refine stepK_d rfl rfl rfl hst (does_pick_false rfl rfl rfl) ?_
  refine zM rfl hst rfl ?_
  refine stepK_guard rfl rfl rfl rfl rfl rfl hst (does_move rfl rfl) ?_
  refine stepK_guard rfl rfl rfl rfl rfl rfl hst (does_move rfl rfl) ?_
  refine stepK_guard rfl rfl rfl rfl rfl rfl hst (does_move rfl rfl) ?_
  refine stepK_guard rfl rfl rfl rfl rfl rfl hst (Does.int (does_mul rfl rfl rfl) (wrap_i64 (by omega) (by omega))) ?_
  refine stepK_guard rfl rfl rfl rfl rfl rfl hst (does_move rfl rfl) ?_
  refine stepK_guard rfl rfl rfl rfl rfl rfl hst (Does.int (b := redM (getR a) p * redM (getR b) p % p) (does_rem rfl rfl rfl (by omega)) (Int.tmod_eq_emod_of_nonneg hm1)) ?_
  refine stepK_guard rfl rfl rfl rfl rfl rfl hst (Does.no (does_neq rfl rfl rfl) (fun h => h rfl)) ?_
  refine stepK_d rfl rfl rfl hst (does_pick_false rfl rfl rfl) ?_
  refine znt ?_
  refine cp_cond_false rfl ?_
  refine zk4 ?_
  refine zM rfl hst rfl ?_
  refine zM rfl hst rfl ?_
  refine stepK_call rfl rfl rfl rfl rfl hst (rational_Div hst.agree hT (a := a) (b := b) (by omega) (by omega)) ?_
  clear hst
  intro v13 g13 w13 hst hle13 hcs13 hp13
  replace hT := hT.mono hle13
  obtain rfl := hp13
  refine zM rfl hst rfl ?_
  refine zE rfl hst rfl rfl ?_
  refine zE rfl hst rfl rfl ?_
  refine zA rfl hst rfl ?_
  refine zA rfl hst rfl ?_
  refine zn4 ?_
  refine zM rfl hst rfl ?_
  refine zM rfl hst rfl ?_
  refine stepK_call rfl rfl rfl rfl rfl hst (mod_Inverse (a := redM (getR b) p) hst.agree (by omega) (by omega) (by omega) (by omega)) ?_
  clear hst
  intro v14 g14 w14 hst hle14 hcs14 hp14
  replace hT := hT.mono hle14
  obtain rfl := hp14
  refine zM rfl hst rfl ?_
  refine zE rfl hst rfl rfl ?_
  refine zE rfl hst rfl rfl ?_
  refine zA rfl hst rfl ?_
  refine zA rfl hst rfl ?_
  refine znq ?_
  refine zsr ?_
  refine zM rfl hst rfl ?_
  refine stepK_d rfl rfl rfl hst (does_not rfl rfl) ?_
  refine zM rfl hst rfl ?_
  refine wpK_splitb (t := 100) rfl ?_ ?_
  intro s100
  refine stepK_pass rfl rfl rfl rfl rfl rfl rfl ?_
  refine stepK_pass rfl rfl rfl rfl rfl rfl rfl ?_
  refine stepK_d rfl rfl rfl hst (does_pick_true rfl rfl rfl) ?_
  refine znt ?_
  refine cp_cond_true rfl ?_
  refine zsr ?_
  refine stepK_call rfl rfl rfl rfl rfl hst (law02_awake hst.agree hT) ?_
  clear hst
  intro v15 g15 w15 hst hle15 hcs15 hp15
  replace hT := hT.mono hle15
  obtain rfl := hp15
  refine zA rfl hst rfl ?_
  refine zn5 ?_
  refine ret1 rfl rfl hst ?_
  first
  | rfl
  | contradiction
  | simp_all
  intro s100
  have hb0 : getR b ≠ 0 := of_decide_eq_true (by simpa using s100)
  refine stepK_guard rfl rfl rfl rfl rfl rfl hst (does_move rfl rfl) ?_
  refine stepK_guard rfl rfl rfl rfl rfl rfl hst (does_not rfl rfl) ?_
  refine stepK_d rfl rfl rfl hst (does_pick_false rfl rfl rfl) ?_
  refine znt ?_
  refine cp_cond rfl ?_ ?_
  intro c103
  refine zsr ?_
  refine stepK_call rfl rfl rfl rfl rfl hst (law02_awake hst.agree hT) ?_
  clear hst
  intro v16 g16 w16 hst hle16 hcs16 hp16
  replace hT := hT.mono hle16
  obtain rfl := hp16
  refine zA rfl hst rfl ?_
  refine zn5 ?_
  refine ret1 rfl rfl hst ?_
  first
  | rfl
  | contradiction
  | simp_all
  intro c103
  have hy9 : Prm p ∧ ¬ redM (getR b) p % p = 0 := of_decide_eq_true (by simpa using c103)
  rw [if_neg hb0, if_pos hy9]
  obtain ⟨hdd, hed⟩ := redM_div ha9 hb9 hy9.2
  have hod := redOk_text hp hdd
  obtain ⟨i1, i2⟩ := invM_bound (a := redM (getR b) p) hp.1
  obtain ⟨hm3, hm4⟩ := mul31I x1 (show redM (getR a) p < 2147483648 by omega) i1 (by omega)
  have zd := ratS_size (sx.div sy)
  refine zk4 ?_
  refine zM rfl hst rfl ?_
  refine zM rfl hst rfl ?_
  refine stepK_call rfl rfl rfl rfl rfl hst (mod_Reduce (a := ratS (getR a / getR b)) hst.agree (by omega) (by omega) (by omega)) ?_
  clear hst
  intro v17 g17 w17 hst hle17 hcs17 hp17
  replace hT := hT.mono hle17
  obtain rfl := hp17
  rw [if_pos hod, decide_eq_true hod, getR_text, hed]
  refine zM rfl hst rfl ?_
  refine zE rfl hst rfl rfl ?_
  refine zE rfl hst rfl rfl ?_
  refine zA rfl hst rfl ?_
  refine zA rfl hst rfl ?_
  refine zn4 ?_
  refine zM rfl hst rfl ?_
  refine zM rfl hst rfl ?_
  refine wpK_splitb (t := 112) rfl ?_ ?_
  intro s112
  refine stepK_guard rfl rfl rfl rfl rfl rfl hst (does_move rfl rfl) ?_
  refine stepK_guard rfl rfl rfl rfl rfl rfl hst (does_move rfl rfl) ?_
  refine stepK_guard rfl rfl rfl rfl rfl rfl hst (does_move rfl rfl) ?_
  refine stepK_guard rfl rfl rfl rfl rfl rfl hst (Does.int (does_mul rfl rfl rfl) (wrap_i64 (by omega) (by omega))) ?_
  refine stepK_guard rfl rfl rfl rfl rfl rfl hst (does_move rfl rfl) ?_
  refine stepK_guard rfl rfl rfl rfl rfl rfl hst (Does.int (b := redM (getR a) p * invM (redM (getR b) p) p % p) (does_rem rfl rfl rfl (by omega)) (Int.tmod_eq_emod_of_nonneg hm3)) ?_
  refine stepK_guard rfl rfl rfl rfl rfl rfl hst (Does.yes (does_eql rfl rfl rfl) rfl) ?_
  refine stepK_d rfl rfl rfl hst (does_pick_true rfl rfl rfl) ?_
  refine zM rfl hst rfl ?_
  refine stepK_call_guard rfl rfl rfl rfl rfl rfl rfl rfl hst (law02_awake hst.agree hT) ?_
  clear hst
  intro v18 g18 w18 hst hle18 hcs18 hp18
  replace hT := hT.mono hle18
  obtain rfl := hp18
  refine stepK_d rfl rfl rfl hst (does_pick_true rfl rfl rfl) ?_
  refine zA rfl hst rfl ?_
  refine znt ?_
  refine cp_ret ?_
  refine ret1 rfl rfl hst ?_
  first
  | rfl
  | contradiction
  | simp_all
  intro s112
  refine stepK_pass rfl rfl rfl rfl rfl rfl rfl ?_
  refine stepK_pass rfl rfl rfl rfl rfl rfl rfl ?_
  refine stepK_pass rfl rfl rfl rfl rfl rfl rfl ?_
  refine stepK_pass rfl rfl rfl rfl rfl rfl rfl ?_
  refine stepK_pass rfl rfl rfl rfl rfl rfl rfl ?_
  refine stepK_pass rfl rfl rfl rfl rfl rfl rfl ?_
  refine stepK_pass rfl rfl rfl rfl rfl rfl rfl ?_
  refine stepK_d rfl rfl rfl hst (does_pick_false rfl rfl rfl) ?_
  refine zM rfl hst rfl ?_
  refine stepK_pass rfl rfl rfl rfl rfl rfl rfl ?_
  refine stepK_d rfl rfl rfl hst (does_pick_false rfl rfl rfl) ?_
  refine zA rfl hst rfl ?_
  refine znt ?_
  refine cp_ret ?_
  refine ret1 rfl rfl hst ?_
  first
  | rfl
  | contradiction
  | simp_all

end Go.Proofs.YtcjhnkmoloiepaaGreatDoor
