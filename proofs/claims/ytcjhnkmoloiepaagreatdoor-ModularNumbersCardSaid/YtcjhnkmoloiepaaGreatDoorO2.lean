/- The walks of functions, printed by a program of this session out of its specs. -/
import Derived.Test.YtcjhnkmoloiepaaGreatDoorH9
import Derived.Test.YtcjhnkmoloiepaaGreatDoorH8
import Derived.Test.YtcjhnkmoloiepaaGreatDoorH4
import Derived.Test.YtcjhnkmoloiepaaGreatDoorFX
import Derived.Test.YtcjhnkmoloiepaaGreatDoorFT
import Derived.Test.YtcjhnkmoloiepaaGreatDoorFA
import Derived.Test.YtcjhnkmoloiepaaGreatDoorF8
import Derived.Test.YtcjhnkmoloiepaaGreatDoorQ3
import Derived.Test.YtcjhnkmoloiepaaGreatDoorKX
import Derived.Test.YtcjhnkmoloiepaaGreatDoorProg
import Derived.Test.YtcjhnkmoloiepaaGreatDoorF0
namespace Go.Proofs.YtcjhnkmoloiepaaGreatDoor
open Go Go.RowKit Go.Proofs.Vc
set_option linter.unusedVariables false
set_option linter.unusedSimpArgs false

set_option maxHeartbeats 4000000 in
theorem ModularNumbers_walk {g : Mem} {w : World} (hag : Agree g w) (hT : TabG Tryz.prog g) {a : Int} (z1 : -9223372036854775808 ≤ a) (z2 : a ≤ 9223372036854775807) {b : Int} (z3 : -2147483648 ≤ b) (z4 : b ≤ 2147483647) {c : Int} (z5 : -9223372036854775808 ≤ c) (z6 : c ≤ 9223372036854775807)  :
    CallTo Tryz.prog 4 #[.int .i64 a, .int .i32 b, .int .i64 c] w (Ret w g fun v g => v = .bool true) := by
  refine CallTo.enter (vs := [.int .i64 a, .int .i32 b, .int .i64 c]) zf155 (by kernel_rfl) rfl rfl rfl ?_
  have hst := St.init hag
  refine zsr ?_
  refine zA rfl hst rfl ?_
  refine zn4 ?_
  refine zM rfl hst rfl ?_
  refine stepK_call rfl rfl rfl rfl rfl hst (law02_prime hst.agree z5 z6) ?_
  clear hst
  intro v1 g1 w1 hst hle1 hcs1 hp1
  replace hT := hT.mono hle1
  obtain ⟨p, rfl, hp⟩ := hp1
  have hp0 : 0 < p := by have := hp.1; omega
  have hp1 := hp.2.1
  have sa := int_sz z1 z2
  have sk := int_sz (x := b) (by omega) (by omega)
  have sp := int_sz (x := p) (by omega) (by omega)
  have za := ratS_size sa
  have zk := ratS_size sk
  have zp := ratS_size sp
  have hm1 := Int.emod_nonneg a (show p ≠ 0 by omega)
  have hm2 := Int.emod_lt_of_pos a hp0
  refine zA rfl hst rfl ?_
  refine zn4 ?_
  refine zM rfl hst rfl ?_
  refine stepK_call rfl rfl rfl rfl rfl hst (snum_R hst.agree z1 z2) ?_
  clear hst
  intro v2 g2 w2 hst hle2 hcs2 hp2
  replace hT := hT.mono hle2
  obtain ⟨_, _, _, _, _, _, _, _, rfl, h16⟩ := hp2
  refine stepK_call rfl rfl rfl rfl rfl hst (snum_Text hst.agree h16 (sa.fitH (by decide))) ?_
  clear hst
  intro v3 g3 w3 hst hle3 hcs3 hp3
  replace hT := hT.mono hle3
  replace h16 := h16.mono hle3
  obtain rfl := hp3
  refine zM rfl hst rfl ?_
  refine stepK_call rfl rfl rfl rfl rfl hst (mod_Reduce (a := ratS (a : Rat)) hst.agree (by omega) (by omega) (by omega)) ?_
  clear hst
  intro v4 g4 w4 hst hle4 hcs4 hp4
  replace hT := hT.mono hle4
  replace h16 := h16.mono hle4
  obtain rfl := hp4
  rw [if_pos (redOk_text hp (den_one_mod hp)), decide_eq_true (redOk_text hp (den_one_mod hp)), getR_text, redM_int hp]
  refine zM rfl hst rfl ?_
  refine zE rfl hst rfl rfl ?_
  refine zE rfl hst rfl rfl ?_
  refine zA rfl hst rfl ?_
  refine zA rfl hst rfl ?_
  refine zn4 ?_
  refine zM rfl hst rfl ?_
  refine stepK_call rfl rfl rfl rfl rfl hst (rational_FromInt hst.agree hT z1 z2) ?_
  clear hst
  intro v5 g5 w5 hst hle5 hcs5 hp5
  replace hT := hT.mono hle5
  replace h16 := h16.mono hle5
  obtain rfl := hp5
  refine zM rfl hst rfl ?_
  refine stepK_d rfl rfl rfl hst (does_conv_i_i64 rfl (by kernel_rfl) (by kernel_rfl) rfl (by omega) (by omega)) ?_
  refine stepK_call rfl rfl rfl rfl rfl hst (rational_FromInt (x := b) hst.agree hT (by omega) (by omega)) ?_
  clear hst
  intro v6 g6 w6 hst hle6 hcs6 hp6
  replace hT := hT.mono hle6
  replace h16 := h16.mono hle6
  obtain rfl := hp6
  refine zM rfl hst rfl ?_
  refine stepK_call rfl rfl rfl rfl rfl hst (rational_FromInt (x := p) hst.agree hT (by omega) (by omega)) ?_
  clear hst
  intro v7 g7 w7 hst hle7 hcs7 hp7
  replace hT := hT.mono hle7
  replace h16 := h16.mono hle7
  obtain rfl := hp7
  refine stepK_call rfl rfl rfl rfl rfl hst (rational_Mul hst.agree hT (a := ratS (b : Rat)) (b := ratS (p : Rat)) (by omega) (by omega)) ?_
  clear hst
  intro v8 g8 w8 hst hle8 hcs8 hp8
  replace hT := hT.mono hle8
  replace h16 := h16.mono hle8
  obtain rfl := hp8
  rw [getR_text, getR_text]
  have zm := ratS_size (sk.mul sp)
  refine stepK_call rfl rfl rfl rfl rfl hst (rational_Add hst.agree hT (a := ratS (a : Rat)) (b := ratS ((b : Rat) * (p : Rat))) (by omega) (by omega)) ?_
  clear hst
  intro v9 g9 w9 hst hle9 hcs9 hp9
  replace hT := hT.mono hle9
  replace h16 := h16.mono hle9
  obtain rfl := hp9
  rw [getR_text, getR_text, show (a : Rat) + (b : Rat) * (p : Rat) = ((a + b * p : Int) : Rat) by rw [Rat.intCast_add, Rat.intCast_mul]]
  have zs := ratS_size (sa.add (sk.mul sp))
  rw [show (a : Rat) + (b : Rat) * (p : Rat) = ((a + b * p : Int) : Rat) by rw [Rat.intCast_add, Rat.intCast_mul]] at zs
  refine zM rfl hst rfl ?_
  refine stepK_call rfl rfl rfl rfl rfl hst (mod_Reduce (a := ratS ((a + b * p : Int) : Rat)) hst.agree (by omega) (by omega) (by omega)) ?_
  clear hst
  intro v10 g10 w10 hst hle10 hcs10 hp10
  replace hT := hT.mono hle10
  replace h16 := h16.mono hle10
  obtain rfl := hp10
  rw [if_pos (redOk_text hp (den_one_mod hp)), decide_eq_true (redOk_text hp (den_one_mod hp)), getR_text, redM_int hp, Int.add_mul_emod_self_right]
  refine zM rfl hst rfl ?_
  refine zE rfl hst rfl rfl ?_
  refine zE rfl hst rfl rfl ?_
  refine zA rfl hst rfl ?_
  refine zA rfl hst rfl ?_
  refine zn4 ?_
  refine zM rfl hst rfl ?_
  refine zM rfl hst rfl ?_
  refine wpK_splitb (t := 37) rfl ?_ ?_
  intro s37
  refine stepK_guard rfl rfl rfl rfl rfl rfl hst (does_move rfl rfl) ?_
  refine stepK_d rfl rfl rfl hst (does_pick_true rfl rfl rfl) ?_
  refine zM rfl hst rfl ?_
  refine wpK_splitb (t := 40) rfl ?_ ?_
  intro s40
  refine stepK_guard rfl rfl rfl rfl rfl rfl hst (does_move rfl rfl) ?_
  refine stepK_guard rfl rfl rfl rfl rfl rfl hst (does_move rfl rfl) ?_
  refine stepK_guard rfl rfl rfl rfl rfl rfl hst (Does.yes (does_eql rfl rfl rfl) rfl) ?_
  refine stepK_d rfl rfl rfl hst (does_pick_true rfl rfl rfl) ?_
  refine zM rfl hst rfl ?_
  refine stepK_guard rfl rfl rfl rfl rfl rfl hst (does_move rfl rfl) ?_
  refine stepK_guard rfl rfl rfl rfl rfl rfl hst (does_move rfl rfl) ?_
  refine stepK_guard rfl rfl rfl rfl rfl rfl hst (does_move rfl rfl) ?_
  refine stepK_guard rfl rfl rfl rfl rfl rfl hst (does_rem rfl rfl rfl (by omega)) ?_
  refine stepK_guard rfl rfl rfl rfl rfl rfl hst (does_move rfl rfl) ?_
  refine stepK_guard rfl rfl rfl rfl rfl rfl hst (Does.int (does_add rfl rfl rfl) (wrap_i64 (by have := tmod_fix a p hp0; split at this <;> omega) (by have := tmod_fix a p hp0; split at this <;> omega))) ?_
  refine stepK_guard rfl rfl rfl rfl rfl rfl hst (does_move rfl rfl) ?_
  refine stepK_guard rfl rfl rfl rfl rfl rfl hst (Does.int (b := a % p) (does_rem rfl rfl rfl (by omega)) (modL hp0)) ?_
  refine stepK_guard rfl rfl rfl rfl rfl rfl hst (Does.yes (does_eql rfl rfl rfl) rfl) ?_
  refine stepK_d rfl rfl rfl hst (does_pick_true rfl rfl rfl) ?_
  refine zM rfl hst rfl ?_
  refine stepK_call_guard rfl rfl rfl rfl rfl rfl rfl rfl hst (law02_awake hst.agree hT) ?_
  clear hst
  intro v11 g11 w11 hst hle11 hcs11 hp11
  replace hT := hT.mono hle11
  replace h16 := h16.mono hle11
  obtain rfl := hp11
  refine stepK_d rfl rfl rfl hst (does_pick_true rfl rfl rfl) ?_
  refine zA rfl hst rfl ?_
  refine znt ?_
  refine cp_ret ?_
  refine ret1 rfl rfl hst ?_
  first
  | rfl
  | contradiction
  | simp_all
  intro s40
  refine stepK_pass rfl rfl rfl rfl rfl rfl rfl ?_
  refine stepK_pass rfl rfl rfl rfl rfl rfl rfl ?_
  refine stepK_pass rfl rfl rfl rfl rfl rfl rfl ?_
  refine stepK_d rfl rfl rfl hst (does_pick_false rfl rfl rfl) ?_
  refine zM rfl hst rfl ?_
  refine stepK_pass rfl rfl rfl rfl rfl rfl rfl ?_
  refine stepK_pass rfl rfl rfl rfl rfl rfl rfl ?_
  refine stepK_pass rfl rfl rfl rfl rfl rfl rfl ?_
  refine stepK_pass rfl rfl rfl rfl rfl rfl rfl ?_
  refine stepK_pass rfl rfl rfl rfl rfl rfl rfl ?_
  refine stepK_pass rfl rfl rfl rfl rfl rfl rfl ?_
  refine stepK_pass rfl rfl rfl rfl rfl rfl rfl ?_
  refine stepK_pass rfl rfl rfl rfl rfl rfl rfl ?_
  refine stepK_pass rfl rfl rfl rfl rfl rfl rfl ?_
  refine stepK_d rfl rfl rfl hst (does_pick_false rfl rfl rfl) ?_
  refine zM rfl hst rfl ?_
  refine stepK_pass rfl rfl rfl rfl rfl rfl rfl ?_
  refine stepK_d rfl rfl rfl hst (does_pick_false rfl rfl rfl) ?_
  refine zA rfl hst rfl ?_
  refine znt ?_
  refine cp_ret ?_
  refine ret1 rfl rfl hst ?_
  first
  | rfl
  | contradiction
  | simp_all
  intro s37
  refine stepK_pass rfl rfl rfl rfl rfl rfl rfl ?_
  refine stepK_d rfl rfl rfl hst (does_pick_false rfl rfl rfl) ?_
  refine zM rfl hst rfl ?_
  refine stepK_pass rfl rfl rfl rfl rfl rfl rfl ?_
  refine stepK_pass rfl rfl rfl rfl rfl rfl rfl ?_
  refine stepK_pass rfl rfl rfl rfl rfl rfl rfl ?_
  refine stepK_d rfl rfl rfl hst (does_pick_false rfl rfl rfl) ?_
  refine zM rfl hst rfl ?_
  refine stepK_pass rfl rfl rfl rfl rfl rfl rfl ?_
  refine stepK_pass rfl rfl rfl rfl rfl rfl rfl ?_
  refine stepK_pass rfl rfl rfl rfl rfl rfl rfl ?_
  refine stepK_pass rfl rfl rfl rfl rfl rfl rfl ?_
  refine stepK_pass rfl rfl rfl rfl rfl rfl rfl ?_
  refine stepK_pass rfl rfl rfl rfl rfl rfl rfl ?_
  refine stepK_pass rfl rfl rfl rfl rfl rfl rfl ?_
  refine stepK_pass rfl rfl rfl rfl rfl rfl rfl ?_
  refine stepK_pass rfl rfl rfl rfl rfl rfl rfl ?_
  refine stepK_d rfl rfl rfl hst (does_pick_false rfl rfl rfl) ?_
  refine zM rfl hst rfl ?_
  refine stepK_pass rfl rfl rfl rfl rfl rfl rfl ?_
  refine stepK_d rfl rfl rfl hst (does_pick_false rfl rfl rfl) ?_
  refine zA rfl hst rfl ?_
  refine znt ?_
  refine cp_ret ?_
  refine ret1 rfl rfl hst ?_
  first
  | rfl
  | contradiction
  | simp_all

end Go.Proofs.YtcjhnkmoloiepaaGreatDoor
