/- The walks of functions, printed by a program of this session out of its specs. -/
import Derived.Test.YtbamjcfdlgnicaaGreatDoorQW
import Derived.Test.YtbamjcfdlgnicaaGreatDoorQ6
import Derived.Test.YtbamjcfdlgnicaaGreatDoorQX
import Derived.Test.YtbamjcfdlgnicaaGreatDoorQ3
import Derived.Test.YtbamjcfdlgnicaaGreatDoorProg
namespace Go.Proofs.YtbamjcfdlgnicaaGreatDoor
open Go Go.RowKit Go.Proofs.Vc
set_option linter.unusedVariables false
set_option linter.unusedSimpArgs false

set_option maxHeartbeats 4000000 in
theorem RationalRoots_walk {g : Mem} {w : World} (hag : Agree g w) (hT : TabG Tryz.prog g) {a : ByteArray} :
    CallTo Tryz.prog 15 #[.string a] w (Ret w g fun v g => v = .bool true) := by
  refine CallTo.enter (vs := [.string a]) (by kernel_rfl : Tryz.prog.funcs[15]? = some Tryz.f15) (by kernel_rfl) rfl rfl rfl ?_
  have hst := St.init hag
  refine cp_seq ?_
  refine cp_region ?_
  refine stepK_d rfl rfl rfl hst (does_assign rfl rfl) ?_
  refine wpK_nil ?_
  refine cp_then ?_
  refine cp_seq ?_
  refine cp_seq ?_
  refine cp_region ?_
  refine stepK_d rfl rfl rfl hst (does_move rfl rfl) ?_
  refine stepK_d rfl rfl rfl hst (does_len_string rfl (by kernel_rfl) rfl) ?_
  refine stepK_d rfl rfl rfl hst (does_gtr rfl rfl rfl) ?_
  refine wpK_nil ?_
  refine cp_then ?_
  refine cp_if rfl ?_ ?_
  · intro c8
    refine cp_seq ?_
    refine cp_region ?_
    refine stepK_call rfl rfl rfl rfl rfl hst (law01_awake hst.agree hT) ?_
    clear hst
    intro v1 g1 w1 hst hle1 hcs1 hp1
    replace hT := hT.mono hle1
    obtain rfl := hp1
    refine stepK_d rfl rfl rfl hst (does_assign rfl rfl) ?_
    refine wpK_nil ?_
    refine cp_then ?_
    refine cp_ret ?_
    refine at_then_ret ?_
    refine ret1 rfl rfl hst ?_
    rfl
  · intro c8
    have ha : a.size ≤ 100 := by omega
    have sa := getR_sz a
    have s1 := sa.mono (m := 101) (by omega)
    have z1 := ratS_size (s1.mul s1)
    have so : Sz 1 (1 : Rat) := ⟨by decide +kernel, by decide +kernel⟩
    have z2 := ratS_size ((s1.mul s1).add so)
    refine cp_skip ?_
    refine cp_then ?_
    refine cp_seq ?_
    refine cp_region ?_
    refine stepK_d rfl rfl rfl hst (does_move rfl rfl) ?_
    refine stepK_d rfl rfl rfl hst (does_move rfl rfl) ?_
    refine stepK_call rfl rfl rfl rfl rfl hst (rational_Mul hst.agree hT (a := a) (b := a) (by omega) (by omega)) ?_
    clear hst
    intro v2 g2 w2 hst hle2 hcs2 hp2
    replace hT := hT.mono hle2
    obtain rfl := hp2
    refine stepK_d rfl rfl rfl hst (does_assign rfl rfl) ?_
    refine wpK_nil ?_
    refine cp_then ?_
    refine cp_seq ?_
    refine cp_region ?_
    refine stepK_d rfl rfl rfl hst (does_move rfl rfl) ?_
    refine stepK_call rfl rfl rfl rfl rfl hst (rational_Root hst.agree hT (a := ratS (getR a * getR a)) (by first | omega | assumption)) ?_
    clear hst
    intro v3 g3 w3 hst hle3 hcs3 hp3
    replace hT := hT.mono hle3
    obtain rfl := hp3
    rw [getR_text, if_pos (sqR_sq _), decide_eq_true (sqR_sq _), rootR_sq]
    refine stepK_d rfl rfl rfl hst (does_move rfl rfl) ?_
    refine stepK_d rfl rfl rfl hst (does_extract rfl rfl rfl) ?_
    refine stepK_d rfl rfl rfl hst (does_extract rfl rfl rfl) ?_
    refine stepK_d rfl rfl rfl hst (does_assign rfl rfl) ?_
    refine stepK_d rfl rfl rfl hst (does_assign rfl rfl) ?_
    refine wpK_nil ?_
    refine cp_then ?_
    refine cp_seq ?_
    refine cp_seq ?_
    refine cp_region ?_
    refine stepK_d rfl rfl rfl hst (does_move rfl rfl) ?_
    refine stepK_d rfl rfl rfl hst (does_not rfl rfl) ?_
    refine stepK_d rfl rfl rfl hst (does_move rfl rfl) ?_
    refine wpK_splitb (t := 20) rfl ?_ ?_
    · intro s20
      exact absurd s20 (by simp)
    · intro s20
      refine stepK_guard rfl rfl rfl rfl rfl rfl hst (does_move rfl rfl) ?_
      refine stepK_guard rfl rfl rfl rfl rfl rfl hst (does_move rfl rfl) ?_
      refine stepK_call_guard rfl rfl rfl rfl rfl rfl rfl rfl hst (rational_Abs hst.agree hT (a := a) (by first | omega | assumption)) ?_
      clear hst
      intro v4 g4 w4 hst hle4 hcs4 hp4
      replace hT := hT.mono hle4
      obtain rfl := hp4
      refine stepK_guard rfl rfl rfl rfl rfl rfl hst (Does.no (does_neq_string rfl rfl rfl) (fun h => h rfl)) ?_
      refine stepK_d rfl rfl rfl hst (does_pick_false rfl rfl rfl) ?_
      refine wpK_nil ?_
      refine cp_then ?_
      refine cp_cond_false rfl ?_
      refine cp_skip ?_
      refine cp_then ?_
      refine cp_seq ?_
      refine cp_seq ?_
      refine cp_region ?_
      refine stepK_d rfl rfl rfl hst (does_move rfl rfl) ?_
      refine stepK_call rfl rfl rfl rfl rfl hst (rational_Floor hst.agree hT (a := a) (by first | omega | assumption)) ?_
      clear hst
      intro v5 g5 w5 hst hle5 hcs5 hp5
      replace hT := hT.mono hle5
      obtain rfl := hp5
      refine stepK_d rfl rfl rfl hst (does_move rfl rfl) ?_
      refine stepK_call rfl rfl rfl rfl rfl hst (rational_Add hst.agree hT (a := a) (b := ⟨#[48]⟩) (by omega) (by decide)) ?_
      clear hst
      intro v6 g6 w6 hst hle6 hcs6 hp6
      replace hT := hT.mono hle6
      obtain rfl := hp6
      rw [getR_eval t0, Rat.add_zero]
      refine stepK_d rfl rfl rfl hst (does_eql_string rfl rfl rfl) ?_
      refine stepK_d rfl rfl rfl hst (does_move rfl rfl) ?_
      refine wpK_split (t := 31) rfl ?_ ?_
      · intro s31
        refine stepK_guard rfl rfl rfl rfl rfl rfl hst (does_move rfl rfl) ?_
        refine stepK_call_guard rfl rfl rfl rfl rfl rfl rfl rfl hst (rational_Sign hst.agree (a := a) (by omega)) ?_
        clear hst
        intro v7 g7 w7 hst hle7 hcs7 hp7
        replace hT := hT.mono hle7
        obtain rfl := hp7
        refine stepK_guard rfl rfl rfl rfl rfl rfl hst (does_neq rfl rfl rfl) ?_
        refine stepK_d rfl rfl rfl hst (does_pick_true rfl rfl rfl) ?_
        refine wpK_nil ?_
        refine cp_then ?_
        refine cp_if rfl ?_ ?_
        · intro c35
          refine cp_seq ?_
          refine cp_region ?_
          refine stepK_d rfl rfl rfl hst (does_move rfl rfl) ?_
          refine stepK_call rfl rfl rfl rfl rfl hst (rational_Add hst.agree hT (a := ratS (getR a * getR a)) (b := ⟨#[49]⟩) (by first | omega | assumption) (by decide)) ?_
          clear hst
          intro v8 g8 w8 hst hle8 hcs8 hp8
          replace hT := hT.mono hle8
          obtain rfl := hp8
          rw [getR_text, getR_eval t1]
          refine stepK_call rfl rfl rfl rfl rfl hst (rational_Root hst.agree hT (a := ratS (getR a * getR a + 1)) (by first | omega | assumption)) ?_
          clear hst
          intro v9 g9 w9 hst hle9 hcs9 hp9
          replace hT := hT.mono hle9
          obtain rfl := hp9
          rw [getR_text]
          refine stepK_d rfl rfl rfl hst (does_move rfl rfl) ?_
          refine stepK_d rfl rfl rfl hst (does_extract rfl rfl rfl) ?_
          refine stepK_d rfl rfl rfl hst (does_extract rfl rfl rfl) ?_
          refine stepK_d rfl rfl rfl hst (does_assign rfl rfl) ?_
          refine wpK_nil ?_
          refine cp_then ?_
          refine cp_seq ?_
          refine cp_region ?_
          refine stepK_d rfl rfl rfl hst (does_move rfl rfl) ?_
          refine stepK_d rfl rfl rfl hst (does_not rfl rfl) ?_
          refine stepK_d rfl rfl rfl hst (does_move rfl rfl) ?_
          refine wpK_splitb (t := 44) rfl ?_ ?_
          · intro s44
            refine stepK_call_guard rfl rfl rfl rfl rfl rfl rfl rfl hst (law01_awake hst.agree hT) ?_
            clear hst
            intro v10 g10 w10 hst hle10 hcs10 hp10
            replace hT := hT.mono hle10
            obtain rfl := hp10
            refine stepK_d rfl rfl rfl hst (does_pick_true rfl rfl rfl) ?_
            refine stepK_d rfl rfl rfl hst (does_assign rfl rfl) ?_
            refine wpK_nil ?_
            refine cp_then ?_
            refine cp_ret ?_
            refine at_then_ret ?_
            refine ret1 rfl rfl hst ?_
            rfl
          · intro s44
            exact absurd (dec_of s44) (sqR_no (floor_int s31) (sign_ne.2 c35))
        · intro c35
          refine cp_skip ?_
          refine cp_then ?_
          refine cp_seq ?_
          refine cp_region ?_
          refine stepK_call rfl rfl rfl rfl rfl hst (law01_awake hst.agree hT) ?_
          clear hst
          intro v11 g11 w11 hst hle11 hcs11 hp11
          replace hT := hT.mono hle11
          obtain rfl := hp11
          refine stepK_d rfl rfl rfl hst (does_assign rfl rfl) ?_
          refine wpK_nil ?_
          refine cp_then ?_
          refine cp_ret ?_
          refine ret1 rfl rfl hst ?_
          rfl
      · intro s31
        refine stepK_pass rfl rfl rfl rfl rfl rfl rfl ?_
        refine stepK_pass rfl rfl rfl rfl rfl rfl rfl ?_
        refine stepK_pass rfl rfl rfl rfl rfl rfl rfl ?_
        refine stepK_d rfl rfl rfl hst (does_pick_false rfl rfl rfl) ?_
        refine wpK_nil ?_
        refine cp_then ?_
        refine cp_cond_false rfl ?_
        refine cp_skip ?_
        refine cp_then ?_
        refine cp_seq ?_
        refine cp_region ?_
        refine stepK_call rfl rfl rfl rfl rfl hst (law01_awake hst.agree hT) ?_
        clear hst
        intro v12 g12 w12 hst hle12 hcs12 hp12
        replace hT := hT.mono hle12
        obtain rfl := hp12
        refine stepK_d rfl rfl rfl hst (does_assign rfl rfl) ?_
        refine wpK_nil ?_
        refine cp_then ?_
        refine cp_ret ?_
        refine ret1 rfl rfl hst ?_
        rfl

end Go.Proofs.YtbamjcfdlgnicaaGreatDoor
