/- The walks of functions, printed by a program of this session out of its specs. -/
import Derived.Test.YtbamjcfdlgnicaaGreatDoorP6
import Derived.Test.YtbamjcfdlgnicaaGreatDoorPW
import Derived.Test.YtbamjcfdlgnicaaGreatDoorPS
import Derived.Test.YtbamjcfdlgnicaaGreatDoorQ3
import Derived.Test.YtbamjcfdlgnicaaGreatDoorProg
import Derived.Test.YtbamjcfdlgnicaaGreatDoorP0
namespace Go.Proofs.YtbamjcfdlgnicaaGreatDoor
open Go Go.RowKit Go.Proofs.Vc
set_option linter.unusedVariables false
set_option linter.unusedSimpArgs false

set_option maxHeartbeats 4000000 in
theorem RationalPow_walk {g : Mem} {w : World} (hag : Agree g w) (hT : TabG Tryz.prog g) {a : ByteArray} {n : Int} (h1 : -9223372036854775808 ≤ n) (h2 : n ≤ 9223372036854775807) :
    CallTo Tryz.prog 12 #[.string a, .int .i64 n] w (Ret w g fun v g => v = .bool true) := by
  refine CallTo.enter (vs := [.string a, .int .i64 n]) (by kernel_rfl : Tryz.prog.funcs[12]? = some Tryz.f12) (by kernel_rfl) rfl rfl rfl ?_
  have hst := St.init hag
  refine zsr ?_
  refine zA rfl hst rfl ?_
  refine znq ?_
  refine zsr ?_
  refine zM rfl hst rfl ?_
  refine stepK_d rfl rfl rfl hst (does_len_string rfl (by kernel_rfl) rfl) ?_
  refine stepK_d rfl rfl rfl hst (does_gtr rfl rfl rfl) ?_
  refine znt ?_
  refine cp_if rfl ?_ ?_
  · intro c11
    refine zsr ?_
    refine stepK_call rfl rfl rfl rfl rfl hst (law01_awake hst.agree hT) ?_
    clear hst
    intro v1 g1 w1 hst hle1 hcs1 hp1
    replace hT := hT.mono hle1
    obtain rfl := hp1
    refine zA rfl hst rfl ?_
    refine zn5 ?_
    refine ret1 rfl rfl hst ?_
    first
    | rfl
    | simp_all
  · intro c11
    have ha : a.size ≤ 12 := by omega
    refine cp_skip ?_
    refine cp_then ?_
    refine cp_join (ι := Int) (fun m => [(0, .string a), (1, .int .i64 m)]) (fun m w2 => ∃ g2, St w [] g g2 [] w2 ∧ TabG Tryz.prog g2) ?c2 ?d2
    case c2 =>
      refine zsr ?_
      refine zM rfl hst rfl ?_
      refine stepK_d rfl rfl rfl hst (does_gtr rfl rfl rfl) ?_
      refine zM rfl hst rfl ?_
      refine wpK_split (t := 15) rfl ?_ ?_
      · intro s15
        refine stepK_guard rfl rfl rfl rfl rfl rfl hst (does_move rfl rfl) ?_
        refine stepK_guard rfl rfl rfl rfl rfl rfl hst (does_leq rfl rfl rfl) ?_
        refine stepK_d rfl rfl rfl hst (does_pick_true rfl rfl rfl) ?_
        refine zM rfl hst rfl ?_
        refine wpK_split (t := 19) rfl ?_ ?_
        · intro s19
          refine stepK_pass rfl rfl rfl rfl rfl rfl rfl ?_
          refine stepK_pass rfl rfl rfl rfl rfl rfl rfl ?_
          refine stepK_pass rfl rfl rfl rfl rfl rfl rfl ?_
          refine stepK_passU rfl rfl rfl rfl rfl rfl ?_
          refine stepK_passU rfl rfl rfl rfl rfl rfl ?_
          refine stepK_pass rfl rfl rfl rfl rfl rfl rfl ?_
          refine stepK_d rfl rfl rfl hst (does_pick_true rfl rfl rfl) ?_
          refine znt ?_
          refine cp_cond_true rfl ?_
          refine cp_region ?_
          refine zM rfl hst rfl ?_
          refine stepK_call rfl rfl rfl rfl rfl hst (keep_Mod hst.agree (b := 121) h1 h2 (by decide) (by decide)) ?_
          clear hst
          intro v3 g3 w3 hst hle3 hcs3 hp3
          replace hT := hT.mono hle3
          obtain rfl := hp3
          have h5 := Int.emod_nonneg n (show ((121 : Nat) : Int) ≠ 0 by decide)
          have h6 := Int.emod_lt_of_pos n (show (0 : Int) < ((121 : Nat) : Int) by decide)
          refine stepK_d rfl rfl rfl hst (Does.int (does_sub rfl rfl rfl) (wrap_i64 (by omega) (by omega))) ?_
          refine zA rfl hst rfl ?_
          refine wpK_nil ?_
          refine join_end (n % ((121 : Nat) : Int) - 60) ?_ ?_
          · exact ⟨rfl, rfl, trivial⟩
          · exact ⟨_, hst, hT⟩
        · intro s19
          refine stepK_guard rfl rfl rfl rfl rfl rfl hst (does_move rfl rfl) ?_
          refine stepK_guard rfl rfl rfl rfl rfl rfl hst (does_lss rfl rfl rfl) ?_
          refine stepK_guard rfl rfl rfl rfl rfl rfl hst (does_move rfl rfl) ?_
          refine wpK_split (t := 22) rfl ?_ ?_
          · intro s22
            refine stepK_guard rfl rfl rfl rfl rfl rfl hst (does_move rfl rfl) ?_
            refine stepK_guard rfl rfl rfl rfl rfl rfl hst (does_geq rfl rfl rfl) ?_
            refine stepK_guard rfl rfl rfl rfl rfl rfl hst (does_pick_true rfl rfl rfl) ?_
            refine stepK_d rfl rfl rfl hst (does_pick_false rfl rfl rfl) ?_
            refine znt ?_
            refine cp_if rfl ?_ ?_
            · intro c26
              refine cp_region ?_
              refine zM rfl hst rfl ?_
              refine stepK_call rfl rfl rfl rfl rfl hst (keep_Mod hst.agree (b := 121) h1 h2 (by decide) (by decide)) ?_
              clear hst
              intro v4 g4 w4 hst hle4 hcs4 hp4
              replace hT := hT.mono hle4
              obtain rfl := hp4
              have h5 := Int.emod_nonneg n (show ((121 : Nat) : Int) ≠ 0 by decide)
              have h6 := Int.emod_lt_of_pos n (show (0 : Int) < ((121 : Nat) : Int) by decide)
              refine stepK_d rfl rfl rfl hst (Does.int (does_sub rfl rfl rfl) (wrap_i64 (by omega) (by omega))) ?_
              refine zA rfl hst rfl ?_
              refine wpK_nil ?_
              refine join_end (n % ((121 : Nat) : Int) - 60) ?_ ?_
              · exact ⟨rfl, rfl, trivial⟩
              · exact ⟨_, hst, hT⟩
            · intro c26
              refine cp_skip ?_
              refine join_end (n) ?_ ?_
              · exact ⟨rfl, rfl, trivial⟩
              · exact ⟨_, hst, hT⟩
          · intro s22
            refine stepK_pass rfl rfl rfl rfl rfl rfl rfl ?_
            refine stepK_pass rfl rfl rfl rfl rfl rfl rfl ?_
            refine stepK_guard rfl rfl rfl rfl rfl rfl hst (does_pick_false rfl rfl rfl) ?_
            refine stepK_d rfl rfl rfl hst (does_pick_false rfl rfl rfl) ?_
            refine znt ?_
            refine cp_cond_false rfl ?_
            refine cp_skip ?_
            refine join_end (n) ?_ ?_
            · exact ⟨rfl, rfl, trivial⟩
            · exact ⟨_, hst, hT⟩
      · intro s15
        refine stepK_pass rfl rfl rfl rfl rfl rfl rfl ?_
        refine stepK_pass rfl rfl rfl rfl rfl rfl rfl ?_
        refine stepK_d rfl rfl rfl hst (does_pick_false rfl rfl rfl) ?_
        refine zM rfl hst rfl ?_
        refine stepK_guard rfl rfl rfl rfl rfl rfl hst (does_move rfl rfl) ?_
        refine stepK_guard rfl rfl rfl rfl rfl rfl hst (does_lss rfl rfl rfl) ?_
        refine stepK_guard rfl rfl rfl rfl rfl rfl hst (does_move rfl rfl) ?_
        refine wpK_split (t := 22) rfl ?_ ?_
        · intro s22
          refine stepK_guard rfl rfl rfl rfl rfl rfl hst (does_move rfl rfl) ?_
          refine stepK_guard rfl rfl rfl rfl rfl rfl hst (does_geq rfl rfl rfl) ?_
          refine stepK_guard rfl rfl rfl rfl rfl rfl hst (does_pick_true rfl rfl rfl) ?_
          refine stepK_d rfl rfl rfl hst (does_pick_false rfl rfl rfl) ?_
          refine znt ?_
          refine cp_if rfl ?_ ?_
          · intro c26
            refine cp_region ?_
            refine zM rfl hst rfl ?_
            refine stepK_call rfl rfl rfl rfl rfl hst (keep_Mod hst.agree (b := 121) h1 h2 (by decide) (by decide)) ?_
            clear hst
            intro v5 g5 w5 hst hle5 hcs5 hp5
            replace hT := hT.mono hle5
            obtain rfl := hp5
            have h5 := Int.emod_nonneg n (show ((121 : Nat) : Int) ≠ 0 by decide)
            have h6 := Int.emod_lt_of_pos n (show (0 : Int) < ((121 : Nat) : Int) by decide)
            refine stepK_d rfl rfl rfl hst (Does.int (does_sub rfl rfl rfl) (wrap_i64 (by omega) (by omega))) ?_
            refine zA rfl hst rfl ?_
            refine wpK_nil ?_
            refine join_end (n % ((121 : Nat) : Int) - 60) ?_ ?_
            · exact ⟨rfl, rfl, trivial⟩
            · exact ⟨_, hst, hT⟩
          · intro c26
            refine cp_skip ?_
            refine join_end (n) ?_ ?_
            · exact ⟨rfl, rfl, trivial⟩
            · exact ⟨_, hst, hT⟩
        · intro s22
          refine stepK_pass rfl rfl rfl rfl rfl rfl rfl ?_
          refine stepK_pass rfl rfl rfl rfl rfl rfl rfl ?_
          refine stepK_guard rfl rfl rfl rfl rfl rfl hst (does_pick_false rfl rfl rfl) ?_
          refine stepK_d rfl rfl rfl hst (does_pick_false rfl rfl rfl) ?_
          refine znt ?_
          refine cp_cond_false rfl ?_
          refine cp_skip ?_
          refine join_end (n) ?_ ?_
          · exact ⟨rfl, rfl, trivial⟩
          · exact ⟨_, hst, hT⟩
    case d2 =>
      clear hst
      clear hT
      rintro m w2 ⟨g2, hst, hT⟩
      refine zsr ?_
      refine zM rfl hst rfl ?_
      refine zM rfl hst rfl ?_
      refine stepK_call rfl rfl rfl rfl rfl hst (rational_Pow hst.agree hT (a := a) (n := m) (by omega)) ?_
      clear hst
      intro v6 g6 w6 hst hle6 hcs6 hp6
      replace hT := hT.mono hle6
      obtain rfl := hp6
      refine zM rfl hst rfl ?_
      refine zE rfl hst rfl rfl ?_
      refine zE rfl hst rfl rfl ?_
      refine zA rfl hst rfl ?_
      refine zA rfl hst rfl ?_
      refine zn4 ?_
      refine zM rfl hst rfl ?_
      refine zM rfl hst rfl ?_
      refine stepK_call rfl rfl rfl rfl rfl hst (sref_Pow hst.agree (a := a) (n := m) (by omega)) ?_
      clear hst
      intro v7 g7 w7 hst hle7 hcs7 hp7
      replace hT := hT.mono hle7
      obtain rfl := hp7
      refine zM rfl hst rfl ?_
      refine zE rfl hst rfl rfl ?_
      refine zE rfl hst rfl rfl ?_
      refine zA rfl hst rfl ?_
      refine zA rfl hst rfl ?_
      refine zn4 ?_
      refine zM rfl hst rfl ?_
      refine zM rfl hst rfl ?_
      refine stepK_d rfl rfl rfl hst (Does.yes (does_eql_string rfl rfl rfl) rfl) ?_
      refine zM rfl hst rfl ?_
      refine stepK_guard rfl rfl rfl rfl rfl rfl hst (does_move rfl rfl) ?_
      refine stepK_guard rfl rfl rfl rfl rfl rfl hst (does_move rfl rfl) ?_
      refine stepK_guard rfl rfl rfl rfl rfl rfl hst (Does.btrue' (does_eql_bool rfl (by kernel_rfl) rfl rfl) (same_dec' Iff.rfl)) ?_
      refine stepK_d rfl rfl rfl hst (does_pick_true rfl rfl rfl) ?_
      refine zM rfl hst rfl ?_
      refine stepK_call_guard rfl rfl rfl rfl rfl rfl rfl rfl hst (law01_awake hst.agree hT) ?_
      clear hst
      intro v8 g8 w8 hst hle8 hcs8 hp8
      replace hT := hT.mono hle8
      obtain rfl := hp8
      refine stepK_d rfl rfl rfl hst (does_pick_true rfl rfl rfl) ?_
      refine zA rfl hst rfl ?_
      refine znt ?_
      refine cp_ret ?_
      refine ret1 rfl rfl hst ?_
      first
      | rfl
      | simp_all

end Go.Proofs.YtbamjcfdlgnicaaGreatDoor
