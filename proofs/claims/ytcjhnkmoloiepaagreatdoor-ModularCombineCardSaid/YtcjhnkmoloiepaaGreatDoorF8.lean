/- A helper of the claim: general lemmas and walks of functions, printed by a program of this session. Conditions: none. -/
import Derived.Test.YtcjhnkmoloiepaaGreatDoorF7
import Derived.Test.YtcjhnkmoloiepaaGreatDoorQ3
import Derived.Test.YtcjhnkmoloiepaaGreatDoorProg
import Derived.Test.YtcjhnkmoloiepaaGreatDoorF0
namespace Go.Proofs.YtcjhnkmoloiepaaGreatDoor
open Go Go.RowKit Go.Proofs.Vc
set_option linter.unusedVariables false
set_option linter.unusedSimpArgs false

set_option maxHeartbeats 1000000 in
theorem snum_make1 {g : Mem} {w : World} (hag : Agree g w) {sn : Bool} {A : Option Addr} {n c N : Nat} (ha : IsHat g A n N) :
    CallTo Tryz.prog 98 #[.bool sn, .slice A n c] w (Ret w g fun v g => ∃ ng A n c, v = .agg #[.bool ng, .slice A n c] ∧ IsZ g ng A n (sg sn N)) := by
  refine CallTo.enter (vs := [.bool sn, .slice A n c]) zf90 (by kernel_rfl) rfl rfl rfl ?_
  have hst := St.init hag
  refine zsr ?_
  refine stepK_alloc rfl rfl rfl rfl zf91 rfl hst ?_
  clear hst
  intro b1 w1 hst
  refine zn4 ?_
  refine zM rfl hst rfl ?_
  refine zM rfl hst rfl ?_
  refine wpK_splitb (t := 6) rfl ?_ ?_
  intro s6
  subst s6
  have hz0 := ha.zero_iff
  refine stepK_guard rfl rfl rfl rfl rfl rfl hst (does_move rfl rfl) ?_
  refine stepK_guard rfl rfl rfl rfl rfl rfl hst (does_len_slice rfl zf80 rfl) ?_
  refine stepK_guard rfl rfl rfl rfl rfl rfl hst (does_gtr rfl rfl rfl) ?_
  refine stepK_d rfl rfl rfl hst (does_pick_true rfl rfl rfl) ?_
  refine zM rfl hst rfl ?_
  refine stepK_d rfl rfl rfl hst (does_build rfl zf92 rfl rfl) ?_
  refine stepK_store 0 rfl rfl rfl rfl rfl rfl zf93 rfl rfl hst rfl (by first | (simp [uN_length]; omega) | simp) ?_
  clear hst
  intro w2 hst
  simp only [zL, splice, Nat.reduceAdd] at hst
  refine znt ?_
  refine cp_ret ?_
  refine ret1c (k := 0) rfl rfl (by kernel_rfl) (by kernel_rfl) rfl hst rfl ?_
  refine ⟨_, _, _, _, rfl, ?_⟩
  have h9 := IsZ.mk true ha
  rw [show decide (sg true N < 0) = decide (0 < (n : Int)) from decide_eq_decide.2 (by simp only [sg, if_true]; omega)] at h9
  exact h9
  intro s6
  refine stepK_pass rfl rfl rfl rfl rfl rfl rfl ?_
  refine stepK_pass rfl rfl rfl rfl rfl rfl rfl ?_
  refine stepK_pass rfl rfl rfl rfl rfl rfl rfl ?_
  refine stepK_d rfl rfl rfl hst (does_pick_false rfl rfl rfl) ?_
  refine zM rfl hst rfl ?_
  refine stepK_d rfl rfl rfl hst (does_build rfl zf92 rfl rfl) ?_
  refine stepK_store 0 rfl rfl rfl rfl rfl rfl zf93 rfl rfl hst rfl (by first | (simp [uN_length]; omega) | simp) ?_
  clear hst
  intro w3 hst
  simp only [zL, splice, Nat.reduceAdd] at hst
  refine znt ?_
  refine cp_ret ?_
  refine ret1c (k := 0) rfl rfl (by kernel_rfl) (by kernel_rfl) rfl hst rfl ?_
  subst s6
  refine ⟨_, _, _, _, rfl, ?_⟩
  have h9 := IsZ.mk false ha
  rw [show decide (sg false N < 0) = false from decide_eq_false (by simp [sg])] at h9
  exact h9

set_option maxHeartbeats 1000000 in
theorem snum_FromInt {g : Mem} {w : World} (hag : Agree g w) {x : Int} (h1 : -9223372036854775808 ≤ x) (h2 : x ≤ 9223372036854775807) :
    CallTo Tryz.prog 57 #[.int .i64 x] w (Ret w g fun v g => ∃ ng A n c, v = .agg #[.bool ng, .slice A n c] ∧ IsZ g ng A n (x)) := by
  refine CallTo.enter (vs := [.int .i64 x]) zf94 (by kernel_rfl) rfl rfl rfl ?_
  have hst := St.init hag
  refine zsr ?_
  refine stepK_alloc rfl rfl rfl rfl zf91 rfl hst ?_
  clear hst
  intro bz w1 hst
  refine zn4 ?_
  refine zM rfl hst rfl ?_
  refine stepK_d rfl rfl rfl hst (Does.nat (b := u64of x) (does_conv rfl (by kernel_rfl) (by kernel_rfl) rfl) (u64of_conv h1 h2)) ?_
  refine zA rfl hst rfl ?_
  refine znt ?_
  refine cp_join (ι := Nat) (fun u => [(0, .int .i64 x), (2, .pointer (some ⟨bz, 0, none⟩)), (3, .int .u64 (u : Int))]) (fun u w2 => St w [] g g [(bz, .cells #[.bool false, .slice none 0 0] 31 (0, 0))] w2 ∧ u = x.natAbs) ?c2 ?d2
  case c2 =>
    refine zsr ?_
    refine zM rfl hst rfl ?_
    refine stepK_d rfl rfl rfl hst (does_lss rfl rfl rfl) ?_
    refine znt ?_
    refine cp_if rfl ?_ ?_
    intro c7
    refine cp_region ?_
    refine zM rfl hst rfl ?_
    refine stepK_d rfl rfl rfl hst (Does.nat (b := (18446744073709551616 - u64of x % 18446744073709551616) % 18446744073709551616) (does_neg_u64 rfl rfl) rfl) ?_
    refine zA rfl hst rfl ?_
    refine wpK_nil ?_
    refine join_end (x.natAbs) ?_ ?_
    exact ⟨rfl, rfl, kint (congrArg Nat.cast (u64of_neg h1 c7)), trivial⟩
    exact ⟨hst, rfl⟩
    intro c7
    refine cp_skip ?_
    refine join_end (x.natAbs) ?_ ?_
    exact ⟨rfl, rfl, kint (congrArg Nat.cast (u64of_pos h2 (by omega))), trivial⟩
    exact ⟨hst, rfl⟩
  case d2 =>
    clear hst
    rintro u w2 ⟨hst, hu⟩
    refine zsr ?_
    refine zM rfl hst rfl ?_
    refine stepK_d rfl rfl rfl hst (does_lss rfl rfl rfl) ?_
    refine zM rfl hst rfl ?_
    refine stepK_d rfl rfl rfl hst (does_conv_n_u32 rfl (by kernel_rfl) (by kernel_rfl) rfl) ?_
    refine zM rfl hst rfl ?_
    refine stepK_d rfl rfl rfl hst (does_shr32 rfl rfl rfl) ?_
    refine stepK_d rfl rfl rfl hst (does_conv_n_u32 rfl (by kernel_rfl) (by kernel_rfl) rfl) ?_
    refine stepK_buildSlice rfl rfl rfl rfl zf80 zf84 rfl rfl (by decide) (by decide) (by decide) rfl rfl hst ?_
    clear hst
    intro bs w3 hst
    have hul : u < 18446744073709551616 := by omega
    obtain ⟨hst, hle9⟩ := hst.publish 1 rfl
    replace hst : St w [] g _ [(bz, .cells #[.bool false, .slice none 0 0] 31 (0, 0))] _ := hst
    refine stepK_call rfl rfl rfl rfl rfl hst (snum_trim hst.agree (ws := [u % 4294967296, u / 4294967296 % 4294967296]) (SlN.put_uN (ws := [u % 4294967296, u / 4294967296 % 4294967296])) (HWords.cons (Nat.mod_lt _ (by decide)) (HWords.cons (Nat.mod_lt _ (by decide)) HWords.nil)) (by decide) (by decide)) ?_
    clear hst
    intro v4 g4 w4 hst hle4 hcs4 hp4
    obtain ⟨A4, n4, c4, rfl, hn4⟩ := hp4
    refine stepK_call rfl rfl rfl rfl rfl hst (snum_make1 hst.agree (by assumption)) ?_
    clear hst
    intro v5 g5 w5 hst hle5 hcs5 hp5
    replace hn4 := hn4.mono hle5
    obtain ⟨ng5, A5, n5, c5, rfl, hz5⟩ := hp5
    refine stepK_store 0 rfl rfl rfl rfl rfl rfl zf93 rfl rfl hst rfl (by first | (simp [uN_length]; omega) | simp) ?_
    clear hst
    intro w6 hst
    simp only [zL, splice, Nat.reduceAdd] at hst
    refine znt ?_
    refine cp_ret ?_
    refine ret1c (k := 0) rfl rfl (by kernel_rfl) (by kernel_rfl) rfl hst rfl ?_
    refine ⟨_, _, _, _, rfl, ?_⟩
    have h9 : hval [u % 4294967296, u / 4294967296 % 4294967296] = x.natAbs := by simp only [hval]; omega
    have h8 : x = sg (decide (x < 0)) (hval [u % 4294967296, u / 4294967296 % 4294967296]) := by rw [h9, sg_int]
    rw [h8]
    assumption

set_option maxHeartbeats 1000000 in
theorem snum_Sign {g : Mem} {w : World} (hag : Agree g w) {na : Bool} {A : Option Addr} {n c : Nat} {x : Int} (ha : IsZ g na A n x)  :
    CallTo Tryz.prog 75 #[.agg #[.bool na, .slice A n c]] w (Ret w g fun v g => v = .int .i64 x.sign) := by
  refine CallTo.enter (vs := [.agg #[.bool na, .slice A n c]]) zf95 (by kernel_rfl) rfl rfl rfl ?_
  have hst := St.init hag
  refine zsr ?_
  refine stepK_box rfl rfl rfl rfl rfl rfl hst ?_
  clear hst
  intro b1 w1 hst
  refine zA rfl hst rfl ?_
  refine znq ?_
  refine cp_block ?_
  refine zsr ?_
  refine stepK_d rfl rfl rfl hst (does_fieldAddr rfl zf96 rfl) ?_
  refine stepK_d rfl rfl rfl hst (does_load_ownL 0 rfl (by kernel_rfl) rfl rfl rfl) ?_
  refine zA rfl hst rfl ?_
  refine znt ?_
  refine cp_cond rfl ?_ ?_
  intro c3
  refine zsr ?_
  refine zA rfl hst rfl ?_
  refine znt ?_
  refine cp_ret ?_
  refine at_block_ret ?_
  refine at_then_ret ?_
  refine ret1 rfl rfl hst ?_
  have h9 := ha.2
  rw [c3] at h9
  rw [Int.sign_eq_neg_one_of_neg (of_decide_eq_true h9.symm)]
  intro c3
  refine zsr ?_
  refine stepK_d rfl rfl rfl hst (does_fieldAddr rfl zf97 rfl) ?_
  refine stepK_d rfl rfl rfl hst (does_load_ownL 0 rfl (by kernel_rfl) rfl rfl rfl) ?_
  refine stepK_d rfl rfl rfl hst (does_len_slice rfl zf80 rfl) ?_
  refine stepK_d rfl rfl rfl hst (does_eql rfl rfl rfl) ?_
  refine zA rfl hst rfl ?_
  refine znt ?_
  refine cp_if rfl ?_ ?_
  intro c6
  refine zsr ?_
  refine zA rfl hst rfl ?_
  refine znt ?_
  refine cp_ret ?_
  refine at_block_ret ?_
  refine at_then_ret ?_
  refine ret1 rfl rfl hst ?_
  rw [ha.z0.1 (by omega)]
  rfl
  intro c6
  refine cp_skip ?_
  refine at_block_normal ?_
  refine cp_then ?_
  refine zsr ?_
  refine zA rfl hst rfl ?_
  refine znt ?_
  refine cp_ret ?_
  refine ret1 rfl rfl hst ?_
  have h9 := ha.2
  rw [c3] at h9
  have h8 := of_decide_eq_false h9.symm
  have h7 : x ≠ 0 := fun e => by have := ha.z0.2 e; omega
  rw [Int.sign_eq_one_of_pos (by omega)]

set_option maxHeartbeats 1000000 in
theorem snum_Neg {g : Mem} {w : World} (hag : Agree g w) {na : Bool} {A : Option Addr} {n c : Nat} {x : Int} (ha : IsZ g na A n x)  :
    CallTo Tryz.prog 78 #[.agg #[.bool na, .slice A n c]] w (Ret w g fun v g => ∃ ng A n c, v = .agg #[.bool ng, .slice A n c] ∧ IsZ g ng A n (-x)) := by
  refine CallTo.enter (vs := [.agg #[.bool na, .slice A n c]]) zf98 (by kernel_rfl) rfl rfl rfl ?_
  have hst := St.init hag
  refine zsr ?_
  refine stepK_box rfl rfl rfl rfl rfl rfl hst ?_
  clear hst
  intro b1 w1 hst
  refine stepK_alloc rfl rfl rfl rfl zf91 rfl hst ?_
  clear hst
  intro b2 w2 hst
  refine zn4 ?_
  refine stepK_d rfl rfl rfl hst (does_fieldAddr rfl zf96 rfl) ?_
  refine stepK_d rfl rfl rfl hst (does_load_ownL 0 rfl (by kernel_rfl) rfl rfl rfl) ?_
  refine stepK_d rfl rfl rfl hst (does_not rfl rfl) ?_
  refine stepK_d rfl rfl rfl hst (does_fieldAddr rfl zf97 rfl) ?_
  refine stepK_d rfl rfl rfl hst (does_load_ownL 0 rfl (by kernel_rfl) rfl rfl rfl) ?_
  refine stepK_call rfl rfl rfl rfl rfl hst (snum_make1 hst.agree ha.1) ?_
  clear hst
  intro v3 g3 w3 hst hle3 hcs3 hp3
  replace ha := ha.mono hle3
  obtain ⟨ng3, A3, n3, c3, rfl, hz3⟩ := hp3
  refine stepK_store 1 rfl rfl rfl rfl rfl rfl zf93 rfl rfl hst rfl (by first | (simp [uN_length]; omega) | simp) ?_
  clear hst
  intro w4 hst
  simp only [zL, splice, Nat.reduceAdd] at hst
  refine znt ?_
  refine cp_ret ?_
  refine ret1c (k := 1) rfl rfl (by kernel_rfl) (by kernel_rfl) rfl hst rfl ?_
  refine ⟨_, _, _, _, rfl, ?_⟩
  rw [← neg_eta ha]
  assumption

end Go.Proofs.YtcjhnkmoloiepaaGreatDoor

namespace Go.Proofs.YtcjhnkmoloiepaaGreatDoor
open Go Go.RowKit Go.Proofs.Vc
set_option linter.unusedVariables false
set_option linter.unusedSimpArgs false

set_option maxHeartbeats 1000000 in
theorem snum_Add {g : Mem} {w : World} (hag : Agree g w) {na : Bool} {A : Option Addr} {n c : Nat} {x : Int} (ha : IsZ g na A n x) {nb : Bool} {B : Option Addr} {m d : Nat} {y : Int} (hb : IsZ g nb B m y) (hn : n ≤ 17592186044415) (hm : m ≤ 17592186044415) :
    CallTo Tryz.prog 64 #[.agg #[.bool na, .slice A n c], .agg #[.bool nb, .slice B m d]] w (Ret w g fun v g => ∃ ng A n c, v = .agg #[.bool ng, .slice A n c] ∧ IsZ g ng A n (x + y)) := by
  refine CallTo.enter (vs := [.agg #[.bool na, .slice A n c], .agg #[.bool nb, .slice B m d]]) zf99 (by kernel_rfl) rfl rfl rfl ?_
  have hst := St.init hag
  refine zsr ?_
  refine stepK_box rfl rfl rfl rfl rfl rfl hst ?_
  clear hst
  intro b1 w1 hst
  refine stepK_box rfl rfl rfl rfl rfl rfl hst ?_
  clear hst
  intro b2 w2 hst
  refine stepK_alloc rfl rfl rfl rfl zf91 rfl hst ?_
  clear hst
  intro b3 w3 hst
  refine znq ?_
  refine zsr ?_
  refine stepK_d rfl rfl rfl hst (does_fieldAddr rfl zf96 rfl) ?_
  refine stepK_d rfl rfl rfl hst (does_load_ownL 0 rfl (by kernel_rfl) rfl rfl rfl) ?_
  refine stepK_d rfl rfl rfl hst (does_fieldAddr rfl zf96 rfl) ?_
  refine stepK_d rfl rfl rfl hst (does_load_ownL 1 rfl (by kernel_rfl) rfl rfl rfl) ?_
  refine stepK_d rfl rfl rfl hst (does_eql_bool rfl (by kernel_rfl) rfl rfl) ?_
  refine znt ?_
  refine cp_cond rfl ?_ ?_
  intro c9
  have hs := eq_of_beq c9
  refine cp_seq ?_
  refine cp_drawn (by kernel_rfl) 8 [(0, true), (1, true), (2, true), (3, true), (4, true), (5, true), (6, false), (7, false)] _ rfl (by kernel_rfl) (by kernel_rfl) (by kernel_rfl) (fun _ _ _ _ _ h => h) _ (hst.drew) ?_
  have hst0 := hst.drew
  clear hst
  have hst := hst0
  refine stepD_d rfl rfl rfl rfl (does_fieldAddr rfl zf96 rfl) ?_
  refine stepD_d rfl rfl rfl rfl (does_load_ownL 0 rfl (by kernel_rfl) rfl rfl rfl) ?_
  refine stepD_d rfl rfl rfl rfl (does_fieldAddr rfl zf97 rfl) ?_
  refine stepD_d rfl rfl rfl rfl (does_load_ownL 0 rfl (by kernel_rfl) rfl rfl rfl) ?_
  refine stepD_d rfl rfl rfl rfl (does_fieldAddr rfl zf97 rfl) ?_
  refine stepD_d rfl rfl rfl rfl (does_load_ownL 1 rfl (by kernel_rfl) rfl rfl rfl) ?_
  refine stepD_call rfl rfl rfl rfl rfl rfl hst (snum_addMag hst.agree ha.1 hb.1 hn hm) (fun _ _ h hle => St.older h hle (by simp) hst0.ext hst0.le) ?_
  clear hst
  intro v4 g4 w4 hst hle4 hcs4 hp4
  have hlesum := hle4
  replace ha := ha.mono hle4
  replace hb := hb.mono hle4
  obtain ⟨A4, n4, c4, rfl, hn4⟩ := hp4
  refine stepD_call rfl rfl rfl rfl rfl rfl hst (snum_make1 hst.agree (by assumption)) (fun _ _ h hle => St.older h (Mem.le.trans hlesum hle) (by simp) hst0.ext hst0.le) ?_
  clear hst
  intro v5 g5 w5 hst hle5 hcs5 hp5
  replace hlesum := Mem.le.trans hlesum hle5
  replace ha := ha.mono hle5
  replace hb := hb.mono hle5
  replace hn4 := hn4.mono hle5
  obtain ⟨ng5, A5, n5, c5, rfl, hz5⟩ := hp5
  refine stepD_tail ?_
  refine stepK_store 2 rfl rfl rfl rfl rfl rfl zf93 rfl rfl hst rfl (by first | (simp [uN_length]; omega) | simp) ?_
  clear hst
  intro w6 hst
  simp only [zL, splice, Nat.reduceAdd] at hst
  refine zn5 ?_
  refine ret1c (k := 2) rfl rfl (by kernel_rfl) (by kernel_rfl) rfl hst rfl ?_
  refine ⟨_, _, _, _, rfl, ?_⟩
  rw [show x + y = sg na (x.natAbs + y.natAbs) by rw [sg_add, ha.eta, hs, hb.eta]]
  assumption
  intro c9
  have hs := ne_of_beq_false c9
  refine cp_skip ?_
  refine cp_then ?_
  refine cp_seq ?_
  refine zsr ?_
  refine stepK_d rfl rfl rfl hst (does_fieldAddr rfl zf97 rfl) ?_
  refine stepK_d rfl rfl rfl hst (does_load_ownL 0 rfl (by kernel_rfl) rfl rfl rfl) ?_
  refine stepK_d rfl rfl rfl hst (does_fieldAddr rfl zf97 rfl) ?_
  refine stepK_d rfl rfl rfl hst (does_load_ownL 1 rfl (by kernel_rfl) rfl rfl rfl) ?_
  refine stepK_call rfl rfl rfl rfl rfl hst (snum_cmpMag hst.agree ha.1 hb.1 (by omega)) ?_
  clear hst
  intro v7 g7 w7 hst hle7 hcs7 hp7
  replace ha := ha.mono hle7
  replace hb := hb.mono hle7
  obtain rfl := hp7
  refine stepK_d rfl rfl rfl hst (does_geq rfl rfl rfl) ?_
  refine znt ?_
  refine cp_if rfl ?_ ?_
  intro c23
  have hle := cmpN_nonneg.1 c23
  refine cp_seq ?_
  refine cp_drawn (by kernel_rfl) 8 [(0, true), (1, true), (2, true), (3, true), (4, true), (5, true), (6, false), (7, false)] _ rfl (by kernel_rfl) (by kernel_rfl) (by kernel_rfl) (fun _ _ _ _ _ h => h) _ (hst.drew) ?_
  have hst0 := hst.drew
  clear hst
  have hst := hst0
  refine stepD_d rfl rfl rfl rfl (does_fieldAddr rfl zf96 rfl) ?_
  refine stepD_d rfl rfl rfl rfl (does_load_ownL 0 rfl (by kernel_rfl) rfl rfl rfl) ?_
  refine stepD_d rfl rfl rfl rfl (does_fieldAddr rfl zf97 rfl) ?_
  refine stepD_d rfl rfl rfl rfl (does_load_ownL 0 rfl (by kernel_rfl) rfl rfl rfl) ?_
  refine stepD_d rfl rfl rfl rfl (does_fieldAddr rfl zf97 rfl) ?_
  refine stepD_d rfl rfl rfl rfl (does_load_ownL 1 rfl (by kernel_rfl) rfl rfl rfl) ?_
  refine stepD_call rfl rfl rfl rfl rfl rfl hst (snum_subMag hst.agree ha.1 hb.1 hn hle) (fun _ _ h hle => St.older h hle (by simp) hst0.ext hst0.le) ?_
  clear hst
  intro v8 g8 w8 hst hle8 hcs8 hp8
  have hlesum := hle8
  replace ha := ha.mono hle8
  replace hb := hb.mono hle8
  obtain ⟨A8, n8, c8, rfl, hn8⟩ := hp8
  refine stepD_call rfl rfl rfl rfl rfl rfl hst (snum_make1 hst.agree (by assumption)) (fun _ _ h hle => St.older h (Mem.le.trans hlesum hle) (by simp) hst0.ext hst0.le) ?_
  clear hst
  intro v9 g9 w9 hst hle9 hcs9 hp9
  replace hlesum := Mem.le.trans hlesum hle9
  replace ha := ha.mono hle9
  replace hb := hb.mono hle9
  replace hn8 := hn8.mono hle9
  obtain ⟨ng9, A9, n9, c9, rfl, hz9⟩ := hp9
  refine stepD_tail ?_
  refine stepK_store 2 rfl rfl rfl rfl rfl rfl zf93 rfl rfl hst rfl (by first | (simp [uN_length]; omega) | simp) ?_
  clear hst
  intro w10 hst
  simp only [zL, splice, Nat.reduceAdd] at hst
  refine zn5 ?_
  refine ret1c (k := 2) rfl rfl (by kernel_rfl) (by kernel_rfl) rfl hst rfl ?_
  refine ⟨_, _, _, _, rfl, ?_⟩
  rw [show x + y = sg na (x.natAbs - y.natAbs) by rw [sg_sub hle hs, ha.eta, hb.eta]]
  assumption
  intro c23
  have hle : x.natAbs ≤ y.natAbs := Nat.le_of_lt (Nat.lt_of_not_le fun h => c23 (cmpN_nonneg.2 h))
  refine cp_skip ?_
  refine cp_then ?_
  refine cp_seq ?_
  refine cp_drawn (by kernel_rfl) 8 [(0, true), (1, true), (2, true), (3, true), (4, true), (5, true), (6, false), (7, false)] _ rfl (by kernel_rfl) (by kernel_rfl) (by kernel_rfl) (fun _ _ _ _ _ h => h) _ (hst.drew) ?_
  have hst0 := hst.drew
  clear hst
  have hst := hst0
  refine stepD_d rfl rfl rfl rfl (does_fieldAddr rfl zf96 rfl) ?_
  refine stepD_d rfl rfl rfl rfl (does_load_ownL 1 rfl (by kernel_rfl) rfl rfl rfl) ?_
  refine stepD_d rfl rfl rfl rfl (does_fieldAddr rfl zf97 rfl) ?_
  refine stepD_d rfl rfl rfl rfl (does_load_ownL 1 rfl (by kernel_rfl) rfl rfl rfl) ?_
  refine stepD_d rfl rfl rfl rfl (does_fieldAddr rfl zf97 rfl) ?_
  refine stepD_d rfl rfl rfl rfl (does_load_ownL 0 rfl (by kernel_rfl) rfl rfl rfl) ?_
  refine stepD_call rfl rfl rfl rfl rfl rfl hst (snum_subMag hst.agree hb.1 ha.1 hm hle) (fun _ _ h hle => St.older h hle (by simp) hst0.ext hst0.le) ?_
  clear hst
  intro v11 g11 w11 hst hle11 hcs11 hp11
  have hlesum := hle11
  replace ha := ha.mono hle11
  replace hb := hb.mono hle11
  obtain ⟨A11, n11, c11, rfl, hn11⟩ := hp11
  refine stepD_call rfl rfl rfl rfl rfl rfl hst (snum_make1 hst.agree (by assumption)) (fun _ _ h hle => St.older h (Mem.le.trans hlesum hle) (by simp) hst0.ext hst0.le) ?_
  clear hst
  intro v12 g12 w12 hst hle12 hcs12 hp12
  replace hlesum := Mem.le.trans hlesum hle12
  replace ha := ha.mono hle12
  replace hb := hb.mono hle12
  replace hn11 := hn11.mono hle12
  obtain ⟨ng12, A12, n12, c12, rfl, hz12⟩ := hp12
  refine stepD_tail ?_
  refine stepK_store 2 rfl rfl rfl rfl rfl rfl zf93 rfl rfl hst rfl (by first | (simp [uN_length]; omega) | simp) ?_
  clear hst
  intro w13 hst
  simp only [zL, splice, Nat.reduceAdd] at hst
  refine znt ?_
  refine cp_ret ?_
  refine ret1c (k := 2) rfl rfl (by kernel_rfl) (by kernel_rfl) rfl hst rfl ?_
  refine ⟨_, _, _, _, rfl, ?_⟩
  rw [show x + y = sg nb (y.natAbs - x.natAbs) by rw [sg_sub hle (Ne.symm hs), ha.eta, hb.eta, Int.add_comm]]
  assumption

set_option maxHeartbeats 1000000 in
theorem snum_Sub {g : Mem} {w : World} (hag : Agree g w) {na : Bool} {A : Option Addr} {n c : Nat} {x : Int} (ha : IsZ g na A n x) {nb : Bool} {B : Option Addr} {m d : Nat} {y : Int} (hb : IsZ g nb B m y) (hn : n ≤ 17592186044415) (hm : m ≤ 17592186044415) :
    CallTo Tryz.prog 77 #[.agg #[.bool na, .slice A n c], .agg #[.bool nb, .slice B m d]] w (Ret w g fun v g => ∃ ng A n c, v = .agg #[.bool ng, .slice A n c] ∧ IsZ g ng A n (x - y)) := by
  refine CallTo.enter (vs := [.agg #[.bool na, .slice A n c], .agg #[.bool nb, .slice B m d]]) zf100 (by kernel_rfl) rfl rfl rfl ?_
  have hst := St.init hag
  refine zsr ?_
  refine stepK_box rfl rfl rfl rfl rfl rfl hst ?_
  clear hst
  intro b1 w1 hst
  refine stepK_box rfl rfl rfl rfl rfl rfl hst ?_
  clear hst
  intro b2 w2 hst
  refine stepK_alloc rfl rfl rfl rfl zf91 rfl hst ?_
  clear hst
  intro b3 w3 hst
  refine znq ?_
  refine cp_drawn (by kernel_rfl) 4 [(0, true), (1, true), (2, false), (3, false)] _ rfl (by kernel_rfl) (by kernel_rfl) (by kernel_rfl) (fun _ _ _ _ _ h => h) _ (hst.drew) ?_
  have hst0 := hst.drew
  clear hst
  have hst := hst0
  refine stepD_d rfl rfl rfl rfl (does_load_ownN 0 rfl (by kernel_rfl) zf93 rfl rfl rfl) ?_
  refine stepD_d rfl rfl rfl rfl (does_load_ownN 1 rfl (by kernel_rfl) zf93 rfl rfl rfl) ?_
  refine stepD_call rfl rfl rfl rfl rfl rfl hst (snum_Neg hst.agree hb) (fun _ _ h hle => St.older h hle (by simp) hst0.ext hst0.le) ?_
  clear hst
  intro v4 g4 w4 hst hle4 hcs4 hp4
  have hlesum := hle4
  replace ha := ha.mono hle4
  replace hb := hb.mono hle4
  obtain ⟨ng7, A7, n7, c7, rfl, h7⟩ := hp4
  obtain rfl : n7 = m := h7.1.len_eq hb.1 (by rw [Int.natAbs_neg])
  refine stepD_call rfl rfl rfl rfl rfl rfl hst (snum_Add hst.agree ha h7 hn hm) (fun _ _ h hle => St.older h (Mem.le.trans hlesum hle) (by simp) hst0.ext hst0.le) ?_
  clear hst
  intro v5 g5 w5 hst hle5 hcs5 hp5
  replace hlesum := Mem.le.trans hlesum hle5
  replace ha := ha.mono hle5
  replace hb := hb.mono hle5
  replace h7 := h7.mono hle5
  obtain ⟨ng5, A5, n5, c5, rfl, hz5⟩ := hp5
  refine stepD_tail ?_
  refine stepK_store 2 rfl rfl rfl rfl rfl rfl zf93 rfl rfl hst rfl (by first | (simp [uN_length]; omega) | simp) ?_
  clear hst
  intro w6 hst
  simp only [zL, splice, Nat.reduceAdd] at hst
  refine znt ?_
  refine cp_ret ?_
  refine ret1c (k := 2) rfl rfl (by kernel_rfl) (by kernel_rfl) rfl hst rfl ?_
  rw [Int.sub_eq_add_neg]
  exact ⟨_, _, _, _, rfl, by assumption⟩

set_option maxHeartbeats 1000000 in
theorem snum_Mul {g : Mem} {w : World} (hag : Agree g w) {na : Bool} {A : Option Addr} {n c : Nat} {x : Int} (ha : IsZ g na A n x) {nb : Bool} {B : Option Addr} {m d : Nat} {y : Int} (hb : IsZ g nb B m y) (hn : n ≤ 8796093022207) (hm : m ≤ 8796093022207) :
    CallTo Tryz.prog 65 #[.agg #[.bool na, .slice A n c], .agg #[.bool nb, .slice B m d]] w (Ret w g fun v g => ∃ ng A n c, v = .agg #[.bool ng, .slice A n c] ∧ IsZ g ng A n (x * y)) := by
  refine CallTo.enter (vs := [.agg #[.bool na, .slice A n c], .agg #[.bool nb, .slice B m d]]) zf101 (by kernel_rfl) rfl rfl rfl ?_
  have hst := St.init hag
  refine zsr ?_
  refine stepK_box rfl rfl rfl rfl rfl rfl hst ?_
  clear hst
  intro b1 w1 hst
  refine stepK_box rfl rfl rfl rfl rfl rfl hst ?_
  clear hst
  intro b2 w2 hst
  refine stepK_alloc rfl rfl rfl rfl zf91 rfl hst ?_
  clear hst
  intro b3 w3 hst
  refine znq ?_
  refine cp_drawn (by kernel_rfl) 11 [(0, true), (1, true), (2, true), (3, true), (4, true), (5, true), (6, true), (7, true), (8, true), (9, false), (10, false)] _ rfl (by kernel_rfl) (by kernel_rfl) (by kernel_rfl) (fun _ _ _ _ _ h => h) _ (hst.drew) ?_
  have hst0 := hst.drew
  clear hst
  have hst := hst0
  refine stepD_d rfl rfl rfl rfl (does_fieldAddr rfl zf96 rfl) ?_
  refine stepD_d rfl rfl rfl rfl (does_load_ownL 0 rfl (by kernel_rfl) rfl rfl rfl) ?_
  refine stepD_d rfl rfl rfl rfl (does_fieldAddr rfl zf96 rfl) ?_
  refine stepD_d rfl rfl rfl rfl (does_load_ownL 1 rfl (by kernel_rfl) rfl rfl rfl) ?_
  refine stepD_d rfl rfl rfl rfl (does_neq_bool rfl (by kernel_rfl) rfl rfl) ?_
  refine stepD_d rfl rfl rfl rfl (does_fieldAddr rfl zf97 rfl) ?_
  refine stepD_d rfl rfl rfl rfl (does_load_ownL 0 rfl (by kernel_rfl) rfl rfl rfl) ?_
  refine stepD_d rfl rfl rfl rfl (does_fieldAddr rfl zf97 rfl) ?_
  refine stepD_d rfl rfl rfl rfl (does_load_ownL 1 rfl (by kernel_rfl) rfl rfl rfl) ?_
  refine stepD_call rfl rfl rfl rfl rfl rfl hst (snum_mulMag hst.agree ha.1 hb.1 hn hm) (fun _ _ h hle => St.older h hle (by simp) hst0.ext hst0.le) ?_
  clear hst
  intro v4 g4 w4 hst hle4 hcs4 hp4
  have hlesum := hle4
  replace ha := ha.mono hle4
  replace hb := hb.mono hle4
  obtain ⟨A4, n4, c4, rfl, hn4⟩ := hp4
  refine stepD_call rfl rfl rfl rfl rfl rfl hst (snum_make1 hst.agree (by assumption)) (fun _ _ h hle => St.older h (Mem.le.trans hlesum hle) (by simp) hst0.ext hst0.le) ?_
  clear hst
  intro v5 g5 w5 hst hle5 hcs5 hp5
  replace hlesum := Mem.le.trans hlesum hle5
  replace ha := ha.mono hle5
  replace hb := hb.mono hle5
  replace hn4 := hn4.mono hle5
  obtain ⟨ng5, A5, n5, c5, rfl, hz5⟩ := hp5
  refine stepD_tail ?_
  refine stepK_store 2 rfl rfl rfl rfl rfl rfl zf93 rfl rfl hst rfl (by first | (simp [uN_length]; omega) | simp) ?_
  clear hst
  intro w6 hst
  simp only [zL, splice, Nat.reduceAdd] at hst
  refine znt ?_
  refine cp_ret ?_
  refine ret1c (k := 2) rfl rfl (by kernel_rfl) (by kernel_rfl) rfl hst rfl ?_
  refine ⟨_, _, _, _, rfl, ?_⟩
  rw [show x * y = sg (!(na == nb)) (x.natAbs * y.natAbs) by rw [show (!(na == nb)) = (na != nb) from rfl, sg_mul, ha.eta, hb.eta]]
  assumption

set_option maxHeartbeats 1000000 in
theorem snum_Cmp {g : Mem} {w : World} (hag : Agree g w) {na : Bool} {A : Option Addr} {n c : Nat} {x : Int} (ha : IsZ g na A n x) {nb : Bool} {B : Option Addr} {m d : Nat} {y : Int} (hb : IsZ g nb B m y) (hn : n ≤ 17592186044415) (hm : m ≤ 17592186044415) :
    CallTo Tryz.prog 73 #[.agg #[.bool na, .slice A n c], .agg #[.bool nb, .slice B m d]] w (Ret w g fun v g => v = .int .i64 (x - y).sign) := by
  refine CallTo.enter (vs := [.agg #[.bool na, .slice A n c], .agg #[.bool nb, .slice B m d]]) zf102 (by kernel_rfl) rfl rfl rfl ?_
  have hst := St.init hag
  refine zsr ?_
  refine stepK_box rfl rfl rfl rfl rfl rfl hst ?_
  clear hst
  intro b1 w1 hst
  refine stepK_box rfl rfl rfl rfl rfl rfl hst ?_
  clear hst
  intro b2 w2 hst
  refine zA rfl hst rfl ?_
  refine zn4 ?_
  refine stepK_d rfl rfl rfl hst (does_load_ownN 0 rfl (by kernel_rfl) zf93 rfl rfl rfl) ?_
  refine stepK_d rfl rfl rfl hst (does_load_ownN 1 rfl (by kernel_rfl) zf93 rfl rfl rfl) ?_
  refine stepK_call rfl rfl rfl rfl rfl hst (snum_Sub hst.agree ha hb hn hm) ?_
  clear hst
  intro v3 g3 w3 hst hle3 hcs3 hp3
  replace ha := ha.mono hle3
  replace hb := hb.mono hle3
  obtain ⟨ng3, A3, n3, c3, rfl, hz3⟩ := hp3
  refine stepK_call rfl rfl rfl rfl rfl hst (snum_Sign hst.agree (by assumption)) ?_
  clear hst
  intro v4 g4 w4 hst hle4 hcs4 hp4
  replace ha := ha.mono hle4
  replace hb := hb.mono hle4
  replace hz3 := hz3.mono hle4
  obtain rfl := hp4
  refine zA rfl hst rfl ?_
  refine znt ?_
  refine cp_ret ?_
  refine ret1 rfl rfl hst ?_
  rfl

set_option maxHeartbeats 1000000 in
theorem snum_QuoRem {g : Mem} {w : World} (hag : Agree g w) {na : Bool} {A : Option Addr} {n c : Nat} {x : Int} (ha : IsZ g na A n x) {nb : Bool} {B : Option Addr} {m d : Nat} {y : Int} (hb : IsZ g nb B m y) (hy : y ≠ 0) (hn : n ≤ 8796093022206) (hm : m ≤ 8796093022206) :
    CallTo Tryz.prog 74 #[.agg #[.bool na, .slice A n c], .agg #[.bool nb, .slice B m d]] w (Ret w g fun v g => ∃ nq Aq nn cq nr Ar mm cr, v = .tuple #[.agg #[.bool nq, .slice Aq nn cq], .agg #[.bool nr, .slice Ar mm cr]] ∧ IsZ g nq Aq nn (x.tdiv y) ∧ IsZ g nr Ar mm (x.tmod y)) := by
  refine CallTo.enter (vs := [.agg #[.bool na, .slice A n c], .agg #[.bool nb, .slice B m d]]) zf103 (by kernel_rfl) rfl rfl rfl ?_
  have hst := St.init hag
  refine zsr ?_
  refine stepK_box rfl rfl rfl rfl rfl rfl hst ?_
  clear hst
  intro b1 w1 hst
  refine stepK_box rfl rfl rfl rfl rfl rfl hst ?_
  clear hst
  intro b2 w2 hst
  refine stepK_alloc rfl rfl rfl rfl zf91 rfl hst ?_
  clear hst
  intro b3 w3 hst
  refine stepK_alloc rfl rfl rfl rfl zf91 rfl hst ?_
  clear hst
  intro b4 w4 hst
  refine zn4 ?_
  refine stepK_d rfl rfl rfl hst (does_fieldAddr rfl zf97 rfl) ?_
  refine stepK_d rfl rfl rfl hst (does_load_ownL 0 rfl (by kernel_rfl) rfl rfl rfl) ?_
  refine stepK_d rfl rfl rfl hst (does_fieldAddr rfl zf97 rfl) ?_
  refine stepK_d rfl rfl rfl hst (does_load_ownL 1 rfl (by kernel_rfl) rfl rfl rfl) ?_
  refine stepK_call rfl rfl rfl rfl rfl hst (snum_divMag hst.agree ha.1 hb.1 (by omega) hn hm) ?_
  clear hst
  intro v5 g5 w5 hst hle5 hcs5 hp5
  replace ha := ha.mono hle5
  replace hb := hb.mono hle5
  obtain ⟨Aq, qn, qc, Ar, rn, rc, rfl, hQ, hR⟩ := hp5
  refine zM rfl hst rfl ?_
  refine zE rfl hst rfl rfl ?_
  refine zE rfl hst rfl rfl ?_
  refine zA rfl hst rfl ?_
  refine zA rfl hst rfl ?_
  refine znq ?_
  refine cp_drawn (by kernel_rfl) 11 [(0, true), (1, true), (2, true), (3, true), (4, true), (5, true), (7, true), (8, true), (9, true), (6, false), (10, false)] _ rfl (by kernel_rfl) (by kernel_rfl) (by kernel_rfl) (fun _ _ _ _ _ h => h) _ (hst.drew) ?_
  have hst0 := hst.drew
  clear hst
  have hst := hst0
  refine stepD_d rfl rfl rfl rfl (does_fieldAddr rfl zf96 rfl) ?_
  refine stepD_d rfl rfl rfl rfl (does_load_ownL 0 rfl (by kernel_rfl) rfl rfl rfl) ?_
  refine stepD_d rfl rfl rfl rfl (does_fieldAddr rfl zf96 rfl) ?_
  refine stepD_d rfl rfl rfl rfl (does_load_ownL 1 rfl (by kernel_rfl) rfl rfl rfl) ?_
  refine stepD_d rfl rfl rfl rfl (does_neq_bool rfl (by kernel_rfl) rfl rfl) ?_
  refine stepD_d rfl rfl rfl rfl (does_move rfl rfl) ?_
  refine stepD_d rfl rfl rfl rfl (does_fieldAddr rfl zf96 rfl) ?_
  refine stepD_d rfl rfl rfl rfl (does_load_ownL 0 rfl (by kernel_rfl) rfl rfl rfl) ?_
  refine stepD_d rfl rfl rfl rfl (does_move rfl rfl) ?_
  refine stepD_call rfl rfl rfl rfl rfl rfl hst (snum_make1 hst.agree hQ) (fun _ _ h hle => St.older h hle (by simp) hst0.ext hst0.le) ?_
  clear hst
  intro v6 g6 w6 hst hle6 hcs6 hp6
  have hlesum := hle6
  replace ha := ha.mono hle6
  replace hb := hb.mono hle6
  replace hQ := hQ.mono hle6
  replace hR := hR.mono hle6
  obtain ⟨ngq, Aq2, nq2, cq2, rfl, hq2⟩ := hp6
  refine stepD_call rfl rfl rfl rfl rfl rfl hst (snum_make1 hst.agree hR) (fun _ _ h hle => St.older h (Mem.le.trans hlesum hle) (by simp) hst0.ext hst0.le) ?_
  clear hst
  intro v7 g7 w7 hst hle7 hcs7 hp7
  replace hlesum := Mem.le.trans hlesum hle7
  replace ha := ha.mono hle7
  replace hb := hb.mono hle7
  replace hQ := hQ.mono hle7
  replace hR := hR.mono hle7
  replace hq2 := hq2.mono hle7
  obtain ⟨ngr, Ar2, nr2, cr2, rfl, hr2⟩ := hp7
  refine stepD_tail ?_
  refine stepK_store 2 rfl rfl rfl rfl rfl rfl zf93 rfl rfl hst rfl (by first | (simp [uN_length]; omega) | simp) ?_
  clear hst
  intro w8 hst
  simp only [zL, splice, Nat.reduceAdd] at hst
  refine stepK_store 3 rfl rfl rfl rfl rfl rfl zf93 rfl rfl hst rfl (by first | (simp [uN_length]; omega) | simp) ?_
  clear hst
  intro w9 hst
  simp only [zL, splice, Nat.reduceAdd] at hst
  refine znt ?_
  refine cp_ret ?_
  refine ret2cc (k := 2) (k2 := 3) rfl rfl rfl (by kernel_rfl) (by kernel_rfl) (by kernel_rfl) (by kernel_rfl) rfl rfl hst rfl rfl ?_
  refine ⟨_, _, _, _, _, _, _, _, rfl, ?_, ?_⟩
  rw [show x.tdiv y = sg (!(na == nb)) (x.natAbs / y.natAbs) from sg_tdiv ha.2 hb.2]; exact hq2
  rw [show x.tmod y = sg na (x.natAbs % y.natAbs) from sg_tmod ha.2]; exact hr2

set_option maxHeartbeats 1000000 in
theorem snum_Gcd {g : Mem} {w : World} (hag : Agree g w) {na : Bool} {A : Option Addr} {n c : Nat} {x : Int} (ha : IsZ g na A n x) {nb : Bool} {B : Option Addr} {m d : Nat} {y : Int} (hb : IsZ g nb B m y) (hn : n ≤ 8796093022206) (hm : m ≤ 8796093022206) :
    CallTo Tryz.prog 80 #[.agg #[.bool na, .slice A n c], .agg #[.bool nb, .slice B m d]] w (Ret w g fun v g => ∃ ng A n c, v = .agg #[.bool ng, .slice A n c] ∧ IsZ g ng A n ((Nat.gcd x.natAbs y.natAbs : Nat))) := by
  refine CallTo.enter (vs := [.agg #[.bool na, .slice A n c], .agg #[.bool nb, .slice B m d]]) zf104 (by kernel_rfl) rfl rfl rfl ?_
  have hst := St.init hag
  refine zsr ?_
  refine stepK_box rfl rfl rfl rfl rfl rfl hst ?_
  clear hst
  intro b1 w1 hst
  refine stepK_box rfl rfl rfl rfl rfl rfl hst ?_
  clear hst
  intro b2 w2 hst
  refine stepK_alloc rfl rfl rfl rfl zf91 rfl hst ?_
  clear hst
  intro bz w3 hst
  refine znq ?_
  refine cp_drawn (by kernel_rfl) 6 [(0, true), (1, true), (2, true), (3, true), (4, true), (5, true)] _ rfl (by kernel_rfl) (by kernel_rfl) (by kernel_rfl) (fun _ _ _ _ _ h => h) _ (hst.drew) ?_
  have hst0 := hst.drew
  clear hst
  have hst := hst0
  refine stepD_d rfl rfl rfl rfl (does_fieldAddr rfl zf97 rfl) ?_
  refine stepD_d rfl rfl rfl rfl (does_load_ownL 0 rfl (by kernel_rfl) rfl rfl rfl) ?_
  refine stepD_d rfl rfl rfl rfl (does_fieldAddr rfl zf97 rfl) ?_
  refine stepD_d rfl rfl rfl rfl (does_load_ownL 1 rfl (by kernel_rfl) rfl rfl rfl) ?_
  refine stepD_d rfl rfl rfl rfl (does_assign rfl rfl) ?_
  refine stepD_d rfl rfl rfl rfl (does_assign rfl rfl) ?_
  refine stepD_tail ?_
  refine znq ?_
  refine cp_block ?_
  refine cp_loop (ι := Option Addr × Nat × Nat × Nat × Option Addr × Nat × Nat × Nat) (fun (A1, n1, c1, X, B1, m1, d1, Y) => [(4, .pointer (some ⟨bz, 0, none⟩)), (5, .slice A1 n1 c1), (6, .slice B1 m1 d1)]) (fun (A1, n1, c1, X, B1, m1, d1, Y) w1 => ∃ g1, St w [] g g1 [(bz, .cells #[.bool false, .slice none 0 0] 31 (0, 0))] w1 ∧ IsHat g1 A1 n1 X ∧ IsHat g1 B1 m1 Y ∧ n1 ≤ 8796093022206 ∧ m1 ≤ 8796093022206 ∧ Nat.gcd X Y = Nat.gcd x.natAbs y.natAbs) (fun (A1, n1, c1, X, B1, m1, d1, Y) => Y) (A, n, c, x.natAbs, B, m, d, y.natAbs) ?k4 ?i4 ?r4
  case k4 => exact ⟨rfl, rfl, rfl, trivial⟩
  case i4 =>
    exact ⟨_, hst.weaken _ (List.sublist_append_right [_, _] [_]), ha.1, hb.1, hn, hm, rfl⟩
  case r4 =>
    clear hst
    rintro ⟨A1, n1, c1, X, B1, m1, d1, Y⟩ w1 ⟨g1, hst, hX, hY, hn1, hm1, hG⟩
    refine cp_seq ?_
    refine zsr ?_
    refine zM rfl hst rfl ?_
    refine stepK_d rfl rfl rfl hst (does_len_slice rfl zf80 rfl) ?_
    refine stepK_d rfl rfl rfl hst (does_gtr rfl rfl rfl) ?_
    refine znt ?_
    refine cp_if rfl ?_ ?_
    intro c15
    refine cp_skip ?_
    refine cp_then ?_
    refine cp_block ?_
    refine cp_seq ?_
    have hY0 : 0 < Y := Nat.pos_of_ne_zero fun e => by have := hY.zero_iff.2 e; omega
    refine cp_region ?_
    refine zM rfl hst rfl ?_
    refine zM rfl hst rfl ?_
    refine stepK_call rfl rfl rfl rfl rfl hst (snum_divMag hst.agree hX hY hY0 hn1 hm1) ?_
    clear hst
    intro v5 g5 w5 hst hle5 hcs5 hp5
    replace hX := hX.mono hle5
    replace hY := hY.mono hle5
    obtain ⟨A8, n8, c8, B9, m9, d9, rfl, hQ9, hR9⟩ := hp5
    refine zM rfl hst rfl ?_
    refine zE rfl hst rfl rfl ?_
    refine zE rfl hst rfl rfl ?_
    refine zA rfl hst rfl ?_
    refine zA rfl hst rfl ?_
    refine zn3 ?_
    refine zM rfl hst rfl ?_
    refine zM rfl hst rfl ?_
    refine zA rfl hst rfl ?_
    refine zA rfl hst rfl ?_
    refine wpK_nil ?_
    refine at_block_normal ?_
    refine round_end ((B1, m1, d1, Y, B9, m9, d9, X % Y)) ?_ ?_ ?_
    exact ⟨rfl, rfl, rfl, trivial⟩
    exact ⟨_, hst, hY, hR9, hm1, by have := hR9.len (Nat.lt_trans (Nat.mod_lt X hY0) hY.lt); omega, gcd_step.trans hG⟩
    show X % Y < Y
    exact Nat.mod_lt _ hY0
    intro c15
    refine cp_exit ?_
    refine at_then_exit ?_
    refine at_then_exit ?_
    refine cp_exit_here ?_
    refine cp_then ?_
    refine cp_seq ?_
    obtain rfl : Y = 0 := hY.zero_iff.1 (by omega)
    rw [Nat.gcd_zero_right] at hG
    refine cp_region ?_
    refine zM rfl hst rfl ?_
    refine stepK_call rfl rfl rfl rfl rfl hst (snum_make1 (sn := false) hst.agree hX) ?_
    clear hst
    intro v6 g6 w6 hst hle6 hcs6 hp6
    replace hX := hX.mono hle6
    replace hY := hY.mono hle6
    obtain ⟨ng6, A6, n6, c6, rfl, hz6⟩ := hp6
    refine stepK_store 0 rfl rfl rfl rfl rfl rfl zf93 rfl rfl hst rfl (by first | (simp [uN_length]; omega) | simp) ?_
    clear hst
    intro w7 hst
    simp only [zL, splice, Nat.reduceAdd] at hst
    refine znt ?_
    refine cp_ret ?_
    refine ret1c (k := 0) rfl rfl (by kernel_rfl) (by kernel_rfl) rfl hst rfl ?_
    refine ⟨_, _, _, _, rfl, ?_⟩
    rw [← hG]
    assumption

end Go.Proofs.YtcjhnkmoloiepaaGreatDoor

namespace Go.Proofs.YtcjhnkmoloiepaaGreatDoor
open Go Go.RowKit Go.Proofs.Vc
set_option linter.unusedVariables false
set_option linter.unusedSimpArgs false

set_option maxHeartbeats 1000000 in
theorem snum_Bits {g : Mem} {w : World} (hag : Agree g w) {na : Bool} {A : Option Addr} {n c : Nat} {x : Int} (ha : IsZ g na A n x) (hn : n ≤ 8796093022207) :
    CallTo Tryz.prog 79 #[.agg #[.bool na, .slice A n c]] w (Ret w g fun v g => v = .int .i64 (bitLen x.natAbs : Int)) := by
  refine CallTo.enter (vs := [.agg #[.bool na, .slice A n c]]) zf105 (by kernel_rfl) rfl rfl rfl ?_
  have hst := St.init hag
  refine zsr ?_
  refine stepK_box rfl rfl rfl rfl rfl rfl hst ?_
  clear hst
  intro b1 w1 hst
  refine zA rfl hst rfl ?_
  refine znq ?_
  refine zsr ?_
  refine stepK_d rfl rfl rfl hst (does_fieldAddr rfl zf97 rfl) ?_
  refine stepK_d rfl rfl rfl hst (does_load_ownL 0 rfl (by kernel_rfl) rfl rfl rfl) ?_
  refine stepK_d rfl rfl rfl hst (does_len_slice rfl zf80 rfl) ?_
  refine stepK_d rfl rfl rfl hst (does_eql rfl rfl rfl) ?_
  refine znt ?_
  refine cp_if rfl ?_ ?_
  intro c8
  refine zsr ?_
  refine zA rfl hst rfl ?_
  refine zn5 ?_
  refine ret1 rfl rfl hst ?_
  rw [show x = 0 from ha.z0.1 (by omega)]
  rfl
  intro c8
  refine zk4 ?_
  refine stepK_d rfl rfl rfl hst (does_fieldAddr rfl zf97 rfl) ?_
  refine stepK_d rfl rfl rfl hst (does_load_ownL 0 rfl (by kernel_rfl) rfl rfl rfl) ?_
  refine stepK_d rfl rfl rfl hst (does_len_slice rfl zf80 rfl) ?_
  refine stepK_d rfl rfl rfl hst (Does.int (does_sub rfl rfl rfl) (wrap_i64 (by omega) (by omega))) ?_
  refine stepK_d rfl rfl rfl hst (Does.int (does_mul rfl rfl rfl) (show _ = ((32 * (n - 1) : Nat) : Int) by rw [wrap_i64 (by omega) (by omega)]; omega)) ?_
  refine zA rfl hst rfl ?_
  refine znq ?_
  refine cp_seq ?_
  obtain ⟨⟨xs, hxs, hxw, hxt, hxv⟩, _⟩ := id ha
  have hlx := hxs.1
  obtain ⟨b1, o1, rfl, hb1⟩ := hxs.some_ (by omega)
  obtain ⟨t, ht⟩ := get_of_lt (ws := xs) (j := n - 1) (by omega)
  have htl := hxw.get ht
  have ht0 := h_trimmed_last hxt hlx ht
  refine cp_region ?_
  refine stepK_d rfl rfl rfl hst (does_fieldAddr rfl zf97 rfl) ?_
  refine stepK_d rfl rfl rfl hst (does_load_ownL 0 rfl (by kernel_rfl) rfl rfl rfl) ?_
  refine stepK_d rfl rfl rfl hst (does_fieldAddr rfl zf97 rfl) ?_
  refine stepK_d rfl rfl rfl hst (does_load_ownL 0 rfl (by kernel_rfl) rfl rfl rfl) ?_
  refine stepK_d rfl rfl rfl hst (does_len_slice rfl zf80 rfl) ?_
  refine stepK_d rfl rfl rfl hst (Does.int (does_sub rfl rfl rfl) (wrap_i64 (by omega) (by omega))) ?_
  refine stepK_d rfl rfl rfl hst (does_indexAddr1 (j := (n - 1)) rfl zf80 (by kernel_rfl) rfl rfl (by omega) (by omega)) ?_
  refine stepK_d rfl rfl rfl hst (does_load_g1 rfl (by kernel_rfl) rfl (hb1.at_ _ _ ht)) ?_
  refine zA rfl hst rfl ?_
  refine znt ?_
  refine cp_block ?_
  refine cp_loop (ι := Nat × Nat) (fun (k, u) => [(3, .int .i64 ((32 * (n - 1) + k : Nat) : Int)), (4, .int .u32 (u : Int))]) (fun (k, u) w1 => St w [] g g [] w1 ∧ u < 4294967296 ∧ k ≤ 32 ∧ k + bitLen u = bitLen t) (fun (k, u) => u) (0, t) ?k2 ?i2 ?r2
  case k2 => exact ⟨kint (by omega), rfl, trivial⟩
  case i2 =>
    exact ⟨hst.forget, htl, by decide, by omega⟩
  case r2 =>
    clear hst
    rintro ⟨k, u⟩ w1 ⟨hst, hu, hk, hkb⟩
    refine cp_seq ?_
    refine zsr ?_
    refine zM rfl hst rfl ?_
    refine stepK_d rfl rfl rfl hst (does_gtr_n (b := 0) rfl rfl rfl) ?_
    refine znt ?_
    refine cp_if rfl ?_ ?_
    intro c23
    refine cp_skip ?_
    refine cp_then ?_
    refine cp_seq ?_
    refine cp_block ?_
    have hb2 := bitLen_half (x := u) (by omega)
    refine cp_region ?_
    refine zM rfl hst rfl ?_
    refine stepK_d rfl rfl rfl hst (Does.int (does_add rfl rfl rfl) (wrap_i64 (by omega) (by omega))) ?_
    refine zA rfl hst rfl ?_
    refine wpK_nil ?_
    refine at_block_normal ?_
    refine cp_then ?_
    refine cp_region ?_
    refine zM rfl hst rfl ?_
    refine stepK_d rfl rfl rfl hst (Does.nat (b := u / 2) (does_shr_u32 (b := 1) rfl rfl rfl) rfl) ?_
    refine zA rfl hst rfl ?_
    refine wpK_nil ?_
    refine round_end ((k + 1, u / 2)) ?_ ?_ ?_
    exact ⟨kint (by omega), rfl, trivial⟩
    exact ⟨hst, by omega, by have := bitLen_le32 htl; omega, by omega⟩
    show u / 2 < u
    omega
    intro c23
    refine cp_exit ?_
    refine at_then_exit ?_
    refine at_then_exit ?_
    refine cp_exit_here ?_
    refine cp_then ?_
    refine zsr ?_
    refine zM rfl hst rfl ?_
    refine zA rfl hst rfl ?_
    refine znt ?_
    refine cp_ret ?_
    refine ret1 rfl rfl hst ?_
    obtain rfl : u = 0 := by omega
    rw [← hxv, hbits_val hxw hlx (by omega) ht ht0, ← hkb]
    congr 1

set_option maxHeartbeats 1000000 in
theorem snum_den {g : Mem} {w : World} (hag : Agree g w) {na nb : Bool} {A B : Option Addr} {n c m d : Nat} {r : Rat} (ha : IsQ g na A n nb B m r)  :
    CallTo Tryz.prog 99 #[.agg #[.bool na, .slice A n c, .bool nb, .slice B m d]] w (Ret w g fun v g => ∃ ng A n c, v = .agg #[.bool ng, .slice A n c] ∧ IsZ g ng A n ((r.den : Int))) := by
  refine CallTo.enter (vs := [.agg #[.bool na, .slice A n c, .bool nb, .slice B m d]]) zf106 (by kernel_rfl) rfl rfl rfl ?_
  have hst := St.init hag
  refine zsr ?_
  refine stepK_box rfl rfl rfl rfl rfl rfl hst ?_
  clear hst
  intro b1 w1 hst
  refine stepK_alloc rfl rfl rfl rfl zf91 rfl hst ?_
  clear hst
  intro b2 w2 hst
  refine znq ?_
  refine zsr ?_
  refine stepK_d rfl rfl rfl hst (does_fieldAddr rfl zf107 rfl) ?_
  refine stepK_d rfl rfl rfl hst (does_fieldAddr rfl zf97 rfl) ?_
  refine stepK_d rfl rfl rfl hst (does_load_ownL 0 rfl (by kernel_rfl) rfl rfl rfl) ?_
  refine stepK_d rfl rfl rfl hst (does_len_slice rfl zf80 rfl) ?_
  refine stepK_d rfl rfl rfl hst (does_eql rfl rfl rfl) ?_
  refine znt ?_
  refine cp_if rfl ?_ ?_
  intro c7
  refine zsr ?_
  refine stepK_call rfl rfl rfl rfl rfl hst (snum_FromInt hst.agree (x := 1) (by decide) (by decide)) ?_
  clear hst
  intro v3 g3 w3 hst hle3 hcs3 hp3
  replace ha := ha.mono hle3
  obtain ⟨ng3, A3, n3, c3, rfl, hz3⟩ := hp3
  refine stepK_store 1 rfl rfl rfl rfl rfl rfl zf93 rfl rfl hst rfl (by first | (simp [uN_length]; omega) | simp) ?_
  clear hst
  intro w4 hst
  simp only [zL, splice, Nat.reduceAdd] at hst
  refine zn5 ?_
  refine ret1c (k := 1) rfl rfl (by kernel_rfl) (by kernel_rfl) rfl hst rfl ?_
  refine ⟨_, _, _, _, rfl, ?_⟩
  rw [ha.den1.1 (by omega)]
  assumption
  intro c7
  refine zk4 ?_
  refine stepK_d rfl rfl rfl hst (does_fieldAddr rfl zf107 rfl) ?_
  refine stepK_d rfl rfl rfl hst (does_load_ownN 0 rfl (by kernel_rfl) zf93 rfl rfl rfl) ?_
  refine stepK_store 1 rfl rfl rfl rfl rfl rfl zf93 rfl rfl hst rfl (by first | (simp [uN_length]; omega) | simp) ?_
  clear hst
  intro w5 hst
  simp only [zL, splice, Nat.reduceAdd] at hst
  refine znt ?_
  refine cp_ret ?_
  refine ret1c (k := 1) rfl rfl (by kernel_rfl) (by kernel_rfl) rfl hst rfl ?_
  exact ⟨_, _, _, _, rfl, ha.denZ (by omega)⟩

set_option maxHeartbeats 1000000 in
theorem snum_Den {g : Mem} {w : World} (hag : Agree g w) {na nb : Bool} {A B : Option Addr} {n c m d : Nat} {r : Rat} (ha : IsQ g na A n nb B m r)  :
    CallTo Tryz.prog 54 #[.agg #[.bool na, .slice A n c, .bool nb, .slice B m d]] w (Ret w g fun v g => ∃ ng A n c, v = .agg #[.bool ng, .slice A n c] ∧ IsZ g ng A n ((r.den : Int))) := by
  refine CallTo.enter (vs := [.agg #[.bool na, .slice A n c, .bool nb, .slice B m d]]) zf108 (by kernel_rfl) rfl rfl rfl ?_
  have hst := St.init hag
  refine zsr ?_
  refine stepK_box rfl rfl rfl rfl rfl rfl hst ?_
  clear hst
  intro b1 w1 hst
  refine stepK_alloc rfl rfl rfl rfl zf91 rfl hst ?_
  clear hst
  intro b2 w2 hst
  refine zn4 ?_
  refine stepK_d rfl rfl rfl hst (does_load_ownN 0 rfl (by kernel_rfl) zf109 rfl rfl rfl) ?_
  refine stepK_call rfl rfl rfl rfl rfl hst (snum_den hst.agree ha) ?_
  clear hst
  intro v3 g3 w3 hst hle3 hcs3 hp3
  replace ha := ha.mono hle3
  obtain ⟨ng3, A3, n3, c3, rfl, hz3⟩ := hp3
  refine stepK_store 1 rfl rfl rfl rfl rfl rfl zf93 rfl rfl hst rfl (by first | (simp [uN_length]; omega) | simp) ?_
  clear hst
  intro w4 hst
  simp only [zL, splice, Nat.reduceAdd] at hst
  refine znt ?_
  refine cp_ret ?_
  refine ret1c (k := 1) rfl rfl (by kernel_rfl) (by kernel_rfl) rfl hst rfl ?_
  exact ⟨_, _, _, _, rfl, by assumption⟩

set_option maxHeartbeats 1000000 in
theorem snum_R {g : Mem} {w : World} (hag : Agree g w) {x : Int} (h1 : -9223372036854775808 ≤ x) (h2 : x ≤ 9223372036854775807) :
    CallTo Tryz.prog 17 #[.int .i64 x] w (Ret w g fun v g => ∃ na A n c nb B m d, v = .agg #[.bool na, .slice A n c, .bool nb, .slice B m d] ∧ IsQ g na A n nb B m ((x : Rat))) := by
  refine CallTo.enter (vs := [.int .i64 x]) zf110 (by kernel_rfl) rfl rfl rfl ?_
  have hst := St.init hag
  refine zsr ?_
  refine stepK_alloc rfl rfl rfl rfl zf111 rfl hst ?_
  clear hst
  intro b1 w1 hst
  refine zn4 ?_
  refine zM rfl hst rfl ?_
  refine stepK_call rfl rfl rfl rfl rfl hst (snum_FromInt hst.agree h1 h2) ?_
  clear hst
  intro v2 g2 w2 hst hle2 hcs2 hp2
  obtain ⟨ng2, A2, n2, c2, rfl, hz2⟩ := hp2
  refine stepK_d rfl rfl rfl hst (does_build rfl zf112 rfl rfl) ?_
  refine stepK_store 0 rfl rfl rfl rfl rfl rfl zf109 rfl rfl hst rfl (by first | (simp [uN_length]; omega) | simp) ?_
  clear hst
  intro w3 hst
  simp only [zL, splice, Nat.reduceAdd] at hst
  refine znt ?_
  refine cp_ret ?_
  refine ret1c (k := 0) rfl rfl (by kernel_rfl) (by kernel_rfl) rfl hst rfl ?_
  exact ⟨_, _, _, _, _, _, _, _, rfl, IsQ.int (by assumption)⟩

end Go.Proofs.YtcjhnkmoloiepaaGreatDoor

namespace Go.Proofs.YtcjhnkmoloiepaaGreatDoor
open Go Go.RowKit Go.Proofs.Vc
set_option linter.unusedVariables false
set_option linter.unusedSimpArgs false

set_option maxHeartbeats 1000000 in
theorem snum_Frac {g : Mem} {w : World} (hag : Agree g w) {na : Bool} {A : Option Addr} {n c : Nat} {x : Int} (ha : IsZ g na A n x) {nb : Bool} {B : Option Addr} {m d : Nat} {y : Int} (hb : IsZ g nb B m y) (hy : y ≠ 0) (hn : n ≤ 8796093022206) (hm : m ≤ 8796093022206) :
    CallTo Tryz.prog 81 #[.agg #[.bool na, .slice A n c], .agg #[.bool nb, .slice B m d]] w (Ret w g fun v g => ∃ na A n c nb B m d, v = .agg #[.bool na, .slice A n c, .bool nb, .slice B m d] ∧ IsQ g na A n nb B m (Rat.divInt x y)) := by
  refine CallTo.enter (vs := [.agg #[.bool na, .slice A n c], .agg #[.bool nb, .slice B m d]]) zf113 (by kernel_rfl) rfl rfl rfl ?_
  have hst := St.init hag
  refine zsr ?_
  refine stepK_box rfl rfl rfl rfl rfl rfl hst ?_
  clear hst
  intro b2 w1 hst
  refine stepK_box rfl rfl rfl rfl rfl rfl hst ?_
  clear hst
  intro b3 w2 hst
  refine stepK_alloc rfl rfl rfl rfl zf111 rfl hst ?_
  clear hst
  intro b4 w3 hst
  refine znt ?_
  refine cp_join (ι := (Bool × Option Addr × Nat × Nat × Int) × (Bool × Option Addr × Nat × Nat × Int)) (fun ((na1, A1, n1, c1, x1), (nb1, B1, m1, d1, y1)) => [(2, .pointer (some ⟨b2, 0, none⟩)), (3, .pointer (some ⟨b3, 0, none⟩)), (4, .pointer (some ⟨b4, 0, none⟩))]) (fun ((na1, A1, n1, c1, x1), (nb1, B1, m1, d1, y1)) w2 => ∃ g2, St w [] g g2 [(b2, .cells #[.bool na1, .slice A1 n1 c1] 31 (0, 0)), (b3, .cells #[.bool nb1, .slice B1 m1 d1] 31 (0, 0)), (b4, .cells #[.bool false, .slice none 0 0, .bool false, .slice none 0 0] 33 (0, 0))] w2 ∧ IsZ g2 na1 A1 n1 x1 ∧ IsZ g2 nb1 B1 m1 y1 ∧ 0 < y1 ∧ n1 ≤ 8796093022206 ∧ m1 ≤ 8796093022206 ∧ Rat.divInt x1 y1 = Rat.divInt x y) ?c4 ?d4
  case c4 =>
    refine zsr ?_
    refine stepK_d rfl rfl rfl hst (does_fieldAddr rfl zf96 rfl) ?_
    refine stepK_d rfl rfl rfl hst (does_load_ownL 1 rfl (by kernel_rfl) rfl rfl rfl) ?_
    refine znt ?_
    refine cp_cond rfl ?_ ?_
    intro c7
    refine cp_drawn (by kernel_rfl) 4 [(0, true), (2, true), (1, false), (3, false)] _ rfl (by kernel_rfl) (by kernel_rfl) (by kernel_rfl) (fun _ _ _ _ _ h => h) _ (hst.drew) ?_
    have hst0 := hst.drew
    clear hst
    have hst := hst0
    refine stepD_d rfl rfl rfl rfl (does_load_ownN 0 rfl (by kernel_rfl) zf93 rfl rfl rfl) ?_
    refine stepD_d rfl rfl rfl rfl (does_load_ownN 1 rfl (by kernel_rfl) zf93 rfl rfl rfl) ?_
    refine stepD_call rfl rfl rfl rfl rfl rfl hst (snum_Neg hst.agree ha) (fun _ _ h hle => St.older h hle (by simp) hst0.ext hst0.le) ?_
    clear hst
    intro v5 g5 w5 hst hle5 hcs5 hp5
    have hlesum := hle5
    replace ha := ha.mono hle5
    replace hb := hb.mono hle5
    obtain ⟨na9, A9, n9, c9, rfl, h9⟩ := hp5
    obtain rfl : n9 = n := h9.1.len_eq ha.1 (by rw [Int.natAbs_neg])
    refine stepD_call rfl rfl rfl rfl rfl rfl hst (snum_Neg hst.agree hb) (fun _ _ h hle => St.older h (Mem.le.trans hlesum hle) (by simp) hst0.ext hst0.le) ?_
    clear hst
    intro v6 g6 w6 hst hle6 hcs6 hp6
    replace hlesum := Mem.le.trans hlesum hle6
    replace ha := ha.mono hle6
    replace hb := hb.mono hle6
    replace h9 := h9.mono hle6
    obtain ⟨nb8, B8, m8, d8, rfl, h8⟩ := hp6
    obtain rfl : m8 = m := h8.1.len_eq hb.1 (by rw [Int.natAbs_neg])
    refine stepD_tail ?_
    refine stepK_store 0 rfl rfl rfl rfl rfl rfl zf93 rfl rfl hst rfl (by first | (simp [uN_length]; omega) | simp) ?_
    clear hst
    intro w7 hst
    simp only [zL, splice, Nat.reduceAdd] at hst
    refine stepK_store 1 rfl rfl rfl rfl rfl rfl zf93 rfl rfl hst rfl (by first | (simp [uN_length]; omega) | simp) ?_
    clear hst
    intro w8 hst
    simp only [zL, splice, Nat.reduceAdd] at hst
    refine wpK_nil ?_
    have hyn : y < 0 := of_decide_eq_true (hb.2.symm.trans c7)
    refine join_end (((na9, A9, n9, c9, -x), (nb8, B8, m8, d8, -y))) ?_ ?_
    exact ⟨rfl, rfl, rfl, trivial⟩
    exact ⟨_, hst, h9, h8, by omega, hn, hm, Rat.neg_divInt_neg x y⟩
    intro c7
    refine cp_skip ?_
    have hyn : ¬ y < 0 := of_decide_eq_false (hb.2.symm.trans c7)
    refine join_end (((na, A, n, c, x), (nb, B, m, d, y))) ?_ ?_
    exact ⟨rfl, rfl, rfl, trivial⟩
    exact ⟨_, hst, ha, hb, by omega, hn, hm, rfl⟩
  case d4 =>
    clear hst
    rintro ⟨⟨na1, A1, n1, c1, x1⟩, ⟨nb1, B1, m1, d1, y1⟩⟩ w2 ⟨g2, hst, hx1, hy1, hy0, hn1, hm1, hdi⟩
    have hG0 : 0 < Nat.gcd x1.natAbs y1.natAbs := Nat.gcd_pos_of_pos_right _ (by omega)
    obtain ⟨hr1, hr2, hr3⟩ := frac_red (x := x1) hy0
    simp only
    refine zsr ?_
    refine stepK_d rfl rfl rfl hst (does_load_ownN 0 rfl (by kernel_rfl) zf93 rfl rfl rfl) ?_
    refine stepK_d rfl rfl rfl hst (does_load_ownN 1 rfl (by kernel_rfl) zf93 rfl rfl rfl) ?_
    refine stepK_call rfl rfl rfl rfl rfl hst (snum_Gcd hst.agree hx1 hy1 hn1 hm1) ?_
    clear hst
    intro v9 g9 w9 hst hle9 hcs9 hp9
    replace hx1 := hx1.mono hle9
    replace hy1 := hy1.mono hle9
    obtain ⟨ng, Ag, gn, gc, rfl, hg⟩ := hp9
    have hgl : gn ≤ m1 := hg.1.len (Nat.lt_of_le_of_lt (by rw [Int.natAbs_natCast]; exact Nat.gcd_le_right _ (by omega)) hy1.1.lt)
    obtain ⟨G, hGe⟩ : ∃ G, G = Nat.gcd x1.natAbs y1.natAbs := ⟨_, rfl⟩
    rw [← hGe] at hg hr1 hr2 hr3 hG0
    refine stepK_alloc rfl rfl rfl rfl zf91 rfl hst ?_
    clear hst
    intro b5 w10 hst
    refine stepK_store 3 rfl rfl rfl rfl rfl rfl zf93 rfl rfl hst rfl (by first | (simp [uN_length]; omega) | simp) ?_
    clear hst
    intro w11 hst
    simp only [zL, splice, Nat.reduceAdd] at hst
    refine znt ?_
    refine cp_join (ι := (Bool × Option Addr × Nat × Nat × Int) × (Bool × Option Addr × Nat × Nat × Int)) (fun ((na1, A1, n1, c1, x1), (nb1, B1, m1, d1, y1)) => [(2, .pointer (some ⟨b2, 0, none⟩)), (3, .pointer (some ⟨b3, 0, none⟩)), (4, .pointer (some ⟨b4, 0, none⟩))]) (fun ((na1, A1, n1, c1, x1), (nb1, B1, m1, d1, y1)) w3 => ∃ g3, St w [] g g3 [(b2, .cells #[.bool na1, .slice A1 n1 c1] 31 (0, 0)), (b3, .cells #[.bool nb1, .slice B1 m1 d1] 31 (0, 0)), (b4, .cells #[.bool false, .slice none 0 0, .bool false, .slice none 0 0] 33 (0, 0))] w3 ∧ IsZ g3 na1 A1 n1 x1 ∧ IsZ g3 nb1 B1 m1 y1 ∧ 0 < y1 ∧ m1 ≤ 8796093022206 ∧ Nat.gcd x1.natAbs y1.natAbs = 1 ∧ Rat.divInt x1 y1 = Rat.divInt x y) ?c12 ?d12
    case c12 =>
      refine zsr ?_
      refine stepK_d rfl rfl rfl hst (does_load_ownN 3 rfl (by kernel_rfl) zf93 rfl rfl rfl) ?_
      refine stepK_call rfl rfl rfl rfl rfl hst (snum_Bits hst.agree hg (by omega)) ?_
      clear hst
      intro v13 g13 w13 hst hle13 hcs13 hp13
      replace hx1 := hx1.mono hle13
      replace hy1 := hy1.mono hle13
      replace hg := hg.mono hle13
      obtain rfl := hp13
      refine stepK_d rfl rfl rfl hst (does_gtr rfl rfl rfl) ?_
      refine znt ?_
      refine cp_if rfl ?_ ?_
      intro c17
      refine zsr ?_
      refine stepK_d rfl rfl rfl hst (does_load_ownN 0 rfl (by kernel_rfl) zf93 rfl rfl rfl) ?_
      refine stepK_d rfl rfl rfl hst (does_load_ownN 3 rfl (by kernel_rfl) zf93 rfl rfl rfl) ?_
      refine stepK_call rfl rfl rfl rfl rfl hst (snum_QuoRem hst.agree hx1 hg (by omega) hn1 (by omega)) ?_
      clear hst
      intro v14 g14 w14 hst hle14 hcs14 hp14
      replace hx1 := hx1.mono hle14
      replace hy1 := hy1.mono hle14
      replace hg := hg.mono hle14
      obtain ⟨nq, Aq, qn, qc, nr, Ar, rn, rc, rfl, hq, hrr⟩ := hp14
      refine zM rfl hst rfl ?_
      refine zE rfl hst rfl rfl ?_
      refine zE rfl hst rfl rfl ?_
      refine stepK_store 0 rfl rfl rfl rfl rfl rfl zf93 rfl rfl hst rfl (by first | (simp [uN_length]; omega) | simp) ?_
      clear hst
      intro w15 hst
      simp only [zL, splice, Nat.reduceAdd] at hst
      refine zn3 ?_
      refine stepK_d rfl rfl rfl hst (does_load_ownN 1 rfl (by kernel_rfl) zf93 rfl rfl rfl) ?_
      refine stepK_d rfl rfl rfl hst (does_load_ownN 3 rfl (by kernel_rfl) zf93 rfl rfl rfl) ?_
      refine stepK_call rfl rfl rfl rfl rfl hst (snum_QuoRem hst.agree hy1 hg (by omega) hm1 (by omega)) ?_
      clear hst
      intro v16 g16 w16 hst hle16 hcs16 hp16
      replace hx1 := hx1.mono hle16
      replace hy1 := hy1.mono hle16
      replace hg := hg.mono hle16
      replace hq := hq.mono hle16
      replace hrr := hrr.mono hle16
      obtain ⟨nq2, Aq2, qn2, qc2, nr2, Ar2, rn2, rc2, rfl, hq2, hrr2⟩ := hp16
      refine zM rfl hst rfl ?_
      refine zE rfl hst rfl rfl ?_
      refine zE rfl hst rfl rfl ?_
      refine stepK_store 1 rfl rfl rfl rfl rfl rfl zf93 rfl rfl hst rfl (by first | (simp [uN_length]; omega) | simp) ?_
      clear hst
      intro w17 hst
      simp only [zL, splice, Nat.reduceAdd] at hst
      refine wpK_nil ?_
      have hl9 : qn2 ≤ m1 := hq2.1.len (Nat.lt_of_le_of_lt (by rw [Int.natAbs_tdiv]; exact Nat.div_le_self _ _) hy1.1.lt)
      refine join_end (((nq, Aq, qn, qc, x1.tdiv (G : Nat)), (nq2, Aq2, qn2, qc2, y1.tdiv (G : Nat)))) ?_ ?_
      exact ⟨rfl, rfl, rfl, trivial⟩
      exact ⟨_, hst.weaken _ (List.sublist_append_left [_, _, _] [_]), hq, hq2, hr2, by omega, hr3, hr1.trans hdi⟩
      intro c17
      refine cp_skip ?_
      have hG1 : G = 1 := by
        have h7 := bitLen_le_one (x := (G : Int).natAbs) (by omega)
        rw [Int.natAbs_natCast] at h7
        omega
      refine join_end (((na1, A1, n1, c1, x1), (nb1, B1, m1, d1, y1))) ?_ ?_
      exact ⟨rfl, rfl, rfl, trivial⟩
      exact ⟨_, hst.weaken _ (List.sublist_append_left [_, _, _] [_]), hx1, hy1, hy0, hm1, by rw [← hGe]; exact hG1, hdi⟩
    case d12 =>
      clear hst
      clear hx1 hy1 hy0 hn1 hm1 hdi hG0 hr1 hr2 hr3 hg hgl hGe
      rintro ⟨⟨na1, A1, n1, c1, x1⟩, ⟨nb1, B1, m1, d1, y1⟩⟩ w3 ⟨g3, hst, hx1, hy1, hy0, hm1, hc1, hdi⟩
      simp only
      refine cp_seq ?_
      refine zsr ?_
      refine stepK_d rfl rfl rfl hst (does_load_ownN 1 rfl (by kernel_rfl) zf93 rfl rfl rfl) ?_
      refine stepK_call rfl rfl rfl rfl rfl hst (snum_Bits hst.agree hy1 (by omega)) ?_
      clear hst
      intro v18 g18 w18 hst hle18 hcs18 hp18
      replace hx1 := hx1.mono hle18
      replace hy1 := hy1.mono hle18
      obtain rfl := hp18
      refine stepK_d rfl rfl rfl hst (does_eql rfl rfl rfl) ?_
      refine znt ?_
      refine cp_if rfl ?_ ?_
      intro c32
      have hy9 : y1 = 1 := by
        have h7 := bitLen_one.1 (show bitLen y1.natAbs = 1 by omega)
        omega
      refine cp_region ?_
      refine stepK_d rfl rfl rfl hst (does_build rfl zf92 rfl rfl) ?_
      refine stepK_store 1 rfl rfl rfl rfl rfl rfl zf93 rfl rfl hst rfl (by first | (simp [uN_length]; omega) | simp) ?_
      clear hst
      intro w19 hst
      simp only [zL, splice, Nat.reduceAdd] at hst
      refine zn4 ?_
      refine stepK_d rfl rfl rfl hst (does_load_ownN 0 rfl (by kernel_rfl) zf93 rfl rfl rfl) ?_
      refine stepK_d rfl rfl rfl hst (does_load_ownN 1 rfl (by kernel_rfl) zf93 rfl rfl rfl) ?_
      refine stepK_d rfl rfl rfl hst (does_build rfl zf112 rfl rfl) ?_
      refine stepK_store 2 rfl rfl rfl rfl rfl rfl zf109 rfl rfl hst rfl (by first | (simp [uN_length]; omega) | simp) ?_
      clear hst
      intro w20 hst
      simp only [zL, splice, Nat.reduceAdd] at hst
      refine znt ?_
      refine cp_ret ?_
      refine ret1c (k := 2) rfl rfl (by kernel_rfl) (by kernel_rfl) rfl hst rfl ?_
      rw [← hdi]
      exact ⟨_, _, _, _, _, _, _, _, rfl, IsQ.frac1 hx1 hy9⟩
      intro c32
      have hy9 : y1 ≠ 1 := fun e => c32 (by subst e; rfl)
      refine zk4 ?_
      refine stepK_d rfl rfl rfl hst (does_load_ownN 0 rfl (by kernel_rfl) zf93 rfl rfl rfl) ?_
      refine stepK_d rfl rfl rfl hst (does_load_ownN 1 rfl (by kernel_rfl) zf93 rfl rfl rfl) ?_
      refine stepK_d rfl rfl rfl hst (does_build rfl zf112 rfl rfl) ?_
      refine stepK_store 2 rfl rfl rfl rfl rfl rfl zf109 rfl rfl hst rfl (by first | (simp [uN_length]; omega) | simp) ?_
      clear hst
      intro w21 hst
      simp only [zL, splice, Nat.reduceAdd] at hst
      refine znt ?_
      refine cp_ret ?_
      refine ret1c (k := 2) rfl rfl (by kernel_rfl) (by kernel_rfl) rfl hst rfl ?_
      rw [← hdi]
      exact ⟨_, _, _, _, _, _, _, _, rfl, IsQ.frac hx1 hy1 hy0 hc1 hy9⟩

end Go.Proofs.YtcjhnkmoloiepaaGreatDoor
