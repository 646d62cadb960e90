/- The walks of functions, printed by a program of this session out of its specs. -/
import Derived.Test.YtnbcedkpkcgmkaaGreatDoorCY
import Derived.Test.YtnbcedkpkcgmkaaGreatDoorCG
import Derived.Test.YtnbcedkpkcgmkaaGreatDoorRQ
import Derived.Test.YtnbcedkpkcgmkaaGreatDoorProg
import Derived.Test.YtnbcedkpkcgmkaaGreatDoorF0
namespace Go.Proofs.YtnbcedkpkcgmkaaGreatDoor
open Go Go.RowKit Go.Proofs.Vc
set_option linter.unusedVariables false
set_option linter.unusedSimpArgs false

set_option maxHeartbeats 4000000 in
theorem sref_Convergents {g : Mem} {w : World} (hag : Agree g w) {A : Option Addr} {c k : Nat} {r : Rat} (hs : RefS g A (cf r).length (cfR r)) (hz : Sz k r) (hk : k ≤ 1000) :
    CallTo Tryz.prog 26 #[.slice A (cf r).length c] w (Ret w g fun v g => ∃ A c, v = .slice A (cf r).length c ∧ RefS g A (cf r).length (cvR (cf r))) := by
  refine CallTo.enter (vs := [.slice A (cf r).length c]) zf154 (by kernel_rfl) rfl rfl rfl ?_
  have hst := St.init hag
  have hlen := cf_len_sz hz
  have hne : 0 < (cf r).length := List.length_pos_iff.2 (cf_ne r)
  obtain ⟨ba, oa, _, _, rfl, _⟩ := hs.cell (j := 0) hne
  have so : Sz 1 (1 : Rat) := ⟨by decide +kernel, by decide +kernel⟩
  have f1 : FitH (1 : Rat) := so.fitH (by decide)
  refine zsr ?_
  refine zA rfl hst rfl ?_
  refine zn4 ?_
  refine zA rfl hst rfl ?_
  refine znq ?_
  refine zsr ?_
  refine zM rfl hst rfl ?_
  refine stepK_d rfl rfl rfl hst (does_len_slice rfl zf151 rfl) ?_
  refine zM rfl hst rfl ?_
  refine znt ?_
  refine cp_block ?_
  refine cp_loop (ι := Nat × Option Addr × Nat × List (Nat × Obj) × List Value) (fun (i, Ar, cr, T, xs) => [(0, .slice (some ⟨ba, oa, none⟩) (cf r).length c), (3, .slice Ar i cr), (8, .int .i64 ((cf r).length : Int)), (9, .int .i64 (i : Int))]) (fun (i, Ar, cr, T, xs) w1 => ∃ g1, St w [] g g1 T w1 ∧ RowT w 30 4 (.slice Ar i cr) i xs T ∧ LsR RefC 4 g1 xs ((cvR (cf r)).take i) ∧ RefS g1 (some ⟨ba, oa, none⟩) (cf r).length (cfR r) ∧ i ≤ (cf r).length) (fun (i, Ar, cr, T, xs) => (cf r).length - i) (0, none, 0, [], []) ?k1 ?i1 ?r1
  case k1 => exact ⟨rfl, rfl, rfl, rfl, trivial⟩
  case i1 =>
    exact ⟨_, hst, RowT.nil _ _ _, rfl, hs, Nat.zero_le _⟩
  case r1 =>
    clear hst
    clear hs
    rintro ⟨i, Ar, cr, T, xs⟩ w1 ⟨g1, hst, hrt, hls, hs, hi⟩
    refine zsr ?_
    refine stepK_d rfl rfl rfl hst (does_lss rfl rfl rfl) ?_
    refine znq ?_
    refine cp_if rfl ?_ ?_
    intro c10
    refine cp_skip ?_
    refine cp_then ?_
    refine cp_seq ?_
    refine cp_block ?_
    refine zsr ?_
    refine zM rfl hst rfl ?_
    refine zA rfl hst rfl ?_
    refine znq ?_
    obtain ⟨b1, o1, x1, c1, e1, hx1, hlc, hRc, hcc⟩ := hs.cell (j := i) (by omega)
    cases e1
    obtain ⟨na1, A1, n1, d1, nb1, B1, m1, d2, rfl, hr1⟩ := hRc
    obtain ⟨e, he, rfl, hem⟩ := cfR_get hx1
    refine cp_region ?_
    refine zM rfl hst rfl ?_
    refine zM rfl hst rfl ?_
    refine stepK_d rfl rfl rfl hst (does_indexAddr (j := i) rfl zf151 zf105 rfl rfl (by omega) (by omega)) ?_
    refine stepK_d rfl rfl rfl hst (does_load_gN rfl (by kernel_rfl) zf105 rfl rfl hcc) ?_
    refine stepK_alloc rfl rfl rfl rfl zf107 rfl hst ?_
    clear hst
    intro b5 w2 hst
    replace hst := hst.tailin []
    simp only [List.cons_append, List.nil_append] at hst
    refine stepK_store 0 rfl rfl rfl rfl rfl rfl zf105 rfl rfl hst rfl (by first | (simp [uN_length]; omega) | simp) ?_
    clear hst
    intro w3 hst
    simp only [zL, splice, Nat.reduceAdd] at hst
    refine znq ?_
    refine zsr ?_
    refine zM rfl hst rfl ?_
    refine stepK_d rfl rfl rfl hst (Does.int (does_sub rfl rfl rfl) (wrap_i64 (by omega) (by omega))) ?_
    refine zA rfl hst rfl ?_
    refine znt ?_
    refine cp_block ?_
    refine cp_loop (ι := Nat × (Bool × Option Addr × Nat × Nat × Bool × Option Addr × Nat × Nat)) (fun (j, (na5, A5, n5, c5, nb5, B5, m5, d5)) => [(0, .slice (some ⟨ba, oa, none⟩) (cf r).length c), (3, .slice Ar i cr), (4, .int .i64 (i : Int)), (5, .pointer (some ⟨b5, 0, none⟩)), (6, .int .i64 ((j : Int) - 1)), (8, .int .i64 ((cf r).length : Int)), (9, .int .i64 (i : Int))]) (fun (j, (na5, A5, n5, c5, nb5, B5, m5, d5)) w2 => ∃ g2, St w [] g g2 ((b5, .cells #[.bool na5, .slice A5 n5 c5, .bool nb5, .slice B5 m5 d5] 30 (0, 0)) :: T) w2 ∧ LsR RefC 4 g2 xs ((cvR (cf r)).take i) ∧ RefS g2 (some ⟨ba, oa, none⟩) (cf r).length (cfR r) ∧ j ≤ i ∧ IsQ g2 na5 A5 n5 nb5 B5 m5 (cfVal (((cf r).take (i + 1)).drop j))) (fun (j, (na5, A5, n5, c5, nb5, B5, m5, d5)) => j) (i, (na1, A1, n1, d1, nb1, B1, m1, d2)) ?k4 ?i4 ?r4
    case k4 => exact ⟨rfl, rfl, rfl, rfl, rfl, rfl, rfl, trivial⟩
    case i4 =>
      exact ⟨_, hst, hls, hs, Nat.le_refl _, hr1.to (cfVal_one he).symm⟩
    case r4 =>
      clear hst
      clear hs hls hr1 hcc
      rintro ⟨j, na5, A5, n5, c5, nb5, B5, m5, d5⟩ w2 ⟨g2, hst, hls, hs, hj, h5⟩
      refine cp_seq ?_
      refine zsr ?_
      refine zM rfl hst rfl ?_
      refine stepK_d rfl rfl rfl hst (does_geq rfl rfl rfl) ?_
      refine znt ?_
      refine cp_if rfl ?_ ?_
      intro c19
      refine cp_skip ?_
      refine cp_then ?_
      refine cp_seq ?_
      refine cp_block ?_
      obtain ⟨b2, o2, x2, c2, e2, hx2, hlc2, hRc2, hcc2⟩ := hs.cell (j := j - 1) (by omega)
      cases e2
      obtain ⟨na2, A2, n2, d3, nb2, B2, m2, d4, rfl, hr2⟩ := hRc2
      obtain ⟨ea, hea, rfl, hema⟩ := cfR_get hx2
      have sea := cf_sz r hz ea hema
      have sv := cfVal_szj hz (i := i) (j := j) (by omega) (by omega)
      have fv := sv.fitH (by have := Nat.mul_le_mul (show k + 1 ≤ 1001 by omega) (show i + 1 ≤ 8002 by omega); omega)
      have fq := ((so.div sv).fitH (by have := Nat.mul_le_mul (show k + 1 ≤ 1001 by omega) (show i + 1 ≤ 8002 by omega); omega))
      refine cp_drawn (by kernel_rfl) 8 [(0, true), (1, true), (2, true), (3, true), (5, true), (4, false), (6, false), (7, false)] _ rfl (by kernel_rfl) (by kernel_rfl) (by kernel_rfl) (fun _ _ _ _ _ h => h) _ (hst.drew) ?_
      have hst0 := hst.drew
      clear hst
      have hst := hst0
      refine stepD_d rfl rfl rfl rfl (does_move rfl rfl) ?_
      refine stepD_d rfl rfl rfl rfl (does_move rfl rfl) ?_
      refine stepD_d rfl rfl rfl rfl (does_indexAddr (j := (j - 1)) rfl zf151 zf105 rfl rfl (by omega) (by omega)) ?_
      refine stepD_d rfl rfl rfl rfl (does_load_gN rfl (by kernel_rfl) zf105 rfl rfl hcc2) ?_
      refine stepD_d rfl rfl rfl rfl (does_load_ownN 0 rfl (by kernel_rfl) zf105 rfl rfl rfl) ?_
      refine stepD_call rfl rfl rfl rfl rfl rfl hst (sref_One hst.agree) (fun _ _ h hle => St.older h hle (by simp) hst0.ext hst0.le) ?_
      clear hst
      intro v5 g5 w5 hst hle5 hcs5 hp5
      have hlesum := hle5
      replace hs := hs.mono hle5
      replace hls := hls.mono hle5
      replace h5 := h5.mono hle5
      replace hr2 := hr2.mono hle5
      obtain ⟨na26, A26, n26, c26, nb26, B26, m26, d26, rfl, h26⟩ := hp5
      refine stepD_call rfl rfl rfl rfl rfl rfl hst (snum_RDiv hst.agree h26 h5 f1 fv) (fun _ _ h hle => St.older h (Mem.le.trans hlesum hle) (by simp) hst0.ext hst0.le) ?_
      clear hst
      intro v6 g6 w6 hst hle6 hcs6 hp6
      replace hlesum := Mem.le.trans hlesum hle6
      replace hs := hs.mono hle6
      replace hls := hls.mono hle6
      replace h5 := h5.mono hle6
      replace hr2 := hr2.mono hle6
      replace h26 := h26.mono hle6
      obtain ⟨na28, A28, n28, c28, nb28, B28, m28, d28, rfl, h28⟩ := hp6
      refine stepD_call rfl rfl rfl rfl rfl rfl hst (snum_RAdd hst.agree hr2 h28 (sea.fitH (by omega)) fq) (fun _ _ h hle => St.older h (Mem.le.trans hlesum hle) (by simp) hst0.ext hst0.le) ?_
      clear hst
      intro v7 g7 w7 hst hle7 hcs7 hp7
      replace hlesum := Mem.le.trans hlesum hle7
      replace hs := hs.mono hle7
      replace hls := hls.mono hle7
      replace h5 := h5.mono hle7
      replace hr2 := hr2.mono hle7
      replace h26 := h26.mono hle7
      replace h28 := h28.mono hle7
      obtain ⟨na29, A29, n29, c29, nb29, B29, m29, d29, rfl, h29⟩ := hp7
      refine stepD_tail ?_
      refine stepK_store 0 rfl rfl rfl rfl rfl rfl zf105 rfl rfl hst rfl (by first | (simp [uN_length]; omega) | simp) ?_
      clear hst
      intro w8 hst
      simp only [zL, splice, Nat.reduceAdd] at hst
      refine wpK_nil ?_
      refine at_block_normal ?_
      refine cp_then ?_
      refine cp_region ?_
      refine zM rfl hst rfl ?_
      refine stepK_d rfl rfl rfl hst (Does.int (does_sub rfl rfl rfl) (wrap_i64 (by omega) (by omega))) ?_
      refine zA rfl hst rfl ?_
      refine wpK_nil ?_
      obtain ⟨j, rfl⟩ : ∃ j0, j = j0 + 1 := ⟨j - 1, by omega⟩
      simp only [Nat.add_sub_cancel] at *
      refine round_end ((j, (na29, A29, n29, c29, nb29, B29, m29, d29))) ?_ ?_ ?_
      exact ⟨rfl, rfl, rfl, rfl, (kint (by omega)), rfl, rfl, trivial⟩
      exact ⟨_, hst.weaken _ (by simp), hls, hs, by omega, h29.to (by rw [cfVal_more hea (by omega) (by omega)])⟩
      show j < j + 1
      omega
      intro c19
      refine cp_exit ?_
      refine at_then_exit ?_
      refine at_then_exit ?_
      refine cp_exit_here ?_
      refine cp_then ?_
      refine cp_region ?_
      refine zM rfl hst rfl ?_
      refine stepK_d rfl rfl rfl hst (does_load_ownN 0 rfl (by kernel_rfl) zf105 rfl rfl rfl) ?_
      refine stepK_buildSlice rfl rfl rfl rfl zf151 zf152 rfl rfl (by decide) (by decide) (by decide) rfl rfl hst ?_
      clear hst
      intro b32 w9 hst
      replace hst := hst.tailin [_]
      simp only [List.cons_append, List.nil_append] at hst
      refine stepK_append rfl rfl rfl rfl zf151 zf152 rfl (by decide) rfl rfl (hrt.row [_, _] hst) (news := [.bool na5, .slice A5 n5 c5, .bool nb5, .slice B5 m5 d5]) rfl (fun j u hj => by rw [addr_add, Nat.zero_add]; exact hst.cell_own 1 rfl (by simpa using hj)) (by simp [Value.oneCell']) (by omega) (by omega) ?_
      clear hst
      intro vr10 w10 hrow
      obtain ⟨T33, Ar33, cr33, rfl, hrt9, hst⟩ := hrow.tail
      clear hrow hrt
      have hrt := hrt9
      clear hrt9
      simp only [List.cons_append, List.nil_append] at hst
      refine zA rfl hst rfl ?_
      refine wpK_nil ?_
      refine at_block_normal ?_
      refine cp_then ?_
      refine cp_region ?_
      refine stepK_d rfl rfl rfl hst (Does.int (does_add rfl rfl rfl) (wrap_i64 (by omega) (by omega))) ?_
      refine zM rfl hst rfl ?_
      refine wpK_nil ?_
      have e0 : j = 0 := by omega
      subst e0
      rw [List.drop_zero, ← cvR_ref (by omega)] at h5
      refine round_end ((i + 1, Ar33, cr33, T33, xs ++ [.bool na5, .slice A5 n5 c5, .bool nb5, .slice B5 m5 d5])) ?_ ?_ ?_
      exact ⟨rfl, rfl, rfl, rfl, trivial⟩
      refine ⟨_, hst.weaken _ (by simp), hrt, ?_, hs, by omega⟩
      rw [cvR_take (by omega)]; exact LsR.snoc rfl (RefC.mk h5) hls
      show (cf r).length - (i + 1) < (cf r).length - i
      omega
    intro c10
    refine cp_exit ?_
    refine at_then_exit ?_
    refine at_then_exit ?_
    refine cp_exit_here ?_
    refine cp_then ?_
    refine zsr ?_
    refine zM rfl hst rfl ?_
    refine zA rfl hst rfl ?_
    refine znt ?_
    refine cp_ret ?_
    obtain ⟨g9, A9, c9, e9, hc9, hst, hle9, hs9⟩ := hrt.publish RefC.mono [] hst hls (by decide)
    injection e9 with e91 e92 e93
    subst e91 e93
    refine ret1 rfl rfl hst ?_
    have e9 : i = (cf r).length := by omega
    subst e9
    rw [List.take_of_length_le (by rw [cvR_length]; exact Nat.le_refl _)] at hs9
    exact ⟨_, _, rfl, hs9⟩

end Go.Proofs.YtnbcedkpkcgmkaaGreatDoor
