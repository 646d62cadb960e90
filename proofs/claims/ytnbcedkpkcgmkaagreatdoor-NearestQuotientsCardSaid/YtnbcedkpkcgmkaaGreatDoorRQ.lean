/- The walks of functions, printed by a program of this session out of its specs. -/
import Derived.Test.YtnbcedkpkcgmkaaGreatDoorCY
import Derived.Test.YtnbcedkpkcgmkaaGreatDoorCG
import Derived.Test.YtnbcedkpkcgmkaaGreatDoorFM
import Derived.Test.YtnbcedkpkcgmkaaGreatDoorF9
import Derived.Test.YtnbcedkpkcgmkaaGreatDoorFB
import Derived.Test.YtnbcedkpkcgmkaaGreatDoorProg
import Derived.Test.YtnbcedkpkcgmkaaGreatDoorF0
namespace Go.Proofs.YtnbcedkpkcgmkaaGreatDoor
open Go Go.RowKit Go.Proofs.Vc
set_option linter.unusedVariables false
set_option linter.unusedSimpArgs false

set_option maxHeartbeats 1000000 in
theorem sref_Quotients {g : Mem} {w : World} (hag : Agree g w) {na nb : Bool} {A B : Option Addr} {n c m d : Nat} {r : Rat} (ha : IsQ g na A n nb B m r) {k : Nat} (hz : Sz k r) (hk : k ≤ 100000) :
    CallTo Tryz.prog 23 #[.agg #[.bool na, .slice A n c, .bool nb, .slice B m d]] w (Ret w g fun v g => ∃ A c, v = .slice A (cf r).length c ∧ (cf r).length ≤ c ∧ RefS g A (cf r).length (cfR r)) := by
  refine CallTo.enter (vs := [.agg #[.bool na, .slice A n c, .bool nb, .slice B m d]]) zf150 (by kernel_rfl) rfl rfl rfl ?_
  have hst := St.init hag
  have hlen := cf_len_sz hz
  have so : Sz 1 (1 : Rat) := ⟨by decide +kernel, by decide +kernel⟩
  have f1 : FitH (1 : Rat) := so.fitH (by decide)
  refine zsr ?_
  refine stepK_box rfl rfl rfl rfl rfl rfl hst ?_
  clear hst
  intro b1 w1 hst
  refine zA rfl hst rfl ?_
  refine zn4 ?_
  refine zA rfl hst rfl ?_
  refine znt ?_
  refine cp_block ?_
  refine cp_loop (ι := (Bool × Option Addr × Nat × Nat × Bool × Option Addr × Nat × Nat) × Rat × List Int × Option Addr × Nat × List (Nat × Obj) × List Value) (fun ((na, A, n, c, nb, B, m, d), y, l, Ar, cr, T, xs) => [(1, .pointer (some ⟨b1, 0, none⟩)), (3, .slice Ar l.length cr)]) (fun ((na, A, n, c, nb, B, m, d), y, l, Ar, cr, T, xs) w1 => ∃ g1, St w [] g g1 ((b1, .cells #[.bool na, .slice A n c, .bool nb, .slice B m d] 30 (0, 0)) :: T) w1 ∧ RowT w 30 4 (.slice Ar l.length cr) l.length xs T ∧ LsR RefC 4 g1 xs (l.map (fun z : Int => (z : Rat))) ∧ IsQ g1 na A n nb B m y ∧ Sz k y ∧ l ++ cf y = cf r) (fun ((na, A, n, c, nb, B, m, d), y, l, Ar, cr, T, xs) => y.den) ((na, A, n, c, nb, B, m, d), r, [], none, 0, [], []) ?k2 ?i2 ?r2
  case k2 => exact ⟨rfl, rfl, trivial⟩
  case i2 =>
    exact ⟨_, hst, RowT.nil _ _ _, rfl, ha, hz, rfl⟩
  case r2 =>
    clear hst
    clear ha
    rintro ⟨⟨na, A, n, c, nb, B, m, d⟩, y, l, Ar, cr, T, xs⟩ w1 ⟨g1, hst, hrt, hls, hy, hzy, hl⟩
    have fy := hzy.fitH (by omega)
    have sf := floor_sz hzy
    have ff := sf.fitH (by omega)
    have hll := congrArg List.length hl
    rw [List.length_append] at hll
    refine cp_block ?_
    refine zsr ?_
    refine stepK_d rfl rfl rfl hst (does_load_ownN 0 rfl (by kernel_rfl) zf105 rfl rfl rfl) ?_
    refine stepK_call rfl rfl rfl rfl rfl hst (snum_Floor hst.agree hy fy) ?_
    clear hst
    intro v3 g3 w3 hst hle3 hcs3 hp3
    replace hls := hls.mono hle3
    replace hy := hy.mono hle3
    obtain ⟨na6, A6, n6, c6, rfl, h6z⟩ := hp3
    refine stepK_d rfl rfl rfl hst (does_build rfl zf108 rfl rfl) ?_
    refine stepK_alloc rfl rfl rfl rfl zf107 rfl hst ?_
    clear hst
    intro b4 w4 hst
    replace hst := hst.tailin [_]
    simp only [List.cons_append, List.nil_append] at hst
    refine stepK_store 1 rfl rfl rfl rfl rfl rfl zf105 rfl rfl hst rfl (by first | (simp [uN_length]; omega) | simp) ?_
    clear hst
    intro w5 hst
    simp only [zL, splice, Nat.reduceAdd] at hst
    refine zn4 ?_
    refine zM rfl hst rfl ?_
    refine stepK_d rfl rfl rfl hst (does_load_ownN 1 rfl (by kernel_rfl) zf105 rfl rfl rfl) ?_
    refine stepK_buildSlice rfl rfl rfl rfl zf151 zf152 rfl rfl (by decide) (by decide) (by decide) rfl rfl hst ?_
    clear hst
    intro b9 w6 hst
    replace hst := hst.tailin [_, _]
    simp only [List.cons_append, List.nil_append] at hst
    refine stepK_append rfl rfl rfl rfl zf151 zf152 rfl (by decide) rfl rfl (hrt.row [_, _, _] hst) (news := [.bool na6, .slice A6 n6 c6, .bool false, .slice none 0 0]) rfl (fun j u hj => by rw [addr_add, Nat.zero_add]; exact hst.cell_own 2 rfl (by simpa using hj)) (by simp [Value.oneCell']) (by omega) (by omega) ?_
    clear hst
    intro vr7 w7 hrow
    obtain ⟨T11, Ar11, cr11, rfl, hrt9, hst⟩ := hrow.tail
    clear hrow hrt
    have hrt := hrt9
    clear hrt9
    simp only [List.cons_append, List.nil_append] at hst
    refine zA rfl hst rfl ?_
    refine zn4 ?_
    refine stepK_d rfl rfl rfl hst (does_load_ownN 0 rfl (by kernel_rfl) zf105 rfl rfl rfl) ?_
    refine stepK_d rfl rfl rfl hst (does_load_ownN 1 rfl (by kernel_rfl) zf105 rfl rfl rfl) ?_
    refine stepK_call rfl rfl rfl rfl rfl hst (snum_RSub hst.agree hy (IsQ.int h6z) fy ff) ?_
    clear hst
    intro v8 g8 w8 hst hle8 hcs8 hp8
    replace hls := hls.mono hle8
    replace hy := hy.mono hle8
    replace h6z := h6z.mono hle8
    obtain ⟨na14, A14, n14, c14, nb14, B14, m14, d14, rfl, h14⟩ := hp8
    refine stepK_store 0 rfl rfl rfl rfl rfl rfl zf105 rfl rfl hst rfl (by first | (simp [uN_length]; omega) | simp) ?_
    clear hst
    intro w9 hst
    simp only [zL, splice, Nat.reduceAdd] at hst
    refine znq ?_
    refine zsr ?_
    refine stepK_d rfl rfl rfl hst (does_load_ownN 0 rfl (by kernel_rfl) zf105 rfl rfl rfl) ?_
    refine stepK_call rfl rfl rfl rfl rfl hst (snum_RSign hst.agree h14) ?_
    clear hst
    intro v10 g10 w10 hst hle10 hcs10 hp10
    replace hls := hls.mono hle10
    replace hy := hy.mono hle10
    replace h6z := h6z.mono hle10
    replace h14 := h14.mono hle10
    obtain rfl := hp10
    refine stepK_d rfl rfl rfl hst (does_eql rfl rfl rfl) ?_
    refine znt ?_
    refine cp_if rfl ?_ ?_
    intro c17
    refine zsr ?_
    refine zM rfl hst rfl ?_
    refine zA rfl hst rfl ?_
    refine zn5 ?_
    refine at_block_ret ?_
    refine at_then_ret ?_
    refine at_block_ret ?_
    have c18 := sgn_z.1 c17
    have hll2 : (cf r).length = l.length + 1 := by rw [← hl, cf_stop c18, List.length_append]; rfl
    replace hls := LsR.snoc rfl (RefC.mk (ca := c6) (cb := 0) (IsQ.int h6z)) hls
    obtain ⟨g9, A9, c9, e9, hc9, hst, hle9, hs9⟩ := hrt.publish RefC.mono [_, _, _] hst hls (by decide)
    injection e9 with e91 e92 e93
    subst e91 e93
    refine ret1 rfl rfl hst ?_
    refine ⟨_, _, by rw [hll2], by rw [hll2]; exact hc9, ?_⟩
    rw [hll2, cfR, ← hl, cf_stop c18, List.map_append]
    exact hs9
    intro c17
    refine cp_skip ?_
    refine cp_then ?_
    refine cp_drawn (by kernel_rfl) 3 [(1, true), (0, false), (2, false)] _ rfl (by kernel_rfl) (by kernel_rfl) (by kernel_rfl) (fun _ _ _ _ _ h => h) _ (hst.drew) ?_
    have hst0 := hst.drew
    clear hst
    have hst := hst0
    refine stepD_d rfl rfl rfl rfl (does_load_ownN 0 rfl (by kernel_rfl) zf105 rfl rfl rfl) ?_
    refine stepD_call rfl rfl rfl rfl rfl rfl hst (sref_One hst.agree) (fun _ _ h hle => St.older h hle (by simp) hst0.ext hst0.le) ?_
    clear hst
    intro v11 g11 w11 hst hle11 hcs11 hp11
    have hlesum := hle11
    replace hls := hls.mono hle11
    replace hy := hy.mono hle11
    replace h6z := h6z.mono hle11
    replace h14 := h14.mono hle11
    obtain ⟨na19, A19, n19, c19, nb19, B19, m19, d19, rfl, h19⟩ := hp11
    refine stepD_call rfl rfl rfl rfl rfl rfl hst (snum_RDiv hst.agree h19 h14 f1 ((frac_sz hzy).fitH (by omega))) (fun _ _ h hle => St.older h (Mem.le.trans hlesum hle) (by simp) hst0.ext hst0.le) ?_
    clear hst
    intro v12 g12 w12 hst hle12 hcs12 hp12
    replace hlesum := Mem.le.trans hlesum hle12
    replace hls := hls.mono hle12
    replace hy := hy.mono hle12
    replace h6z := h6z.mono hle12
    replace h14 := h14.mono hle12
    replace h19 := h19.mono hle12
    obtain ⟨na21, A21, n21, c21, nb21, B21, m21, d21, rfl, h21⟩ := hp12
    refine stepD_tail ?_
    refine stepK_store 0 rfl rfl rfl rfl rfl rfl zf105 rfl rfl hst rfl (by first | (simp [uN_length]; omega) | simp) ?_
    clear hst
    intro w13 hst
    simp only [zL, splice, Nat.reduceAdd] at hst
    refine wpK_nil ?_
    refine at_block_normal ?_
    refine round_end (((na21, A21, n21, c21, nb21, B21, m21, d21), (y - (y.floor : Rat))⁻¹, l ++ [y.floor], Ar11, cr11, T11, xs ++ [.bool na6, .slice A6 n6 c6, .bool false, .slice none 0 0])) ?_ ?_ ?_
    exact ⟨rfl, (by rw [List.length_append]; rfl), trivial⟩
    refine ⟨_, hst.weaken _ (by simp), ?_, ?_, h21.to (by rw [Rat.div_def, Rat.one_mul]), rest_sz (fun e => c17 (sgn_z.2 e)) hzy, ?_⟩
    rw [List.length_append]; exact hrt
    rw [List.map_append]; exact LsR.snoc rfl (RefC.mk (ca := c6) (cb := 0) (IsQ.int h6z)) hls
    rw [List.append_assoc, ← hl, cf_more (fun e => c17 (sgn_z.2 e))]; rfl
    exact (frac_parts2 (fun e => c17 (sgn_z.2 e))).2.2.1

end Go.Proofs.YtnbcedkpkcgmkaaGreatDoor
