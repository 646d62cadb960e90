/- The walks of functions, printed by a program of this session out of its specs. -/
import Derived.Test.YtnbcedkpkcgmkaaGreatDoorCY
import Derived.Test.YtnbcedkpkcgmkaaGreatDoorCG
import Derived.Test.YtnbcedkpkcgmkaaGreatDoorF5
import Derived.Test.YtnbcedkpkcgmkaaGreatDoorKN
import Derived.Test.YtnbcedkpkcgmkaaGreatDoorProg
import Derived.Test.YtnbcedkpkcgmkaaGreatDoorF0
namespace Go.Proofs.YtnbcedkpkcgmkaaGreatDoor
open Go Go.RowKit Go.Proofs.Vc
set_option linter.unusedVariables false
set_option linter.unusedSimpArgs false

set_option maxHeartbeats 1000000 in
theorem nearest_quotients {g : Mem} {w : World} (hag : Agree g w) {p q : Int} {a : Option Addr} {r : Rat} (ha : IsRat g p q a r) {k : Nat} (hz : Sz k r) (hk : k ≤ 100000) :
    CallTo Tryz.prog 60 #[.agg #[.int .i64 p, .int .i64 q, .pointer a]] w (Ret w g fun v g => ∃ A c, v = .slice A (cf r).length c ∧ (cf r).length ≤ c ∧ RatS g A (cf r).length (cfR r)) := by
  refine CallTo.enter (vs := [.agg #[.int .i64 p, .int .i64 q, .pointer a]]) zf141 (by kernel_rfl) rfl rfl rfl ?_
  have hst := St.init hag
  have hlen := cf_len_sz hz
  refine zsr ?_
  refine stepK_box rfl rfl rfl rfl rfl rfl hst ?_
  clear hst
  intro b1 w1 hst
  refine zA rfl hst rfl ?_
  refine zn4 ?_
  refine zA rfl hst rfl ?_
  refine znt ?_
  refine cp_block ?_
  refine cp_loop (ι := Int × Int × Option Addr × Rat × List Int × Option Addr × Nat × List (Nat × Obj) × List Value) (fun (p, q, a, y, l, Ar, cr, T, xs) => [(1, .pointer (some ⟨b1, 0, none⟩)), (3, .slice Ar l.length cr)]) (fun (p, q, a, y, l, Ar, cr, T, xs) w1 => ∃ g1, St w [] g g1 ((b1, .cells #[.int .i64 p, .int .i64 q, .pointer a] 63 (0, 0)) :: T) w1 ∧ RowT w 63 3 (.slice Ar l.length cr) l.length xs T ∧ LsR RatC 3 g1 xs (l.map (fun z : Int => (z : Rat))) ∧ IsRat g1 p q a y ∧ Sz k y ∧ l ++ cf y = cf r) (fun (p, q, a, y, l, Ar, cr, T, xs) => y.den) (p, q, a, r, [], none, 0, [], []) ?k2 ?i2 ?r2
  case k2 => exact ⟨rfl, rfl, trivial⟩
  case i2 =>
    exact ⟨_, hst, RowT.nil _ _ _, rfl, ha, hz, rfl⟩
  case r2 =>
    clear hst
    clear ha
    rintro ⟨p, q, a, y, l, Ar, cr, T, xs⟩ w1 ⟨g1, hst, hrt, hls, hy, hzy, hl⟩
    have fy := hzy.fit (by omega)
    have sf := floor_sz hzy
    have ff := sf.fit (by omega)
    have hll := congrArg List.length hl
    rw [List.length_append] at hll
    refine cp_block ?_
    refine zsr ?_
    refine stepK_d rfl rfl rfl hst (does_load_ownN 0 rfl (by kernel_rfl) zf31 rfl rfl rfl) ?_
    refine stepK_call rfl rfl rfl rfl rfl hst (Rat_Floor hst.agree hy fy) ?_
    clear hst
    intro v3 g3 w3 hst hle3 hcs3 hp3
    replace hls := hls.mono hle3
    replace hy := hy.mono hle3
    obtain ⟨p6, q6, a6, rfl, h6⟩ := hp3
    refine stepK_alloc rfl rfl rfl rfl zf29 rfl hst ?_
    clear hst
    intro b4 w4 hst
    replace hst := hst.tailin [_]
    simp only [List.cons_append, List.nil_append] at hst
    refine stepK_store 1 rfl rfl rfl rfl rfl rfl zf31 rfl rfl hst rfl (by first | (simp [uN_length]; omega) | simp) ?_
    clear hst
    intro w5 hst
    simp only [zL, splice, Nat.reduceAdd] at hst
    refine zn4 ?_
    refine zM rfl hst rfl ?_
    refine stepK_d rfl rfl rfl hst (does_load_ownN 1 rfl (by kernel_rfl) zf31 rfl rfl rfl) ?_
    refine stepK_buildSlice rfl rfl rfl rfl zf142 zf143 rfl rfl (by decide) (by decide) (by decide) rfl rfl hst ?_
    clear hst
    intro b9 w6 hst
    replace hst := hst.tailin [_, _]
    simp only [List.cons_append, List.nil_append] at hst
    refine stepK_append rfl rfl rfl rfl zf142 zf143 rfl (by decide) rfl rfl (hrt.row [_, _, _] hst) (news := [.int .i64 p6, .int .i64 q6, .pointer a6]) rfl (fun j u hj => by rw [addr_add, Nat.zero_add]; exact hst.cell_own 2 rfl (by simpa using hj)) (by simp [Value.oneCell']) (by omega) (by omega) ?_
    clear hst
    intro vr7 w7 hrow
    obtain ⟨T10, Ar10, cr10, rfl, hrt9, hst⟩ := hrow.tail
    clear hrow hrt
    have hrt := hrt9
    clear hrt9
    simp only [List.cons_append, List.nil_append] at hst
    refine zA rfl hst rfl ?_
    refine zn4 ?_
    refine stepK_d rfl rfl rfl hst (does_load_ownN 0 rfl (by kernel_rfl) zf31 rfl rfl rfl) ?_
    refine stepK_d rfl rfl rfl hst (does_load_ownN 1 rfl (by kernel_rfl) zf31 rfl rfl rfl) ?_
    refine stepK_call rfl rfl rfl rfl rfl hst (Rat_Sub hst.agree hy h6 fy ff) ?_
    clear hst
    intro v8 g8 w8 hst hle8 hcs8 hp8
    replace hls := hls.mono hle8
    replace hy := hy.mono hle8
    replace h6 := h6.mono hle8
    obtain ⟨p13, q13, a13, rfl, h13⟩ := hp8
    refine stepK_store 0 rfl rfl rfl rfl rfl rfl zf31 rfl rfl hst rfl (by first | (simp [uN_length]; omega) | simp) ?_
    clear hst
    intro w9 hst
    simp only [zL, splice, Nat.reduceAdd] at hst
    refine znq ?_
    refine zsr ?_
    refine stepK_d rfl rfl rfl hst (does_load_ownN 0 rfl (by kernel_rfl) zf31 rfl rfl rfl) ?_
    refine stepK_call rfl rfl rfl rfl rfl hst (Rat_Zero hst.agree h13) ?_
    clear hst
    intro v10 g10 w10 hst hle10 hcs10 hp10
    replace hls := hls.mono hle10
    replace hy := hy.mono hle10
    replace h6 := h6.mono hle10
    replace h13 := h13.mono hle10
    obtain rfl := hp10
    refine znt ?_
    refine cp_if rfl ?_ ?_
    intro c15
    refine zsr ?_
    refine zM rfl hst rfl ?_
    refine zA rfl hst rfl ?_
    refine zn5 ?_
    refine at_block_ret ?_
    refine at_then_ret ?_
    refine at_block_ret ?_
    have hll2 : (cf r).length = l.length + 1 := by rw [← hl, cf_stop c15, List.length_append]; rfl
    replace hls := LsR.snoc rfl (RatC.mk h6) hls
    obtain ⟨g9, A9, c9, e9, hc9, hst, hle9, hs9⟩ := hrt.publish RatC.mono [_, _, _] hst hls (by decide)
    injection e9 with e91 e92 e93
    subst e91 e93
    refine ret1 rfl rfl hst ?_
    refine ⟨_, _, by rw [hll2], by rw [hll2]; exact hc9, ?_⟩
    rw [hll2, cfR, ← hl, cf_stop c15, List.map_append]
    exact hs9
    intro c15
    refine cp_skip ?_
    refine cp_then ?_
    refine cp_region ?_
    refine stepK_d rfl rfl rfl hst (does_load_ownN 0 rfl (by kernel_rfl) zf31 rfl rfl rfl) ?_
    refine stepK_call rfl rfl rfl rfl rfl hst (Rat_Inv hst.agree h13) ?_
    clear hst
    intro v11 g11 w11 hst hle11 hcs11 hp11
    replace hls := hls.mono hle11
    replace hy := hy.mono hle11
    replace h6 := h6.mono hle11
    replace h13 := h13.mono hle11
    obtain ⟨p18, q18, a18, rfl, h18⟩ := hp11
    refine stepK_store 0 rfl rfl rfl rfl rfl rfl zf31 rfl rfl hst rfl (by first | (simp [uN_length]; omega) | simp) ?_
    clear hst
    intro w12 hst
    simp only [zL, splice, Nat.reduceAdd] at hst
    refine wpK_nil ?_
    refine at_block_normal ?_
    refine round_end ((p18, q18, a18, (y - (y.floor : Rat))⁻¹, l ++ [y.floor], Ar10, cr10, T10, xs ++ [.int .i64 p6, .int .i64 q6, .pointer a6])) ?_ ?_ ?_
    exact ⟨rfl, (by rw [List.length_append]; rfl), trivial⟩
    refine ⟨_, hst.weaken _ (by simp), ?_, ?_, h18, rest_sz c15 hzy, ?_⟩
    rw [List.length_append]; exact hrt
    rw [List.map_append]; exact LsR.snoc rfl (RatC.mk h6) hls
    rw [List.append_assoc, ← hl, cf_more c15]; rfl
    exact (frac_parts2 c15).2.2.1

end Go.Proofs.YtnbcedkpkcgmkaaGreatDoor
