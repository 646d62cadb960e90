/- The walks of functions, printed by a program of this session out of its specs. -/
import Derived.Test.YtnbcedkpkcgmkaaGreatDoorCY
import Derived.Test.YtnbcedkpkcgmkaaGreatDoorCG
import Derived.Test.YtnbcedkpkcgmkaaGreatDoorHQ
import Derived.Test.YtnbcedkpkcgmkaaGreatDoorHT
import Derived.Test.YtnbcedkpkcgmkaaGreatDoorF6
import Derived.Test.YtnbcedkpkcgmkaaGreatDoorProg
import Derived.Test.YtnbcedkpkcgmkaaGreatDoorF0
namespace Go.Proofs.YtnbcedkpkcgmkaaGreatDoor
open Go Go.RowKit Go.Proofs.Vc
set_option linter.unusedVariables false
set_option linter.unusedSimpArgs false

set_option maxHeartbeats 4000000 in
theorem nearest_Convergents {g : Mem} {w : World} (hag : Agree g w) (hT : TabG Tryz.prog g) {a : ByteArray} (ha : a.size ≤ 60) :
    CallTo Tryz.prog 16 #[.string a] w (Ret w g fun v g => ∃ A n c, v = .tuple #[.slice A n c, .int .i64 (if (readR a).isSome then 0 else 1)] ∧ StrS g A n (if (readR a).isSome then (cvR (cf (getR a))).map ratS else []) ∧ n ≤ 1000000) := by
  refine CallTo.enter (vs := [.string a]) zf148 (by kernel_rfl) rfl rfl rfl ?_
  have hst := St.init hag
  have sx := (getR_sz a).mono (m := 61) (by omega)
  have fx := sx.fit (by decide)
  have hlen := cf_len_sz sx
  refine zsr ?_
  refine zA rfl hst rfl ?_
  refine zA rfl hst rfl ?_
  refine zn4 ?_
  refine zM rfl hst rfl ?_
  refine stepK_call rfl rfl rfl rfl rfl hst (num_Of hst.agree (by omega)) ?_
  clear hst
  intro v1 g1 w1 hst hle1 hcs1 hp1
  replace hT := hT.mono hle1
  obtain ⟨p1, q1, a1, rfl, h1⟩ := hp1
  refine zM rfl hst rfl ?_
  refine zE rfl hst rfl rfl ?_
  refine zE rfl hst rfl rfl ?_
  refine stepK_alloc rfl rfl rfl rfl zf29 rfl hst ?_
  clear hst
  intro b4 w2 hst
  refine stepK_store 0 rfl rfl rfl rfl rfl rfl zf31 rfl rfl hst rfl (by first | (simp [uN_length]; omega) | simp) ?_
  clear hst
  intro w3 hst
  simp only [zL, splice, Nat.reduceAdd] at hst
  refine zA rfl hst rfl ?_
  refine znq ?_
  refine zsr ?_
  refine zM rfl hst rfl ?_
  refine stepK_d rfl rfl rfl hst (does_not rfl rfl) ?_
  refine znt ?_
  refine cp_cond rfl ?_ ?_
  intro c19
  have hno : ¬ (readR a).isSome := fun h => by rw [h] at c19; cases c19
  refine zsr ?_
  refine zA rfl hst rfl ?_
  refine zA rfl hst rfl ?_
  refine zn5 ?_
  refine ret2 rfl rfl rfl hst ?_
  rw [if_neg hno, if_neg hno]
  exact ⟨_, _, _, rfl, ⟨rfl, .inl rfl⟩, Nat.zero_le _⟩
  intro c19
  have hs1 : (readR a).isSome = true := by simpa using c19
  refine zk4 ?_
  refine zA rfl hst rfl ?_
  refine zn4 ?_
  refine stepK_call rfl rfl rfl rfl rfl hst (num_Int hst.agree (by decide) (by decide)) ?_
  clear hst
  intro v4 g4 w4 hst hle4 hcs4 hp4
  replace hT := hT.mono hle4
  replace h1 := h1.mono hle4
  obtain ⟨p7, q7, a7, rfl, h7⟩ := hp4
  refine stepK_call rfl rfl rfl rfl rfl hst (num_Int hst.agree (by decide) (by decide)) ?_
  clear hst
  intro v5 g5 w5 hst hle5 hcs5 hp5
  replace hT := hT.mono hle5
  replace h1 := h1.mono hle5
  replace h7 := h7.mono hle5
  obtain ⟨p8, q8, a8, rfl, h8⟩ := hp5
  refine stepK_call rfl rfl rfl rfl rfl hst (num_Int hst.agree (by decide) (by decide)) ?_
  clear hst
  intro v6 g6 w6 hst hle6 hcs6 hp6
  replace hT := hT.mono hle6
  replace h1 := h1.mono hle6
  replace h7 := h7.mono hle6
  replace h8 := h8.mono hle6
  obtain ⟨p9, q9, a9, rfl, h9⟩ := hp6
  refine stepK_call rfl rfl rfl rfl rfl hst (num_Int hst.agree (by decide) (by decide)) ?_
  clear hst
  intro v7 g7 w7 hst hle7 hcs7 hp7
  replace hT := hT.mono hle7
  replace h1 := h1.mono hle7
  replace h7 := h7.mono hle7
  replace h8 := h8.mono hle7
  replace h9 := h9.mono hle7
  obtain ⟨p0, q0, a0, rfl, h0⟩ := hp7
  refine stepK_alloc rfl rfl rfl rfl zf29 rfl hst ?_
  clear hst
  intro b7 w8 hst
  refine stepK_alloc rfl rfl rfl rfl zf29 rfl hst ?_
  clear hst
  intro b8 w9 hst
  refine stepK_alloc rfl rfl rfl rfl zf29 rfl hst ?_
  clear hst
  intro b9 w10 hst
  refine stepK_alloc rfl rfl rfl rfl zf29 rfl hst ?_
  clear hst
  intro b0 w11 hst
  refine stepK_store 1 rfl rfl rfl rfl rfl rfl zf31 rfl rfl hst rfl (by first | (simp [uN_length]; omega) | simp) ?_
  clear hst
  intro w12 hst
  simp only [zL, splice, Nat.reduceAdd] at hst
  refine stepK_store 2 rfl rfl rfl rfl rfl rfl zf31 rfl rfl hst rfl (by first | (simp [uN_length]; omega) | simp) ?_
  clear hst
  intro w13 hst
  simp only [zL, splice, Nat.reduceAdd] at hst
  refine stepK_store 3 rfl rfl rfl rfl rfl rfl zf31 rfl rfl hst rfl (by first | (simp [uN_length]; omega) | simp) ?_
  clear hst
  intro w14 hst
  simp only [zL, splice, Nat.reduceAdd] at hst
  refine stepK_store 4 rfl rfl rfl rfl rfl rfl zf31 rfl rfl hst rfl (by first | (simp [uN_length]; omega) | simp) ?_
  clear hst
  intro w15 hst
  simp only [zL, splice, Nat.reduceAdd] at hst
  refine znq ?_
  refine zsr ?_
  refine stepK_d rfl rfl rfl hst (does_load_ownN 0 rfl (by kernel_rfl) zf31 rfl rfl rfl) ?_
  refine stepK_call rfl rfl rfl rfl rfl hst (nearest_quotients hst.agree h1 sx (by decide)) ?_
  clear hst
  intro v16 g16 w16 hst hle16 hcs16 hp16
  replace hT := hT.mono hle16
  replace h1 := h1.mono hle16
  replace h7 := h7.mono hle16
  replace h8 := h8.mono hle16
  replace h9 := h9.mono hle16
  replace h0 := h0.mono hle16
  obtain ⟨Aq, cq, rfl, hcq, hs⟩ := hp16
  refine stepK_d rfl rfl rfl hst (does_len_slice rfl zf142 rfl) ?_
  refine zM rfl hst rfl ?_
  refine znt ?_
  refine cp_block ?_
  refine cp_loop (ι := Nat × (Int × Int × Option Addr) × (Int × Int × Option Addr) × (Int × Int × Option Addr) × (Int × Int × Option Addr) × Option Addr × Nat × List (Nat × Obj) × List Value) (fun (i, (p7, q7, a7), (p8, q8, a8), (p9, q9, a9), (p0, q0, a0), Ar, cr, T, xs) => [(4, .pointer (some ⟨b4, 0, none⟩)), (6, .slice Ar i cr), (7, .pointer (some ⟨b7, 0, none⟩)), (8, .pointer (some ⟨b8, 0, none⟩)), (9, .pointer (some ⟨b9, 0, none⟩)), (10, .pointer (some ⟨b0, 0, none⟩)), (25, .slice Aq (cf (getR a)).length cq), (26, .int .i64 ((cf (getR a)).length : Int)), (27, .int .i64 (i : Int))]) (fun (i, (p7, q7, a7), (p8, q8, a8), (p9, q9, a9), (p0, q0, a0), Ar, cr, T, xs) w1 => ∃ g1, St w [] g g1 ((b4, .cells #[.int .i64 p1, .int .i64 q1, .pointer a1] 63 (0, 0)) :: (b7, .cells #[.int .i64 p7, .int .i64 q7, .pointer a7] 63 (0, 0)) :: (b8, .cells #[.int .i64 p8, .int .i64 q8, .pointer a8] 63 (0, 0)) :: (b9, .cells #[.int .i64 p9, .int .i64 q9, .pointer a9] 63 (0, 0)) :: (b0, .cells #[.int .i64 p0, .int .i64 q0, .pointer a0] 63 (0, 0)) :: T) w1 ∧ RowT w 63 3 (.slice Ar i cr) i xs T ∧ LsR RatC 3 g1 xs ((cvR (cf (getR a))).take i) ∧ TabG Tryz.prog g1 ∧ RatS g1 Aq (cf (getR a)).length (cfR (getR a)) ∧ i ≤ (cf (getR a)).length ∧ IsRat g1 p7 q7 a7 ((cvS (cf (getR a)) i).n0 : Rat) ∧ IsRat g1 p8 q8 a8 ((cvS (cf (getR a)) i).d0 : Rat) ∧ IsRat g1 p9 q9 a9 ((cvS (cf (getR a)) i).n1 : Rat) ∧ IsRat g1 p0 q0 a0 ((cvS (cf (getR a)) i).d1 : Rat)) (fun (i, (p7, q7, a7), (p8, q8, a8), (p9, q9, a9), (p0, q0, a0), Ar, cr, T, xs) => (cf (getR a)).length - i) (0, (p7, q7, a7), (p8, q8, a8), (p9, q9, a9), (p0, q0, a0), none, 0, [], []) ?k17 ?i17 ?r17
  case k17 => exact ⟨rfl, rfl, rfl, rfl, rfl, rfl, rfl, rfl, rfl, trivial⟩
  case i17 =>
    exact ⟨_, hst, RowT.nil _ _ _, rfl, hT, hs, Nat.zero_le _, h7, h8, h9, h0⟩
  case r17 =>
    clear hst
    clear hs hT h1 h7 h8 h9 h0
    rintro ⟨i, ⟨p7, q7, a7⟩, ⟨p8, q8, a8⟩, ⟨p9, q9, a9⟩, ⟨p0, q0, a0⟩, Ar, cr, T, xs⟩ w1 ⟨g1, hst, hrt, hls, hT, hs, hi, h7, h8, h9, h0⟩
    refine zsr ?_
    refine stepK_d rfl rfl rfl hst (does_lss rfl rfl rfl) ?_
    refine znq ?_
    refine cp_if rfl ?_ ?_
    intro c28
    refine cp_skip ?_
    refine cp_then ?_
    refine cp_seq ?_
    refine cp_block ?_
    refine cp_seq ?_
    obtain ⟨b1, o1, x1, c1, e1, hx1, hlc, hRc, hcc⟩ := hs.cell (j := i) (by omega)
    subst e1
    obtain ⟨p12, q12, a12, rfl, h12⟩ := hRc
    obtain ⟨e, he, rfl, hem⟩ := cfR_get hx1
    have se := cf_sz _ sx e hem
    have fe := se.fit (by omega)
    have hB := cvS_sz (i := i) sx
    obtain ⟨s7, s8, s9, s0⟩ := hB.sz (by decide)
    have f7 := s7.fit (by omega)
    have f8 := s8.fit (by omega)
    have f9 := s9.fit (by omega)
    have f0 := s0.fit (by omega)
    have hB2 := cvS_sz (i := i + 1) sx
    obtain ⟨_, _, s92, s02⟩ := hB2.sz (by decide)
    have f92 := s92.fit (by omega)
    have f02 := s02.fit (by omega)
    have hstp := cvS_step he
    have fc9 := (s92.div s02).fit (by omega)
    refine cp_region ?_
    refine stepK_d rfl rfl rfl hst (does_indexAddr (j := i) rfl zf142 zf31 rfl rfl (by omega) (by omega)) ?_
    refine stepK_d rfl rfl rfl hst (does_load_gN rfl (by kernel_rfl) zf31 rfl rfl hcc) ?_
    refine stepK_alloc rfl rfl rfl rfl zf29 rfl hst ?_
    clear hst
    intro b12 w18 hst
    replace hst := hst.tailin [_, _, _, _, _]
    simp only [List.cons_append, List.nil_append] at hst
    refine stepK_store 5 rfl rfl rfl rfl rfl rfl zf31 rfl rfl hst rfl (by first | (simp [uN_length]; omega) | simp) ?_
    clear hst
    intro w19 hst
    simp only [zL, splice, Nat.reduceAdd] at hst
    refine znq ?_
    refine cp_drawn (by kernel_rfl) 6 [(0, true), (1, true), (2, true), (4, true), (3, false), (5, false)] _ rfl (by kernel_rfl) (by kernel_rfl) (by kernel_rfl) (fun _ _ _ _ _ h => h) _ (hst.drew) ?_
    have hst0 := hst.drew
    clear hst
    have hst := hst0
    refine stepD_d rfl rfl rfl rfl (does_load_ownN 3 rfl (by kernel_rfl) zf31 rfl rfl rfl) ?_
    refine stepD_d rfl rfl rfl rfl (does_load_ownN 5 rfl (by kernel_rfl) zf31 rfl rfl rfl) ?_
    refine stepD_d rfl rfl rfl rfl (does_load_ownN 3 rfl (by kernel_rfl) zf31 rfl rfl rfl) ?_
    refine stepD_d rfl rfl rfl rfl (does_load_ownN 1 rfl (by kernel_rfl) zf31 rfl rfl rfl) ?_
    refine stepD_call rfl rfl rfl rfl rfl rfl hst (Rat_Mul hst.agree h12 h9 fe f9) (fun _ _ h hle => St.older h hle (by simp) hst0.ext hst0.le) ?_
    clear hst
    intro v20 g20 w20 hst hle20 hcs20 hp20
    have hlesum := hle20
    replace hT := hT.mono hle20
    replace hs := hs.mono hle20
    replace h7 := h7.mono hle20
    replace h8 := h8.mono hle20
    replace h9 := h9.mono hle20
    replace h0 := h0.mono hle20
    replace hls := hls.mono hle20
    replace h12 := h12.mono hle20
    obtain ⟨p34, q34, a34, rfl, h34⟩ := hp20
    refine stepD_call rfl rfl rfl rfl rfl rfl hst (Rat_Add hst.agree h34 h7 (se.mul s9 |>.fit (by omega)) f7) (fun _ _ h hle => St.older h (Mem.le.trans hlesum hle) (by simp) hst0.ext hst0.le) ?_
    clear hst
    intro v21 g21 w21 hst hle21 hcs21 hp21
    replace hlesum := Mem.le.trans hlesum hle21
    replace hT := hT.mono hle21
    replace hs := hs.mono hle21
    replace h7 := h7.mono hle21
    replace h8 := h8.mono hle21
    replace h9 := h9.mono hle21
    replace h0 := h0.mono hle21
    replace hls := hls.mono hle21
    replace h12 := h12.mono hle21
    replace h34 := h34.mono hle21
    obtain ⟨p36, q36, a36, rfl, h36⟩ := hp21
    refine stepD_tail ?_
    refine stepK_store 1 rfl rfl rfl rfl rfl rfl zf31 rfl rfl hst rfl (by first | (simp [uN_length]; omega) | simp) ?_
    clear hst
    intro w22 hst
    simp only [zL, splice, Nat.reduceAdd] at hst
    refine stepK_store 3 rfl rfl rfl rfl rfl rfl zf31 rfl rfl hst rfl (by first | (simp [uN_length]; omega) | simp) ?_
    clear hst
    intro w23 hst
    simp only [zL, splice, Nat.reduceAdd] at hst
    refine znq ?_
    refine cp_drawn (by kernel_rfl) 6 [(0, true), (1, true), (2, true), (4, true), (3, false), (5, false)] _ rfl (by kernel_rfl) (by kernel_rfl) (by kernel_rfl) (fun _ _ _ _ _ h => h) _ (hst.drew) ?_
    have hst0 := hst.drew
    clear hst
    have hst := hst0
    refine stepD_d rfl rfl rfl rfl (does_load_ownN 4 rfl (by kernel_rfl) zf31 rfl rfl rfl) ?_
    refine stepD_d rfl rfl rfl rfl (does_load_ownN 5 rfl (by kernel_rfl) zf31 rfl rfl rfl) ?_
    refine stepD_d rfl rfl rfl rfl (does_load_ownN 4 rfl (by kernel_rfl) zf31 rfl rfl rfl) ?_
    refine stepD_d rfl rfl rfl rfl (does_load_ownN 2 rfl (by kernel_rfl) zf31 rfl rfl rfl) ?_
    refine stepD_call rfl rfl rfl rfl rfl rfl hst (Rat_Mul hst.agree h12 h0 fe f0) (fun _ _ h hle => St.older h hle (by simp) hst0.ext hst0.le) ?_
    clear hst
    intro v24 g24 w24 hst hle24 hcs24 hp24
    have hlesum := hle24
    replace hT := hT.mono hle24
    replace hs := hs.mono hle24
    replace h7 := h7.mono hle24
    replace h8 := h8.mono hle24
    replace h9 := h9.mono hle24
    replace h0 := h0.mono hle24
    replace hls := hls.mono hle24
    replace h12 := h12.mono hle24
    replace h34 := h34.mono hle24
    replace h36 := h36.mono hle24
    obtain ⟨p40, q40, a40, rfl, h40⟩ := hp24
    refine stepD_call rfl rfl rfl rfl rfl rfl hst (Rat_Add hst.agree h40 h8 (se.mul s0 |>.fit (by omega)) f8) (fun _ _ h hle => St.older h (Mem.le.trans hlesum hle) (by simp) hst0.ext hst0.le) ?_
    clear hst
    intro v25 g25 w25 hst hle25 hcs25 hp25
    replace hlesum := Mem.le.trans hlesum hle25
    replace hT := hT.mono hle25
    replace hs := hs.mono hle25
    replace h7 := h7.mono hle25
    replace h8 := h8.mono hle25
    replace h9 := h9.mono hle25
    replace h0 := h0.mono hle25
    replace hls := hls.mono hle25
    replace h12 := h12.mono hle25
    replace h34 := h34.mono hle25
    replace h36 := h36.mono hle25
    replace h40 := h40.mono hle25
    obtain ⟨p42, q42, a42, rfl, h42⟩ := hp25
    refine stepD_tail ?_
    refine stepK_store 2 rfl rfl rfl rfl rfl rfl zf31 rfl rfl hst rfl (by first | (simp [uN_length]; omega) | simp) ?_
    clear hst
    intro w26 hst
    simp only [zL, splice, Nat.reduceAdd] at hst
    refine stepK_store 4 rfl rfl rfl rfl rfl rfl zf31 rfl rfl hst rfl (by first | (simp [uN_length]; omega) | simp) ?_
    clear hst
    intro w27 hst
    simp only [zL, splice, Nat.reduceAdd] at hst
    refine znt ?_
    rw [cv_castn, ← hstp] at h36
    rw [cv_castd, ← hstp] at h42
    refine cp_region ?_
    refine zM rfl hst rfl ?_
    refine stepK_d rfl rfl rfl hst (does_load_ownN 3 rfl (by kernel_rfl) zf31 rfl rfl rfl) ?_
    refine stepK_d rfl rfl rfl hst (does_load_ownN 4 rfl (by kernel_rfl) zf31 rfl rfl rfl) ?_
    refine stepK_call rfl rfl rfl rfl rfl hst (Rat_Quo hst.agree h36 h42 f92 f02) ?_
    clear hst
    intro v28 g28 w28 hst hle28 hcs28 hp28
    replace hT := hT.mono hle28
    replace hs := hs.mono hle28
    replace h7 := h7.mono hle28
    replace h8 := h8.mono hle28
    replace h9 := h9.mono hle28
    replace h0 := h0.mono hle28
    replace hls := hls.mono hle28
    replace h12 := h12.mono hle28
    replace h34 := h34.mono hle28
    replace h36 := h36.mono hle28
    replace h40 := h40.mono hle28
    replace h42 := h42.mono hle28
    obtain ⟨p46, q46, a46, rfl, h46⟩ := hp28
    refine stepK_buildSlice rfl rfl rfl rfl zf142 zf143 rfl rfl (by decide) (by decide) (by decide) rfl rfl hst ?_
    clear hst
    intro b13 w29 hst
    replace hst := hst.tailin [_, _, _, _, _, _]
    simp only [List.cons_append, List.nil_append] at hst
    refine stepK_append rfl rfl rfl rfl zf142 zf143 rfl (by decide) rfl rfl (hrt.row [_, _, _, _, _, _, _] hst) (news := [.int .i64 p46, .int .i64 q46, .pointer a46]) rfl (fun j u hj => by rw [addr_add, Nat.zero_add]; exact hst.cell_own 6 rfl (by simpa using hj)) (by simp [Value.oneCell']) (by omega) (by omega) ?_
    clear hst
    intro vr30 w30 hrow
    obtain ⟨T48, Ar48, cr48, rfl, hrt9, hst⟩ := hrow.tail
    clear hrow hrt
    have hrt := hrt9
    clear hrt9
    simp only [List.cons_append, List.nil_append] at hst
    refine zA rfl hst rfl ?_
    refine wpK_nil ?_
    refine at_block_normal ?_
    refine cp_then ?_
    refine cp_region ?_
    refine stepK_d rfl rfl rfl hst (Does.int (does_add rfl rfl rfl) (wrap_i64 (by omega) (by omega))) ?_
    refine zM rfl hst rfl ?_
    refine wpK_nil ?_
    refine round_end ((i + 1, (p9, q9, a9), (p0, q0, a0), (p36, q36, a36), (p42, q42, a42), Ar48, cr48, T48, xs ++ [.int .i64 p46, .int .i64 q46, .pointer a46])) ?_ ?_ ?_
    exact ⟨rfl, rfl, rfl, rfl, rfl, rfl, rfl, rfl, rfl, trivial⟩
    refine ⟨_, hst.weaken _ (by simp), hrt, ?_, hT, hs, by omega, ?_, ?_, h36, h42⟩
    rw [cvR_take (by omega)]; exact LsR.snoc rfl (RatC.mk h46) hls
    rw [hstp]; exact h9
    rw [hstp]; exact h0
    show (cf (getR a)).length - (i + 1) < (cf (getR a)).length - i
    omega
    intro c28
    refine cp_exit ?_
    refine at_then_exit ?_
    refine at_then_exit ?_
    refine cp_exit_here ?_
    refine cp_then ?_
    refine cp_seq ?_
    obtain rfl : i = (cf (getR a)).length := by omega
    obtain ⟨g8, A8, c8, e8, hc8, hst, hle8, hs8⟩ := hrt.publish RatC.mono [_, _, _, _, _] hst hls (by decide)
    injection e8 with e81 e82 e83
    subst e81 e83
    rw [List.take_of_length_le (by rw [cvR_length]; exact Nat.le_refl _)] at hs8
    replace hT := hT.mono hle8
    replace hs := hs.mono hle8
    replace h7 := h7.mono hle8
    replace h8 := h8.mono hle8
    replace h9 := h9.mono hle8
    replace h0 := h0.mono hle8
    replace hls := hls.mono hle8
    refine cp_region ?_
    refine zM rfl hst rfl ?_
    refine stepK_call rfl rfl rfl rfl rfl hst (num_Texts hst.agree hT hs8 (cvR_fit sx) (by omega)) ?_
    clear hst
    intro v31 g31 w31 hst hle31 hcs31 hp31
    replace hT := hT.mono hle31
    replace hs := hs.mono hle31
    replace h7 := h7.mono hle31
    replace h8 := h8.mono hle31
    replace h9 := h9.mono hle31
    replace h0 := h0.mono hle31
    replace hls := hls.mono hle31
    obtain ⟨A51, c51, rfl, h51⟩ := hp31
    refine zA rfl hst rfl ?_
    refine zA rfl hst rfl ?_
    refine znt ?_
    refine cp_ret ?_
    refine ret2 rfl rfl rfl hst ?_
    rw [if_pos hs1, if_pos hs1]
    exact ⟨_, _, _, rfl, h51, by omega⟩

end Go.Proofs.YtnbcedkpkcgmkaaGreatDoor
