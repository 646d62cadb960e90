/- The walks of functions, printed by a program of this session out of its specs. -/
import Derived.Test.YtnbcedkpkcgmkaaGreatDoorBN
import Derived.Test.YtnbcedkpkcgmkaaGreatDoorDI
import Derived.Test.YtnbcedkpkcgmkaaGreatDoorCN
import Derived.Test.YtnbcedkpkcgmkaaGreatDoorFN
import Derived.Test.YtnbcedkpkcgmkaaGreatDoorFA
import Derived.Test.YtnbcedkpkcgmkaaGreatDoorQ3
import Derived.Test.YtnbcedkpkcgmkaaGreatDoorKX
import Derived.Test.YtnbcedkpkcgmkaaGreatDoorProg
import Derived.Test.YtnbcedkpkcgmkaaGreatDoorF0
namespace Go.Proofs.YtnbcedkpkcgmkaaGreatDoor
open Go Go.RowKit Go.Proofs.Vc
set_option linter.unusedVariables false
set_option linter.unusedSimpArgs false

set_option maxHeartbeats 8000000 in
theorem NearestOwn_walk {g : Mem} {w : World} (hag : Agree g w) (hT : TabG Tryz.prog g) {a b c d : Int} (z1 : -9223372036854775808 ≤ a) (z2 : a ≤ 9223372036854775807) (z3 : -9223372036854775808 ≤ b) (z4 : b ≤ 9223372036854775807) (z5 : -9223372036854775808 ≤ c) (z6 : c ≤ 9223372036854775807) (z7 : -9223372036854775808 ≤ d) (z8 : d ≤ 9223372036854775807) :
    CallTo Tryz.prog 7 #[.int .i64 a, .int .i64 b, .int .i64 c, .int .i64 d] w (Ret w g fun v g => v = .bool true) := by
  refine CallTo.enter (vs := [.int .i64 a, .int .i64 b, .int .i64 c, .int .i64 d]) zf164 (by kernel_rfl) rfl rfl rfl ?_
  have hst := St.init hag
  refine zsr ?_
  refine zA rfl hst rfl ?_
  refine znt ?_
  refine cp_join (ι := Int) (fun b2 => [(0, .int .i64 a), (1, .int .i64 b2), (2, .int .i64 c), (3, .int .i64 d)]) (fun b2 w2 => ∃ g2, St w [] g g2 [] w2 ∧ TabG Tryz.prog g2 ∧ b2 ≠ 0 ∧ -9223372036854775808 ≤ b2 ∧ b2 ≤ 9223372036854775807) ?c1 ?d1
  case c1 =>
    refine zsr ?_
    refine zM rfl hst rfl ?_
    refine stepK_d rfl rfl rfl hst (does_eql rfl rfl rfl) ?_
    refine znt ?_
    refine cp_if rfl ?_ ?_
    intro c20
    refine cp_region ?_
    refine zA rfl hst rfl ?_
    refine wpK_nil ?_
    refine join_end (1) ?_ ?_
    exact ⟨rfl, rfl, rfl, rfl, trivial⟩
    exact ⟨_, hst, hT, by decide, by decide, by decide⟩
    intro c20
    refine cp_skip ?_
    refine join_end (b) ?_ ?_
    exact ⟨rfl, rfl, rfl, rfl, trivial⟩
    exact ⟨_, hst, hT, c20, z3, z4⟩
  case d1 =>
    clear hst
    clear hT
    rintro b2 w2 ⟨g2, hst, hT, hd0, z9, z10⟩
    refine zsr ?_
    refine zM rfl hst rfl ?_
    refine stepK_call rfl rfl rfl rfl rfl hst (snum_FromInt hst.agree z1 z2) ?_
    clear hst
    intro v2 g2 w2 hst hle2 hcs2 hp2
    replace hT := hT.mono hle2
    obtain ⟨_, _, l15, _, rfl, hX⟩ := hp2
    have l15b := hX.len (k := 2) (by omega)
    refine zM rfl hst rfl ?_
    refine stepK_call rfl rfl rfl rfl rfl hst (snum_FromInt hst.agree z9 z10) ?_
    clear hst
    intro v3 g3 w3 hst hle3 hcs3 hp3
    replace hT := hT.mono hle3
    replace hX := hX.mono hle3
    obtain ⟨_, _, l17, _, rfl, hY⟩ := hp3
    have l17b := hY.len (k := 2) (by omega)
    refine stepK_call rfl rfl rfl rfl rfl hst (snum_Frac hst.agree hX hY hd0 (by omega) (by omega)) ?_
    clear hst
    intro v4 g4 w4 hst hle4 hcs4 hp4
    replace hT := hT.mono hle4
    replace hX := hX.mono hle4
    replace hY := hY.mono hle4
    obtain ⟨na9, A9, n9, c9, nb9, B9, m9, d9, rfl, h9⟩ := hp4
    have sq := frac_szI z1 z2 z9 z10 hd0
    obtain ⟨q, hqe⟩ : ∃ q, q = Rat.divInt a b2 := ⟨_, rfl⟩
    rw [← hqe] at h9 sq
    have fq := sq.fitH (by decide)
    have zq := ratS_size sq
    refine stepK_alloc rfl rfl rfl rfl zf107 rfl hst ?_
    clear hst
    intro b9 w5 hst
    refine stepK_store 0 rfl rfl rfl rfl rfl rfl zf105 rfl rfl hst rfl (by first | (simp [uN_length]; omega) | simp) ?_
    clear hst
    intro w6 hst
    simp only [zL, splice, Nat.reduceAdd] at hst
    refine zn4 ?_
    refine stepK_d rfl rfl rfl hst (does_load_ownN 0 rfl (by kernel_rfl) zf105 rfl rfl rfl) ?_
    refine stepK_call rfl rfl rfl rfl rfl hst (snum_Text hst.agree h9 fq) ?_
    clear hst
    intro v7 g7 w7 hst hle7 hcs7 hp7
    replace hT := hT.mono hle7
    replace hX := hX.mono hle7
    replace hY := hY.mono hle7
    replace h9 := h9.mono hle7
    obtain rfl := hp7
    refine zA rfl hst rfl ?_
    refine zn4 ?_
    refine zM rfl hst rfl ?_
    refine zM rfl hst rfl ?_
    refine stepK_call rfl rfl rfl rfl rfl hst (nearest_Simplest hst.agree hT (a := ratS q) (b := ratS q) (by omega) (by omega)) ?_
    clear hst
    intro v8 g8 w8 hst hle8 hcs8 hp8
    replace hT := hT.mono hle8
    replace hX := hX.mono hle8
    replace hY := hY.mono hle8
    replace h9 := h9.mono hle8
    obtain rfl := hp8
    rw [readR_text, getR_text, if_pos ⟨rfl, rfl, Rat.le_refl⟩, if_pos ⟨rfl, rfl⟩, if_pos Rat.le_refl, simpZ_self]
    refine zM rfl hst rfl ?_
    refine zE rfl hst rfl rfl ?_
    refine zE rfl hst rfl rfl ?_
    refine zA rfl hst rfl ?_
    refine zA rfl hst rfl ?_
    refine zn4 ?_
    refine zM rfl hst rfl ?_
    refine stepK_d rfl rfl rfl hst (does_load_ownN 0 rfl (by kernel_rfl) zf105 rfl rfl rfl) ?_
    refine stepK_call rfl rfl rfl rfl rfl hst (snum_Den hst.agree h9) ?_
    clear hst
    intro v9 g9 w9 hst hle9 hcs9 hp9
    replace hT := hT.mono hle9
    replace hX := hX.mono hle9
    replace hY := hY.mono hle9
    replace h9 := h9.mono hle9
    obtain ⟨_, _, l37, _, rfl, h37⟩ := hp9
    have sdn := sq.denI
    have zdn := ratS_size sdn
    refine stepK_d rfl rfl rfl hst (does_build rfl zf108 rfl rfl) ?_
    refine stepK_call rfl rfl rfl rfl rfl hst (snum_Text hst.agree (IsQ.int h37) (sdn.fitH (by decide))) ?_
    clear hst
    intro v10 g10 w10 hst hle10 hcs10 hp10
    replace hT := hT.mono hle10
    replace hX := hX.mono hle10
    replace hY := hY.mono hle10
    replace h9 := h9.mono hle10
    replace h37 := h37.mono hle10
    obtain rfl := hp10
    refine stepK_call rfl rfl rfl rfl rfl hst (nearest_Best hst.agree hT (a := ratS q) (b := ratS ((q.den : Int) : Rat)) (by omega) (by omega)) ?_
    clear hst
    intro v11 g11 w11 hst hle11 hcs11 hp11
    replace hT := hT.mono hle11
    replace hX := hX.mono hle11
    replace hY := hY.mono hle11
    replace h9 := h9.mono hle11
    replace h37 := h37.mono hle11
    obtain ⟨s1, e1, rfl, hB1⟩ := hp11
    obtain ⟨rfl, rA, hzA, rfl⟩ := hB1.2.2 ⟨by rw [readR_text]; rfl, by rw [readR_text]; rfl⟩ q.den (Nat.pos_of_ne_zero q.den_nz) (getR_text _)
    rw [getR_text] at hzA
    rw [BestIs.unique hzA (BestIs.own (Nat.le_refl _))]
    refine zM rfl hst rfl ?_
    refine zE rfl hst rfl rfl ?_
    refine zE rfl hst rfl rfl ?_
    refine zA rfl hst rfl ?_
    refine zA rfl hst rfl ?_
    refine znq ?_
    obtain ⟨K1, hK1, hK2, hK, hK3, hK4, hK5, hK6⟩ := smallK c 1000 (by decide)
    obtain ⟨K7, hM1, hM2, hM, hM3, hM4, hM5, hM6⟩ := smallK d 1000 (by decide)
    refine cp_region ?_
    refine zM rfl hst rfl ?_
    refine stepK_d rfl rfl rfl hst (does_rem rfl rfl rfl (by decide)) ?_
    refine stepK_d rfl rfl rfl hst (Does.int (does_add rfl rfl rfl) (wrap_i64 (by omega) (by omega))) ?_
    refine stepK_d rfl rfl rfl hst (does_rem rfl rfl rfl (by decide)) ?_
    refine stepK_d rfl rfl rfl hst (Does.nat (b := K1) (Does.int (does_add rfl rfl rfl) (wrap_i64 (by omega) (by omega))) hK) ?_
    refine zM rfl hst rfl ?_
    refine stepK_d rfl rfl rfl hst (does_rem rfl rfl rfl (by decide)) ?_
    refine stepK_d rfl rfl rfl hst (Does.int (does_add rfl rfl rfl) (wrap_i64 (by omega) (by omega))) ?_
    refine stepK_d rfl rfl rfl hst (does_rem rfl rfl rfl (by decide)) ?_
    refine stepK_d rfl rfl rfl hst (Does.nat (b := K7) (Does.int (does_add rfl rfl rfl) (wrap_i64 (by omega) (by omega))) hM) ?_
    refine zA rfl hst rfl ?_
    refine zA rfl hst rfl ?_
    refine zn4 ?_
    refine zM rfl hst rfl ?_
    refine zM rfl hst rfl ?_
    refine zM rfl hst rfl ?_
    refine stepK_d rfl rfl rfl hst (Does.nat (b := min K1 K7) (does_min rfl rfl rfl) (by split <;> omega)) ?_
    refine stepK_call rfl rfl rfl rfl rfl hst (snum_R hst.agree (x := (min K1 K7 : Nat)) (by omega) (by omega)) ?_
    clear hst
    intro v12 g12 w12 hst hle12 hcs12 hp12
    replace hT := hT.mono hle12
    replace hX := hX.mono hle12
    replace hY := hY.mono hle12
    replace h9 := h9.mono hle12
    replace h37 := h37.mono hle12
    obtain ⟨na58, A58, n58, c58, nb58, B58, m58, d58, rfl, h58⟩ := hp12
    have sK2 : Sz 4 ((((min K1 K7 : Nat) : Int)) : Rat) := intR_sz (by rw [Int.natAbs_natCast]; omega) (by decide)
    have zK2 := ratS_size sK2
    refine stepK_call rfl rfl rfl rfl rfl hst (snum_Text hst.agree h58 (sK2.fitH (by decide))) ?_
    clear hst
    intro v13 g13 w13 hst hle13 hcs13 hp13
    replace hT := hT.mono hle13
    replace hX := hX.mono hle13
    replace hY := hY.mono hle13
    replace h9 := h9.mono hle13
    replace h37 := h37.mono hle13
    replace h58 := h58.mono hle13
    obtain rfl := hp13
    refine stepK_call rfl rfl rfl rfl rfl hst (nearest_Best hst.agree hT (a := ratS q) (b := ratS (((min K1 K7 : Nat) : Int) : Rat)) (by omega) (by omega)) ?_
    clear hst
    intro v14 g14 w14 hst hle14 hcs14 hp14
    replace hT := hT.mono hle14
    replace hX := hX.mono hle14
    replace hY := hY.mono hle14
    replace h9 := h9.mono hle14
    replace h37 := h37.mono hle14
    replace h58 := h58.mono hle14
    obtain ⟨s2, e2, rfl, hB2⟩ := hp14
    obtain ⟨rfl, zu, hzu, rfl⟩ := hB2.2.2 ⟨by rw [readR_text]; rfl, by rw [readR_text]; rfl⟩ (min K1 K7) (by omega) (getR_text _)
    rw [getR_text] at hzu
    have szu := hzu.sz sq (by omega) (by omega)
    have zzu := ratS_size szu
    refine zM rfl hst rfl ?_
    refine zE rfl hst rfl rfl ?_
    refine zE rfl hst rfl rfl ?_
    refine zA rfl hst rfl ?_
    refine zA rfl hst rfl ?_
    refine zn4 ?_
    refine zM rfl hst rfl ?_
    refine zM rfl hst rfl ?_
    refine zM rfl hst rfl ?_
    refine stepK_d rfl rfl rfl hst (Does.nat (b := max K1 K7) (does_max rfl rfl rfl) (by split <;> omega)) ?_
    refine stepK_call rfl rfl rfl rfl rfl hst (snum_R hst.agree (x := (max K1 K7 : Nat)) (by omega) (by omega)) ?_
    clear hst
    intro v15 g15 w15 hst hle15 hcs15 hp15
    replace hT := hT.mono hle15
    replace hX := hX.mono hle15
    replace hY := hY.mono hle15
    replace h9 := h9.mono hle15
    replace h37 := h37.mono hle15
    replace h58 := h58.mono hle15
    obtain ⟨na68, A68, n68, c68, nb68, B68, m68, d68, rfl, h68⟩ := hp15
    have sK3 : Sz 4 ((((max K1 K7 : Nat) : Int)) : Rat) := intR_sz (by rw [Int.natAbs_natCast]; omega) (by decide)
    have zK3 := ratS_size sK3
    refine stepK_call rfl rfl rfl rfl rfl hst (snum_Text hst.agree h68 (sK3.fitH (by decide))) ?_
    clear hst
    intro v16 g16 w16 hst hle16 hcs16 hp16
    replace hT := hT.mono hle16
    replace hX := hX.mono hle16
    replace hY := hY.mono hle16
    replace h9 := h9.mono hle16
    replace h37 := h37.mono hle16
    replace h58 := h58.mono hle16
    replace h68 := h68.mono hle16
    obtain rfl := hp16
    refine stepK_call rfl rfl rfl rfl rfl hst (nearest_Best hst.agree hT (a := ratS q) (b := ratS (((max K1 K7 : Nat) : Int) : Rat)) (by omega) (by omega)) ?_
    clear hst
    intro v17 g17 w17 hst hle17 hcs17 hp17
    replace hT := hT.mono hle17
    replace hX := hX.mono hle17
    replace hY := hY.mono hle17
    replace h9 := h9.mono hle17
    replace h37 := h37.mono hle17
    replace h58 := h58.mono hle17
    replace h68 := h68.mono hle17
    obtain ⟨s3, e3, rfl, hB3⟩ := hp17
    obtain ⟨rfl, zv, hzv, rfl⟩ := hB3.2.2 ⟨by rw [readR_text]; rfl, by rw [readR_text]; rfl⟩ (max K1 K7) (by omega) (getR_text _)
    rw [getR_text] at hzv
    have szv := hzv.sz sq (by omega) (by omega)
    have zzv := ratS_size szv
    refine zM rfl hst rfl ?_
    refine zE rfl hst rfl rfl ?_
    refine zE rfl hst rfl rfl ?_
    refine zA rfl hst rfl ?_
    refine zA rfl hst rfl ?_
    refine znq ?_
    refine cp_drawn (by kernel_rfl) 40 [(0, false), (1, true), (2, true), (3, true), (4, true), (5, true), (6, true), (7, true), (8, true), (9, true), (10, true), (11, true), (12, true), (13, true), (14, true), (15, true), (16, true), (17, true), (18, true), (19, true), (20, true), (21, true), (22, true), (23, true), (24, true), (25, true), (26, true), (27, true), (28, true), (30, true), (32, true), (34, true), (29, false), (31, false), (33, false), (35, false), (36, false), (37, true), (38, true), (39, true)] _ rfl (by kernel_rfl) (by kernel_rfl) (by kernel_rfl) (fun _ _ _ _ _ h => h) _ (hst.drew) ?_
    have hst0 := hst.drew
    clear hst
    have hst := hst0
    refine stepD_call rfl rfl rfl rfl rfl rfl hst (law28_known hst.agree hT) (fun _ _ h hle => St.older h hle (by simp) hst0.ext hst0.le) ?_
    clear hst
    intro v18 g18 w18 hst hle18 hcs18 hp18
    have hlesum := hle18
    replace hT := hT.mono hle18
    replace hX := hX.mono hle18
    replace hY := hY.mono hle18
    replace h9 := h9.mono hle18
    replace h37 := h37.mono hle18
    replace h58 := h58.mono hle18
    replace h68 := h68.mono hle18
    obtain rfl := hp18
    refine stepD_d rfl rfl rfl rfl (does_move rfl rfl) ?_
    refine stepD_guard rfl rfl rfl rfl rfl rfl rfl (does_move rfl rfl) ?_
    refine stepD_guard rfl rfl rfl rfl rfl rfl rfl (Does.yes (does_eql rfl rfl rfl) rfl) ?_
    refine stepD_d rfl rfl rfl rfl (does_pick_true rfl rfl rfl) ?_
    refine stepD_d rfl rfl rfl rfl (does_move rfl rfl) ?_
    refine stepD_guard rfl rfl rfl rfl rfl rfl rfl (does_move rfl rfl) ?_
    refine stepD_guard rfl rfl rfl rfl rfl rfl rfl (Does.yes (does_eql rfl rfl rfl) rfl) ?_
    refine stepD_d rfl rfl rfl rfl (does_pick_true rfl rfl rfl) ?_
    refine stepD_d rfl rfl rfl rfl (does_move rfl rfl) ?_
    refine stepD_guard rfl rfl rfl rfl rfl rfl rfl (does_move rfl rfl) ?_
    refine stepD_guard rfl rfl rfl rfl rfl rfl rfl (Does.yes (does_eql rfl rfl rfl) rfl) ?_
    refine stepD_d rfl rfl rfl rfl (does_pick_true rfl rfl rfl) ?_
    refine stepD_d rfl rfl rfl rfl (does_move rfl rfl) ?_
    refine stepD_guard rfl rfl rfl rfl rfl rfl rfl (does_move rfl rfl) ?_
    refine stepD_guard rfl rfl rfl rfl rfl rfl rfl (Does.yes (does_eql rfl rfl rfl) rfl) ?_
    refine stepD_d rfl rfl rfl rfl (does_pick_true rfl rfl rfl) ?_
    refine stepD_d rfl rfl rfl rfl (does_move rfl rfl) ?_
    refine stepD_guard rfl rfl rfl rfl rfl rfl rfl (does_move rfl rfl) ?_
    refine stepD_guard rfl rfl rfl rfl rfl rfl rfl (does_move rfl rfl) ?_
    refine stepD_guard rfl rfl rfl rfl rfl rfl rfl (Does.yes (does_eql_string rfl rfl rfl) rfl) ?_
    refine stepD_d rfl rfl rfl rfl (does_pick_true rfl rfl rfl) ?_
    refine stepD_d rfl rfl rfl rfl (does_move rfl rfl) ?_
    refine stepD_guard rfl rfl rfl rfl rfl rfl rfl (does_move rfl rfl) ?_
    refine stepD_guard rfl rfl rfl rfl rfl rfl rfl (does_move rfl rfl) ?_
    refine stepD_guard rfl rfl rfl rfl rfl rfl rfl (Does.yes (does_eql_string rfl rfl rfl) rfl) ?_
    refine stepD_d rfl rfl rfl rfl (does_pick_true rfl rfl rfl) ?_
    refine stepD_d rfl rfl rfl rfl (does_move rfl rfl) ?_
    refine stepD_guard rfl rfl rfl rfl rfl rfl rfl (does_move rfl rfl) ?_
    refine stepD_guard rfl rfl rfl rfl rfl rfl rfl (does_load_ownN 0 rfl (by kernel_rfl) zf105 rfl rfl rfl) ?_
    refine stepD_guard rfl rfl rfl rfl rfl rfl rfl (does_move rfl rfl) ?_
    refine stepD_guard rfl rfl rfl rfl rfl rfl rfl (does_load_ownN 0 rfl (by kernel_rfl) zf105 rfl rfl rfl) ?_
    refine stepD_call_guard rfl rfl rfl rfl rfl rfl rfl rfl rfl hst (snum_Num hst.agree (s := ratS zv) (by omega)) (fun _ _ h hle => St.older h (Mem.le.trans hlesum hle) (by simp) hst0.ext hst0.le) ?_
    clear hst
    intro v19 g19 w19 hst hle19 hcs19 hp19
    replace hlesum := Mem.le.trans hlesum hle19
    replace hT := hT.mono hle19
    replace hX := hX.mono hle19
    replace hY := hY.mono hle19
    replace h9 := h9.mono hle19
    replace h37 := h37.mono hle19
    replace h58 := h58.mono hle19
    replace h68 := h68.mono hle19
    obtain ⟨na4, A4, n4, c4, nb4, B4, m4, d4, rfl, h4⟩ := hp19
    rw [getR_text] at h4
    refine stepD_call_guard rfl rfl rfl rfl rfl rfl rfl rfl rfl hst (law28_distance hst.agree h4 h9 (szv.fitH (by decide)) fq ((szv.sub sq).fitH (by decide))) (fun _ _ h hle => St.older h (Mem.le.trans hlesum hle) (by simp) hst0.ext hst0.le) ?_
    clear hst
    intro v20 g20 w20 hst hle20 hcs20 hp20
    replace hlesum := Mem.le.trans hlesum hle20
    replace hT := hT.mono hle20
    replace hX := hX.mono hle20
    replace hY := hY.mono hle20
    replace h9 := h9.mono hle20
    replace h37 := h37.mono hle20
    replace h58 := h58.mono hle20
    replace h68 := h68.mono hle20
    replace h4 := h4.mono hle20
    obtain ⟨na5, A5, n5, c5, nb5, B5, m5, d5, rfl, h5⟩ := hp20
    refine stepD_call_guard rfl rfl rfl rfl rfl rfl rfl rfl rfl hst (snum_Num hst.agree (s := ratS zu) (by omega)) (fun _ _ h hle => St.older h (Mem.le.trans hlesum hle) (by simp) hst0.ext hst0.le) ?_
    clear hst
    intro v21 g21 w21 hst hle21 hcs21 hp21
    replace hlesum := Mem.le.trans hlesum hle21
    replace hT := hT.mono hle21
    replace hX := hX.mono hle21
    replace hY := hY.mono hle21
    replace h9 := h9.mono hle21
    replace h37 := h37.mono hle21
    replace h58 := h58.mono hle21
    replace h68 := h68.mono hle21
    replace h4 := h4.mono hle21
    replace h5 := h5.mono hle21
    obtain ⟨na6, A6, n6, c6, nb6, B6, m6, d6, rfl, h6⟩ := hp21
    rw [getR_text] at h6
    refine stepD_call_guard rfl rfl rfl rfl rfl rfl rfl rfl rfl hst (law28_distance hst.agree h6 h9 (szu.fitH (by decide)) fq ((szu.sub sq).fitH (by decide))) (fun _ _ h hle => St.older h (Mem.le.trans hlesum hle) (by simp) hst0.ext hst0.le) ?_
    clear hst
    intro v22 g22 w22 hst hle22 hcs22 hp22
    replace hlesum := Mem.le.trans hlesum hle22
    replace hT := hT.mono hle22
    replace hX := hX.mono hle22
    replace hY := hY.mono hle22
    replace h9 := h9.mono hle22
    replace h37 := h37.mono hle22
    replace h58 := h58.mono hle22
    replace h68 := h68.mono hle22
    replace h4 := h4.mono hle22
    replace h5 := h5.mono hle22
    replace h6 := h6.mono hle22
    obtain ⟨na7, A7, n7, c7, nb7, B7, m7, d7, rfl, h7⟩ := hp22
    refine stepD_call_guard rfl rfl rfl rfl rfl rfl rfl rfl rfl hst (snum_RCmp hst.agree h5 h7 ((absR_sz (szv.sub sq)).fitH (by decide)) ((absR_sz (szu.sub sq)).fitH (by decide))) (fun _ _ h hle => St.older h (Mem.le.trans hlesum hle) (by simp) hst0.ext hst0.le) ?_
    clear hst
    intro v23 g23 w23 hst hle23 hcs23 hp23
    replace hlesum := Mem.le.trans hlesum hle23
    replace hT := hT.mono hle23
    replace hX := hX.mono hle23
    replace hY := hY.mono hle23
    replace h9 := h9.mono hle23
    replace h37 := h37.mono hle23
    replace h58 := h58.mono hle23
    replace h68 := h68.mono hle23
    replace h4 := h4.mono hle23
    replace h5 := h5.mono hle23
    replace h6 := h6.mono hle23
    replace h7 := h7.mono hle23
    obtain rfl := hp23
    refine stepD_guard rfl rfl rfl rfl rfl rfl rfl (Does.yes (does_leq rfl rfl rfl) (sgn_le.2 (BestIs.mono hzv hzu (by omega)))) ?_
    refine stepD_d rfl rfl rfl rfl (does_pick_true rfl rfl rfl) ?_
    refine stepD_d rfl rfl rfl rfl (does_assign rfl rfl) ?_
    refine stepD_tail ?_
    refine znt ?_
    refine cp_ret ?_
    refine ret1 rfl rfl hst ?_
    first
    | rfl
    | contradiction
    | simp_all

end Go.Proofs.YtnbcedkpkcgmkaaGreatDoor
