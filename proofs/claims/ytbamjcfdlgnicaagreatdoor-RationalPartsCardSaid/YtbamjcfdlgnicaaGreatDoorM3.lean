/- The walks of functions, printed by a program of this session out of its specs. -/
import Derived.Test.YtbamjcfdlgnicaaGreatDoorPR
import Derived.Test.YtbamjcfdlgnicaaGreatDoorPV
import Derived.Test.YtbamjcfdlgnicaaGreatDoorPA
import Derived.Test.YtbamjcfdlgnicaaGreatDoorP8
import Derived.Test.YtbamjcfdlgnicaaGreatDoorP6
import Derived.Test.YtbamjcfdlgnicaaGreatDoorQ3
import Derived.Test.YtbamjcfdlgnicaaGreatDoorProg
import Derived.Test.YtbamjcfdlgnicaaGreatDoorP0
namespace Go.Proofs.YtbamjcfdlgnicaaGreatDoor
open Go Go.RowKit Go.Proofs.Vc
set_option linter.unusedVariables false
set_option linter.unusedSimpArgs false

set_option maxHeartbeats 4000000 in
theorem RationalParts_walk {g : Mem} {w : World} (hag : Agree g w) (hT : TabG Tryz.prog g) {a b : ByteArray} :
    CallTo Tryz.prog 13 #[.string a, .string b] w (Ret w g fun v g => v = .bool true) := by
  refine CallTo.enter (vs := [.string a, .string b]) zf176 (by kernel_rfl) rfl rfl rfl ?_
  have hst := St.init hag
  refine zsr ?_
  refine zA rfl hst rfl ?_
  refine znq ?_
  refine zsr ?_
  refine zM rfl hst rfl ?_
  refine zM rfl hst rfl ?_
  refine stepK_buildSlice rfl rfl rfl rfl zf168 zf177 rfl rfl (by decide) (by decide) (by decide) rfl rfl hst ?_
  clear hst
  intro bs w1 hst
  obtain ⟨hst, hleS⟩ := hst.publish 0 rfl
  replace hT := hT.mono hleS
  refine stepK_call rfl rfl rfl rfl rfl hst (keep_Short (ss := [a, b]) (n := 200) hst.agree (fun j s hj => by rw [gcell_put]; match j, hj with | 0, hj => simpa using hj | 1, hj => simpa using hj) (by simp)) ?_
  clear hst
  intro v2 g2 w2 hst hle2 hcs2 hp2
  replace hT := hT.mono hle2
  obtain rfl := hp2
  refine stepK_d rfl rfl rfl hst (does_not rfl rfl) ?_
  refine znt ?_
  refine cp_cond rfl ?_ ?_
  · intro c16
    refine zsr ?_
    refine stepK_call rfl rfl rfl rfl rfl hst (law01_awake hst.agree hT) ?_
    clear hst
    intro v3 g3 w3 hst hle3 hcs3 hp3
    replace hT := hT.mono hle3
    obtain rfl := hp3
    refine zA rfl hst rfl ?_
    refine zn5 ?_
    refine ret1 rfl rfl hst ?_
    first
    | rfl
    | simp_all
  · intro c16
    have hsh : ∀ s ∈ [a, b], s.size ≤ 200 := dec_of c16
    have ha : a.size ≤ 200 := hsh a (by simp)
    have hb : b.size ≤ 200 := hsh b (by simp)
    have sx := (getR_sz a).mono (m := 201) (by omega)
    have sy := (getR_sz b).mono (m := 201) (by omega)
    have fx := sx.fitH (by decide)
    have fy := sy.fitH (by decide)
    refine zk4 ?_
    refine zM rfl hst rfl ?_
    refine stepK_call rfl rfl rfl rfl rfl hst (snum_Num hst.agree (by omega)) ?_
    clear hst
    intro v4 g4 w4 hst hle4 hcs4 hp4
    replace hT := hT.mono hle4
    obtain ⟨na, A, n, c, nb, B, m, d, rfl, hx⟩ := hp4
    refine zM rfl hst rfl ?_
    refine stepK_call rfl rfl rfl rfl rfl hst (snum_Num hst.agree (by omega)) ?_
    clear hst
    intro v5 g5 w5 hst hle5 hcs5 hp5
    replace hT := hT.mono hle5
    replace hx := hx.mono hle5
    obtain ⟨na2, A2, n2, c2, nb2, B2, m2, d2, rfl, hy⟩ := hp5
    refine stepK_alloc rfl rfl rfl rfl zf121 rfl hst ?_
    clear hst
    intro bx w6 hst
    refine stepK_alloc rfl rfl rfl rfl zf121 rfl hst ?_
    clear hst
    intro by_ w7 hst
    refine stepK_store 0 rfl rfl rfl rfl rfl rfl zf119 rfl rfl hst rfl (by first | (simp [uN_length]; omega) | simp) ?_
    clear hst
    intro w8 hst
    simp only [zL, splice, Nat.reduceAdd] at hst
    refine stepK_store 1 rfl rfl rfl rfl rfl rfl zf119 rfl rfl hst rfl (by first | (simp [uN_length]; omega) | simp) ?_
    clear hst
    intro w9 hst
    simp only [zL, splice, Nat.reduceAdd] at hst
    refine zn4 ?_
    refine zM rfl hst rfl ?_
    refine stepK_call rfl rfl rfl rfl rfl hst (rational_Parts hst.agree hT (a := a) (by omega)) ?_
    clear hst
    intro v10 g10 w10 hst hle10 hcs10 hp10
    replace hT := hT.mono hle10
    replace hx := hx.mono hle10
    replace hy := hy.mono hle10
    obtain rfl := hp10
    refine zM rfl hst rfl ?_
    refine zE rfl hst rfl rfl ?_
    refine zE rfl hst rfl rfl ?_
    refine zA rfl hst rfl ?_
    refine zA rfl hst rfl ?_
    refine zn4 ?_
    refine zM rfl hst rfl ?_
    refine stepK_call rfl rfl rfl rfl rfl hst (sref_Parts hst.agree (a := a) (by omega)) ?_
    clear hst
    intro v11 g11 w11 hst hle11 hcs11 hp11
    replace hT := hT.mono hle11
    replace hx := hx.mono hle11
    replace hy := hy.mono hle11
    obtain rfl := hp11
    refine zM rfl hst rfl ?_
    refine zE rfl hst rfl rfl ?_
    refine zE rfl hst rfl rfl ?_
    refine zA rfl hst rfl ?_
    refine zA rfl hst rfl ?_
    refine zn4 ?_
    refine stepK_d rfl rfl rfl hst (does_load_ownN 0 rfl (by kernel_rfl) zf119 rfl rfl rfl) ?_
    refine stepK_alloc rfl rfl rfl rfl zf121 rfl hst ?_
    clear hst
    intro bz w12 hst
    refine stepK_store 2 rfl rfl rfl rfl rfl rfl zf119 rfl rfl hst rfl (by first | (simp [uN_length]; omega) | simp) ?_
    clear hst
    intro w13 hst
    simp only [zL, splice, Nat.reduceAdd] at hst
    refine znt ?_
    refine cp_join (ι := Bool × Option Addr × Nat × Nat × Bool × Option Addr × Nat × Nat) (fun (na3, A3, n3, c3, nb3, B3, m3, d3) => [(0, .string a), (1, .string b), (5, .pointer (some ⟨bx, 0, none⟩)), (6, .pointer (some ⟨by_, 0, none⟩)), (7, (.string (ratS ((getR a).num : Rat)))), (8, (.string (ratS (((getR a).den : Int) : Rat)))), (9, (.string (ratS ((getR a).num : Rat)))), (10, (.string (ratS (((getR a).den : Int) : Rat)))), (11, .pointer (some ⟨bz, 0, none⟩))]) (fun (na3, A3, n3, c3, nb3, B3, m3, d3) w2 => ∃ g2, St w [] g g2 [(bx, .cells #[.bool na, .slice A n c, .bool nb, .slice B m d] 30 (0, 0)), (by_, .cells #[.bool na2, .slice A2 n2 c2, .bool nb2, .slice B2 m2 d2] 30 (0, 0)), (bz, .cells #[.bool na3, .slice A3 n3 c3, .bool nb3, .slice B3 m3 d3] 30 (0, 0))] w2 ∧ TabG Tryz.prog g2 ∧ IsQ g2 na A n nb B m (getR a) ∧ IsQ g2 na2 A2 n2 nb2 B2 m2 (getR b) ∧ IsQ g2 na3 A3 n3 nb3 B3 m3 (absR (getR a))) ?c14 ?d14
    case c14 =>
      refine zsr ?_
      refine stepK_d rfl rfl rfl hst (does_load_ownN 0 rfl (by kernel_rfl) zf119 rfl rfl rfl) ?_
      refine stepK_call rfl rfl rfl rfl rfl hst (snum_RSign hst.agree hx) ?_
      clear hst
      intro v15 g15 w15 hst hle15 hcs15 hp15
      replace hT := hT.mono hle15
      replace hx := hx.mono hle15
      replace hy := hy.mono hle15
      obtain rfl := hp15
      refine stepK_d rfl rfl rfl hst (does_lss rfl rfl rfl) ?_
      refine znt ?_
      refine cp_if rfl ?_ ?_
      · intro c35
        refine cp_region ?_
        refine stepK_d rfl rfl rfl hst (does_load_ownN 0 rfl (by kernel_rfl) zf119 rfl rfl rfl) ?_
        refine stepK_call rfl rfl rfl rfl rfl hst (snum_RNeg hst.agree hx) ?_
        clear hst
        intro v16 g16 w16 hst hle16 hcs16 hp16
        replace hT := hT.mono hle16
        replace hx := hx.mono hle16
        replace hy := hy.mono hle16
        obtain ⟨na3, A3, n3, c3, nb3, B3, m3, d3, rfl, hz⟩ := hp16
        refine stepK_store 2 rfl rfl rfl rfl rfl rfl zf119 rfl rfl hst rfl (by first | (simp [uN_length]; omega) | simp) ?_
        clear hst
        intro w17 hst
        simp only [zL, splice, Nat.reduceAdd] at hst
        refine wpK_nil ?_
        refine join_end ((na3, A3, n3, c3, nb3, B3, m3, d3)) ?_ ?_
        · exact ⟨rfl, rfl, rfl, rfl, rfl, rfl, rfl, rfl, rfl, trivial⟩
        · exact ⟨_, hst, hT, hx, hy, hz.to (by unfold absR; rw [if_pos (Int.sign_neg_iff.1 c35)])⟩
      · intro c35
        refine cp_skip ?_
        refine join_end ((na, A, n, c, nb, B, m, d)) ?_ ?_
        · exact ⟨rfl, rfl, rfl, rfl, rfl, rfl, rfl, rfl, rfl, trivial⟩
        · exact ⟨_, hst, hT, hx, hy, hx.to (by unfold absR; rw [if_neg (fun h => c35 (Int.sign_neg_iff.2 h))])⟩
    case d14 =>
      clear hst
      clear hx hy hT
      rintro ⟨na3, A3, n3, c3, nb3, B3, m3, d3⟩ w2 ⟨g2, hst, hT, hx, hy, hz⟩
      simp only
      have sa := absR_sz sx
      refine cp_seq ?_
      refine cp_drawn (by kernel_rfl) 43 [(0, true), (1, true), (2, true), (3, true), (4, true), (5, true), (6, true), (7, true), (8, true), (9, true), (11, true), (10, false), (12, false), (13, true), (14, true), (15, true), (16, true), (17, true), (19, true), (20, true), (18, false), (21, false), (22, true), (23, true), (24, true), (25, true), (27, true), (26, false), (28, false), (29, false), (30, true), (31, true), (32, true), (33, true), (35, true), (34, false), (36, false), (37, true), (38, true), (39, true), (40, false), (41, true), (42, true)] _ rfl (by kernel_rfl) (by kernel_rfl) (by kernel_rfl) (fun _ _ _ _ _ h => h) _ (hst.drew) ?_
      have hst0 := hst.drew
      clear hst
      have hst := hst0
      refine stepD_d rfl rfl rfl rfl (does_move rfl rfl) ?_
      refine stepD_d rfl rfl rfl rfl (does_move rfl rfl) ?_
      refine stepD_d rfl rfl rfl rfl (Does.yes (does_eql_string rfl rfl rfl) rfl) ?_
      refine stepD_d rfl rfl rfl rfl (does_move rfl rfl) ?_
      refine stepD_guard rfl rfl rfl rfl rfl rfl rfl (does_move rfl rfl) ?_
      refine stepD_guard rfl rfl rfl rfl rfl rfl rfl (does_move rfl rfl) ?_
      refine stepD_guard rfl rfl rfl rfl rfl rfl rfl (Does.yes (does_eql_string rfl rfl rfl) rfl) ?_
      refine stepD_d rfl rfl rfl rfl (does_pick_true rfl rfl rfl) ?_
      refine stepD_d rfl rfl rfl rfl (does_move rfl rfl) ?_
      refine stepD_guard rfl rfl rfl rfl rfl rfl rfl (does_move rfl rfl) ?_
      refine stepD_guard rfl rfl rfl rfl rfl rfl rfl (does_load_ownN 0 rfl (by kernel_rfl) zf119 rfl rfl rfl) ?_
      refine stepD_call_guard rfl rfl rfl rfl rfl rfl rfl rfl rfl hst (rational_Sign hst.agree (a := a) (by omega)) (fun _ _ h hle => St.older h hle (by simp) hst0.ext hst0.le) ?_
      clear hst
      intro v18 g18 w18 hst hle18 hcs18 hp18
      have hlesum := hle18
      replace hT := hT.mono hle18
      replace hx := hx.mono hle18
      replace hy := hy.mono hle18
      replace hz := hz.mono hle18
      obtain rfl := hp18
      refine stepD_call_guard rfl rfl rfl rfl rfl rfl rfl rfl rfl hst (snum_RSign hst.agree hx) (fun _ _ h hle => St.older h (Mem.le.trans hlesum hle) (by simp) hst0.ext hst0.le) ?_
      clear hst
      intro v19 g19 w19 hst hle19 hcs19 hp19
      replace hlesum := Mem.le.trans hlesum hle19
      replace hT := hT.mono hle19
      replace hx := hx.mono hle19
      replace hy := hy.mono hle19
      replace hz := hz.mono hle19
      obtain rfl := hp19
      refine stepD_guard rfl rfl rfl rfl rfl rfl rfl (Does.yes (does_eql rfl rfl rfl) rfl) ?_
      refine stepD_d rfl rfl rfl rfl (does_pick_true rfl rfl rfl) ?_
      refine stepD_d rfl rfl rfl rfl (does_move rfl rfl) ?_
      refine stepD_guard rfl rfl rfl rfl rfl rfl rfl (does_move rfl rfl) ?_
      refine stepD_guard rfl rfl rfl rfl rfl rfl rfl (does_move rfl rfl) ?_
      refine stepD_guard rfl rfl rfl rfl rfl rfl rfl (does_load_ownN 0 rfl (by kernel_rfl) zf119 rfl rfl rfl) ?_
      refine stepD_guard rfl rfl rfl rfl rfl rfl rfl (does_load_ownN 1 rfl (by kernel_rfl) zf119 rfl rfl rfl) ?_
      refine stepD_call_guard rfl rfl rfl rfl rfl rfl rfl rfl rfl hst (rational_Compare hst.agree (a := a) (b := b) (by omega) (by omega)) (fun _ _ h hle => St.older h (Mem.le.trans hlesum hle) (by simp) hst0.ext hst0.le) ?_
      clear hst
      intro v20 g20 w20 hst hle20 hcs20 hp20
      replace hlesum := Mem.le.trans hlesum hle20
      replace hT := hT.mono hle20
      replace hx := hx.mono hle20
      replace hy := hy.mono hle20
      replace hz := hz.mono hle20
      obtain rfl := hp20
      refine stepD_call_guard rfl rfl rfl rfl rfl rfl rfl rfl rfl hst (snum_RCmp hst.agree hx hy fx fy) (fun _ _ h hle => St.older h (Mem.le.trans hlesum hle) (by simp) hst0.ext hst0.le) ?_
      clear hst
      intro v21 g21 w21 hst hle21 hcs21 hp21
      replace hlesum := Mem.le.trans hlesum hle21
      replace hT := hT.mono hle21
      replace hx := hx.mono hle21
      replace hy := hy.mono hle21
      replace hz := hz.mono hle21
      obtain rfl := hp21
      refine stepD_guard rfl rfl rfl rfl rfl rfl rfl (Does.yes (does_eql rfl rfl rfl) rfl) ?_
      refine stepD_d rfl rfl rfl rfl (does_pick_true rfl rfl rfl) ?_
      refine stepD_d rfl rfl rfl rfl (does_move rfl rfl) ?_
      refine stepD_guard rfl rfl rfl rfl rfl rfl rfl (does_move rfl rfl) ?_
      refine stepD_guard rfl rfl rfl rfl rfl rfl rfl (does_load_ownN 0 rfl (by kernel_rfl) zf119 rfl rfl rfl) ?_
      refine stepD_call_guard rfl rfl rfl rfl rfl rfl rfl rfl rfl hst (rational_Neg hst.agree hT (a := a) (by omega)) (fun _ _ h hle => St.older h (Mem.le.trans hlesum hle) (by simp) hst0.ext hst0.le) ?_
      clear hst
      intro v22 g22 w22 hst hle22 hcs22 hp22
      replace hlesum := Mem.le.trans hlesum hle22
      replace hT := hT.mono hle22
      replace hx := hx.mono hle22
      replace hy := hy.mono hle22
      replace hz := hz.mono hle22
      obtain rfl := hp22
      refine stepD_call_guard rfl rfl rfl rfl rfl rfl rfl rfl rfl hst (snum_RNeg hst.agree hx) (fun _ _ h hle => St.older h (Mem.le.trans hlesum hle) (by simp) hst0.ext hst0.le) ?_
      clear hst
      intro v23 g23 w23 hst hle23 hcs23 hp23
      replace hlesum := Mem.le.trans hlesum hle23
      replace hT := hT.mono hle23
      replace hx := hx.mono hle23
      replace hy := hy.mono hle23
      replace hz := hz.mono hle23
      obtain ⟨_, _, _, _, _, _, _, _, rfl, hq6⟩ := hp23
      refine stepD_call_guard rfl rfl rfl rfl rfl rfl rfl rfl rfl hst (snum_Text hst.agree hq6 fx.neg) (fun _ _ h hle => St.older h (Mem.le.trans hlesum hle) (by simp) hst0.ext hst0.le) ?_
      clear hst
      intro v24 g24 w24 hst hle24 hcs24 hp24
      replace hlesum := Mem.le.trans hlesum hle24
      replace hT := hT.mono hle24
      replace hx := hx.mono hle24
      replace hy := hy.mono hle24
      replace hz := hz.mono hle24
      replace hq6 := hq6.mono hle24
      obtain rfl := hp24
      refine stepD_guard rfl rfl rfl rfl rfl rfl rfl (Does.yes (does_eql_string rfl rfl rfl) rfl) ?_
      refine stepD_d rfl rfl rfl rfl (does_pick_true rfl rfl rfl) ?_
      refine stepD_d rfl rfl rfl rfl (does_move rfl rfl) ?_
      refine stepD_guard rfl rfl rfl rfl rfl rfl rfl (does_move rfl rfl) ?_
      refine stepD_guard rfl rfl rfl rfl rfl rfl rfl (does_load_ownN 2 rfl (by kernel_rfl) zf119 rfl rfl rfl) ?_
      refine stepD_call_guard rfl rfl rfl rfl rfl rfl rfl rfl rfl hst (rational_Abs hst.agree hT (a := a) (by omega)) (fun _ _ h hle => St.older h (Mem.le.trans hlesum hle) (by simp) hst0.ext hst0.le) ?_
      clear hst
      intro v25 g25 w25 hst hle25 hcs25 hp25
      replace hlesum := Mem.le.trans hlesum hle25
      replace hT := hT.mono hle25
      replace hx := hx.mono hle25
      replace hy := hy.mono hle25
      replace hz := hz.mono hle25
      replace hq6 := hq6.mono hle25
      obtain rfl := hp25
      refine stepD_call_guard rfl rfl rfl rfl rfl rfl rfl rfl rfl hst (snum_Text hst.agree hz (sa.fitH (by decide))) (fun _ _ h hle => St.older h (Mem.le.trans hlesum hle) (by simp) hst0.ext hst0.le) ?_
      clear hst
      intro v26 g26 w26 hst hle26 hcs26 hp26
      replace hlesum := Mem.le.trans hlesum hle26
      replace hT := hT.mono hle26
      replace hx := hx.mono hle26
      replace hy := hy.mono hle26
      replace hz := hz.mono hle26
      replace hq6 := hq6.mono hle26
      obtain rfl := hp26
      refine stepD_guard rfl rfl rfl rfl rfl rfl rfl (Does.yes (does_eql_string rfl rfl rfl) rfl) ?_
      refine stepD_d rfl rfl rfl rfl (does_pick_true rfl rfl rfl) ?_
      refine stepD_d rfl rfl rfl rfl (does_move rfl rfl) ?_
      refine stepD_call_guard rfl rfl rfl rfl rfl rfl rfl rfl rfl hst (law01_awake hst.agree hT) (fun _ _ h hle => St.older h (Mem.le.trans hlesum hle) (by simp) hst0.ext hst0.le) ?_
      clear hst
      intro v27 g27 w27 hst hle27 hcs27 hp27
      replace hlesum := Mem.le.trans hlesum hle27
      replace hT := hT.mono hle27
      replace hx := hx.mono hle27
      replace hy := hy.mono hle27
      replace hz := hz.mono hle27
      replace hq6 := hq6.mono hle27
      obtain rfl := hp27
      refine stepD_d rfl rfl rfl rfl (does_pick_true rfl rfl rfl) ?_
      refine stepD_d rfl rfl rfl rfl (does_assign rfl rfl) ?_
      refine stepD_tail ?_
      refine znt ?_
      refine cp_ret ?_
      refine ret1 rfl rfl hst ?_
      first
      | rfl
      | simp_all

end Go.Proofs.YtbamjcfdlgnicaaGreatDoor
