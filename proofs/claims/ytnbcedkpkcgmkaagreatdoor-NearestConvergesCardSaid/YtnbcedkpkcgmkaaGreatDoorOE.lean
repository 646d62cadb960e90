/- The walks of functions, printed by a program of this session out of its specs. -/
import Derived.Test.YtnbcedkpkcgmkaaGreatDoorHC
import Derived.Test.YtnbcedkpkcgmkaaGreatDoorDI
import Derived.Test.YtnbcedkpkcgmkaaGreatDoorCK
import Derived.Test.YtnbcedkpkcgmkaaGreatDoorFN
import Derived.Test.YtnbcedkpkcgmkaaGreatDoorFA
import Derived.Test.YtnbcedkpkcgmkaaGreatDoorQ3
import Derived.Test.YtnbcedkpkcgmkaaGreatDoorXX
import Derived.Test.YtnbcedkpkcgmkaaGreatDoorXN
import Derived.Test.YtnbcedkpkcgmkaaGreatDoorProg
import Derived.Test.YtnbcedkpkcgmkaaGreatDoorF0
namespace Go.Proofs.YtnbcedkpkcgmkaaGreatDoor
open Go Go.RowKit Go.Proofs.Vc
set_option linter.unusedVariables false
set_option linter.unusedSimpArgs false

set_option maxHeartbeats 8000000 in
theorem NearestConverges_walk {g : Mem} {w : World} (hag : Agree g w) (hT : TabG Tryz.prog g) {a b : Int} (z1 : -9223372036854775808 ≤ a) (z2 : a ≤ 9223372036854775807) (z3 : -9223372036854775808 ≤ b) (z4 : b ≤ 9223372036854775807) :
    CallTo Tryz.prog 4 #[.int .i64 a, .int .i64 b] w (Ret w g fun v g => v = .bool true) := by
  refine CallTo.enter (vs := [.int .i64 a, .int .i64 b]) zf162 (by kernel_rfl) rfl rfl rfl ?_
  have hst := St.init hag
  refine zsr ?_
  refine zA rfl hst rfl ?_
  refine znt ?_
  refine cp_join (ι := Int) (fun b2 => [(0, .int .i64 a), (1, .int .i64 b2)]) (fun b2 w2 => ∃ g2, St w [] g g2 [] w2 ∧ TabG Tryz.prog g2 ∧ b2 ≠ 0 ∧ -9223372036854775808 ≤ b2 ∧ b2 ≤ 9223372036854775807) ?c1 ?d1
  case c1 =>
    refine zsr ?_
    refine zM rfl hst rfl ?_
    refine stepK_d rfl rfl rfl hst (does_eql rfl rfl rfl) ?_
    refine znt ?_
    refine cp_if rfl ?_ ?_
    intro c13
    refine cp_region ?_
    refine zA rfl hst rfl ?_
    refine wpK_nil ?_
    refine join_end (1) ?_ ?_
    exact ⟨rfl, rfl, trivial⟩
    exact ⟨_, hst, hT, by decide, by decide, by decide⟩
    intro c13
    refine cp_skip ?_
    refine join_end (b) ?_ ?_
    exact ⟨rfl, rfl, trivial⟩
    exact ⟨_, hst, hT, c13, z3, z4⟩
  case d1 =>
    clear hst
    clear hT
    rintro b2 w2 ⟨g2, hst, hT, hd0, z5, z6⟩
    refine zsr ?_
    refine zM rfl hst rfl ?_
    refine stepK_call rfl rfl rfl rfl rfl hst (snum_FromInt hst.agree z1 z2) ?_
    clear hst
    intro v2 g2 w2 hst hle2 hcs2 hp2
    replace hT := hT.mono hle2
    obtain ⟨_, _, l15, _, rfl, hX⟩ := hp2
    have l15b := hX.len (k := 2) (by omega)
    refine zM rfl hst rfl ?_
    refine stepK_call rfl rfl rfl rfl rfl hst (snum_FromInt hst.agree z5 z6) ?_
    clear hst
    intro v3 g3 w3 hst hle3 hcs3 hp3
    replace hT := hT.mono hle3
    replace hX := hX.mono hle3
    obtain ⟨_, _, l17, _, rfl, hY⟩ := hp3
    have l17b := hY.len (k := 2) (by omega)
    refine stepK_call rfl rfl rfl rfl rfl hst (snum_Frac hst.agree hX hY hd0 (by omega) (by omega)) ?_
    clear hst
    intro v4 g4 w4 hst hle4 hcs4 hp4
    replace hT := hT.mono hle4
    replace hX := hX.mono hle4
    replace hY := hY.mono hle4
    obtain ⟨na5, A5, n5, c5, nb5, B5, m5, d5, rfl, h5⟩ := hp4
    have sq := frac_szI z1 z2 z5 z6 hd0
    obtain ⟨q, hqe⟩ : ∃ q, q = Rat.divInt a b2 := ⟨_, rfl⟩
    rw [← hqe] at h5 sq
    have fq := sq.fitH (by decide)
    have zq := ratS_size sq
    refine stepK_alloc rfl rfl rfl rfl zf107 rfl hst ?_
    clear hst
    intro b5 w5 hst
    refine stepK_store 0 rfl rfl rfl rfl rfl rfl zf105 rfl rfl hst rfl (by first | (simp [uN_length]; omega) | simp) ?_
    clear hst
    intro w6 hst
    simp only [zL, splice, Nat.reduceAdd] at hst
    refine zn4 ?_
    refine stepK_d rfl rfl rfl hst (does_load_ownN 0 rfl (by kernel_rfl) zf105 rfl rfl rfl) ?_
    refine stepK_call rfl rfl rfl rfl rfl hst (snum_Text hst.agree h5 fq) ?_
    clear hst
    intro v7 g7 w7 hst hle7 hcs7 hp7
    replace hT := hT.mono hle7
    replace hX := hX.mono hle7
    replace hY := hY.mono hle7
    replace h5 := h5.mono hle7
    obtain rfl := hp7
    refine stepK_call rfl rfl rfl rfl rfl hst (nearest_Convergents hst.agree hT (a := ratS q) (by omega)) ?_
    clear hst
    intro v8 g8 w8 hst hle8 hcs8 hp8
    replace hT := hT.mono hle8
    replace hX := hX.mono hle8
    replace hY := hY.mono hle8
    replace h5 := h5.mono hle8
    obtain ⟨A22, n22, c22, rfl, hS, l22⟩ := hp8
    rw [readR_text, if_pos (show (some q).isSome = true from rfl), getR_text] at hS
    rw [readR_text, if_pos (show (some q).isSome = true from rfl)]
    have hn22 : n22 = (cf q).length := by have := hS.1; rw [List.length_map, cvR_length] at this; exact this.symm
    have hpos := List.length_pos_iff.2 (cf_ne q)
    refine zM rfl hst rfl ?_
    refine zE rfl hst rfl rfl ?_
    refine zE rfl hst rfl rfl ?_
    refine zA rfl hst rfl ?_
    refine zA rfl hst rfl ?_
    refine znq ?_
    refine cp_seq ?_
    obtain ⟨b1, o1, s1, e1, hs1, hc1⟩ := hS.cell (j := n22 - 1) (by omega)
    subst e1
    obtain rfl := cvT_last hs1 hn22
    refine cp_drawn (by kernel_rfl) 18 [(0, true), (1, true), (2, true), (3, true), (4, true), (5, true), (6, true), (7, true), (8, true), (9, true), (10, true), (11, true), (12, true), (13, true), (14, true), (15, false), (16, true), (17, true)] _ rfl (by kernel_rfl) (by kernel_rfl) (by kernel_rfl) (fun _ _ _ _ _ h => h) _ (hst.drew) ?_
    have hst0 := hst.drew
    clear hst
    have hst := hst0
    refine stepD_d rfl rfl rfl rfl (does_move rfl rfl) ?_
    refine stepD_d rfl rfl rfl rfl (Does.no (does_neq rfl rfl rfl) (fun h => h rfl)) ?_
    refine stepD_d rfl rfl rfl rfl (does_move rfl rfl) ?_
    refine stepD_guard rfl rfl rfl rfl rfl rfl rfl (does_move rfl rfl) ?_
    refine stepD_guard rfl rfl rfl rfl rfl rfl rfl (does_len_slice rfl zf145 rfl) ?_
    refine stepD_guard rfl rfl rfl rfl rfl rfl rfl (Does.no (does_eql rfl rfl rfl) (by omega)) ?_
    refine stepD_d rfl rfl rfl rfl (does_pick_false rfl rfl rfl) ?_
    refine stepD_d rfl rfl rfl rfl (does_move rfl rfl) ?_
    refine stepD_guard rfl rfl rfl rfl rfl rfl rfl (does_move rfl rfl) ?_
    refine stepD_guard rfl rfl rfl rfl rfl rfl rfl (does_move rfl rfl) ?_
    refine stepD_guard rfl rfl rfl rfl rfl rfl rfl (does_len_slice rfl zf145 rfl) ?_
    refine stepD_guard rfl rfl rfl rfl rfl rfl rfl (Does.int (does_sub rfl rfl rfl) (wrap_i64 (by omega) (by omega))) ?_
    refine stepD_guard rfl rfl rfl rfl rfl rfl rfl (does_indexAddr1 (j := (n22 - 1)) rfl zf145 (by kernel_rfl) rfl rfl (by omega) (by omega)) ?_
    refine stepD_guard rfl rfl rfl rfl rfl rfl rfl (does_load_g1 rfl (by kernel_rfl) rfl hc1) ?_
    refine stepD_guard rfl rfl rfl rfl rfl rfl rfl (does_load_ownN 0 rfl (by kernel_rfl) zf105 rfl rfl rfl) ?_
    refine stepD_call_guard rfl rfl rfl rfl rfl rfl rfl rfl rfl hst (snum_Text hst.agree h5 fq) (fun _ _ h hle => St.older h hle (by simp) hst0.ext hst0.le) ?_
    clear hst
    intro v9 g9 w9 hst hle9 hcs9 hp9
    have hlesum := hle9
    replace hT := hT.mono hle9
    replace hX := hX.mono hle9
    replace hY := hY.mono hle9
    replace h5 := h5.mono hle9
    replace hS := hS.mono hle9
    obtain rfl := hp9
    refine stepD_guard rfl rfl rfl rfl rfl rfl rfl (Does.no (does_neq_string rfl rfl rfl) (fun h => h rfl)) ?_
    refine stepD_d rfl rfl rfl rfl (does_pick_false rfl rfl rfl) ?_
    refine stepD_tail ?_
    refine znt ?_
    refine cp_cond_false rfl ?_
    refine cp_skip ?_
    refine cp_then ?_
    refine cp_seq ?_
    refine zsr ?_
    refine zA rfl hst rfl ?_
    refine znt ?_
    refine cp_block ?_
    refine cp_loop (ι := Nat) (fun i => [(5, .pointer (some ⟨b5, 0, none⟩)), (6, .slice (some ⟨b1, o1, none⟩) n22 c22), (8, .int .i64 (i : Int))]) (fun i w1 => ∃ g1, St w [] g g1 [(b5, .cells #[.bool na5, .slice A5 n5 c5, .bool nb5, .slice B5 m5 d5] 30 (0, 0))] w1 ∧ TabG Tryz.prog g1 ∧ IsQ g1 na5 A5 n5 nb5 B5 m5 (q) ∧ StrS g1 (some ⟨b1, o1, none⟩) n22 ((cvR (cf q)).map ratS) ∧ 1 ≤ i ∧ i ≤ n22) (fun i => n22 - i) 1 ?k10 ?i10 ?r10
    case k10 => exact ⟨rfl, rfl, kint rfl, trivial⟩
    case i10 =>
      exact ⟨_, hst, hT, h5, hS, by decide, by omega⟩
    case r10 =>
      clear hst
      clear hT h5 hS hc1
      rintro i w1 ⟨g1, hst, hT, h5, hS, hi1, hi⟩
      refine cp_seq ?_
      refine zsr ?_
      refine zM rfl hst rfl ?_
      refine zM rfl hst rfl ?_
      refine stepK_d rfl rfl rfl hst (does_len_slice rfl zf145 rfl) ?_
      refine stepK_d rfl rfl rfl hst (does_lss rfl rfl rfl) ?_
      refine znt ?_
      refine cp_if rfl ?_ ?_
      intro c46
      refine cp_skip ?_
      refine cp_then ?_
      refine cp_seq ?_
      refine cp_block ?_
      refine cp_join (ι := (Bool × Option Addr × Nat × Nat × Bool × Option Addr × Nat × Nat) × (Bool × Option Addr × Nat × Nat × Bool × Option Addr × Nat × Nat) × Nat × Nat) (fun ((na9, A9, n9, c9, nb9, B9, m9, d9), (na0, A0, n0, c0, nb0, B0, m0, d0), b9, b0) => [(5, .pointer (some ⟨b5, 0, none⟩)), (6, .slice (some ⟨b1, o1, none⟩) n22 c22), (8, .int .i64 (i : Int)), (9, .pointer (some ⟨b9, 0, none⟩)), (10, .pointer (some ⟨b0, 0, none⟩))]) (fun ((na9, A9, n9, c9, nb9, B9, m9, d9), (na0, A0, n0, c0, nb0, B0, m0, d0), b9, b0) w3 => ∃ g2, St w [] g g2 [(b5, .cells #[.bool na5, .slice A5 n5 c5, .bool nb5, .slice B5 m5 d5] 30 (0, 0)), (b9, .cells #[.bool na9, .slice A9 n9 c9, .bool nb9, .slice B9 m9 d9] 30 (0, 0)), (b0, .cells #[.bool na0, .slice A0 n0 c0, .bool nb0, .slice B0 m0 d0] 30 (0, 0))] w3 ∧ TabG Tryz.prog g2 ∧ IsQ g2 na5 A5 n5 nb5 B5 m5 (q) ∧ StrS g2 (some ⟨b1, o1, none⟩) n22 ((cvR (cf q)).map ratS) ∧ IsQ g2 na9 A9 n9 nb9 B9 m9 (cvX (cf q) i) ∧ IsQ g2 na0 A0 n0 nb0 B0 m0 (cvX (cf q) (i + 1))) ?c11 ?d11
      case c11 =>
        obtain ⟨b3, o3, s3, e3, hs3, hc3⟩ := hS.cell (j := i - 1) (by omega)
        cases e3
        obtain rfl := cvT_get hs3 (by omega)
        obtain ⟨b4, o4, s4, e4, hs4, hc4⟩ := hS.cell (j := i) (by omega)
        cases e4
        obtain rfl := cvT_get hs4 (by omega)
        rw [show i - 1 + 1 = i by omega] at hc3
        have sa := cvX_sz (i := i) sq
        have sb := cvX_sz (i := i + 1) sq
        have fa := sa.fitH (by decide)
        have fb := sb.fitH (by decide)
        have za := ratS_size sa
        have zb := ratS_size sb
        refine cp_drawnT (by kernel_rfl) 13 (.d 0 (.d 1 (.d 2 (.d 3 (.d 4 (.d 6 (.d 7 (.d 8 (.d 9 (.e 5 (.e 10 (.e 11 (.e 12 .fin .no) (.e 12 (.e 11 .fin .no) .no)) (.e 11 (.e 10 (.e 12 .fin .no) (.e 12 (.e 10 .fin .no) .no)) (.e 12 (.e 10 (.e 11 .fin .no) (.e 11 (.e 10 .fin .no) .no)) .no))) (.e 11 (.e 5 (.e 10 (.e 12 .fin .no) (.e 12 (.e 10 .fin .no) .no)) (.e 12 (.e 5 (.e 10 .fin .no) .no) .no)) (.e 12 (.e 5 (.e 10 (.e 11 .fin .no) (.e 11 (.e 10 .fin .no) .no)) (.e 11 (.e 5 (.e 10 .fin .no) .no) .no)) .no)))))))))))) _ rfl (by kernel_rfl) (by kernel_rfl) (by kernel_rfl) (fun _ _ _ _ _ h => h) _ hst.drew ?_
        have hst0 := hst.drew
        have hst9 := hst.drew
        clear hst
        have hst := hst9
        clear hst9
        refine stepT_d rfl rfl rfl rfl (does_move rfl rfl) ?_
        refine stepT_d rfl rfl rfl rfl (does_move rfl rfl) ?_
        refine stepT_d rfl rfl rfl rfl (Does.int (does_sub rfl rfl rfl) (wrap_i64 (by omega) (by omega))) ?_
        refine stepT_d rfl rfl rfl rfl (does_indexAddr1 (j := (i - 1)) rfl zf145 (by kernel_rfl) rfl rfl (by omega) (by omega)) ?_
        refine stepT_d rfl rfl rfl rfl (does_load_g1 rfl (by kernel_rfl) rfl (gcell_le (by first | assumption | exact Mem.le.refl _) hc3)) ?_
        refine stepT_d rfl rfl rfl rfl (does_move rfl rfl) ?_
        refine stepT_d rfl rfl rfl rfl (does_move rfl rfl) ?_
        refine stepT_d rfl rfl rfl rfl (does_indexAddr1 (j := i) rfl zf145 (by kernel_rfl) rfl rfl (by omega) (by omega)) ?_
        refine stepT_d rfl rfl rfl rfl (does_load_g1 rfl (by kernel_rfl) rfl (gcell_le (by first | assumption | exact Mem.le.refl _) hc4)) ?_
        refine stepT_call rfl rfl rfl rfl rfl rfl hst0 hst (Mem.le.refl _) (by repeat (first | exact zR _ | apply zC | apply zD)) (snum_Num hst.agree (s := ratS (cvX (cf q) i)) (by omega)) ?_ ?_
        clear hst
        intro v12 g12 w12 hst hle12 hcs12 hp12
        have hlesum := hle12
        replace hT := hT.mono hle12
        replace h5 := h5.mono hle12
        replace hS := hS.mono hle12
        obtain ⟨na9, A9, n9, c9, nb9, B9, m9, d9, rfl, h9⟩ := hp12
        refine stepT_call rfl rfl rfl rfl rfl rfl hst0 hst hlesum (by repeat (first | exact zR _ | apply zC | apply zD)) (snum_Num hst.agree (s := ratS (cvX (cf q) (i + 1))) (by omega)) ?_ ?_
        clear hst
        intro v13 g13 w13 hst hle13 hcs13 hp13
        replace hlesum := Mem.le.trans hlesum hle13
        replace hT := hT.mono hle13
        replace h5 := h5.mono hle13
        replace hS := hS.mono hle13
        replace h9 := h9.mono hle13
        obtain ⟨na0, A0, n0, c0, nb0, B0, m0, d0, rfl, h0⟩ := hp13
        refine stepT_alloc rfl rfl rfl rfl rfl zf107 rfl hst0 hst hlesum (by repeat (first | exact zR _ | apply zC | apply zD)) ?_ ?_
        clear hst
        intro b9 w14 hst
        refine stepT_alloc rfl rfl rfl rfl rfl zf107 rfl hst0 hst hlesum (by repeat (first | exact zR _ | apply zC | apply zD)) ?_ ?_
        clear hst
        intro b0 w15 hst
        refine stepT_tail ?_
        refine stepK_store 1 rfl rfl rfl rfl rfl rfl zf105 rfl rfl hst rfl (by first | (simp [uN_length]; omega) | simp) ?_
        clear hst
        intro w16 hst
        simp only [zL, splice, Nat.reduceAdd] at hst
        refine stepK_store 2 rfl rfl rfl rfl rfl rfl zf105 rfl rfl hst rfl (by first | (simp [uN_length]; omega) | simp) ?_
        clear hst
        intro w17 hst
        simp only [zL, splice, Nat.reduceAdd] at hst
        refine wpK_nil ?_
        rw [getR_text] at h9 h0
        refine join_end (((na9, A9, n9, c9, nb9, B9, m9, d9), (na0, A0, n0, c0, nb0, B0, m0, d0), b9, b0)) ?_ ?_
        exact ⟨rfl, rfl, rfl, rfl, rfl, trivial⟩
        exact ⟨_, (by first | exact hst | exact hst.perm (List.Perm.cons _ (List.Perm.swap ..))), hT, h5, hS, h9, h0⟩
        exact stepT_no
        refine stepT_alloc rfl rfl rfl rfl rfl zf107 rfl hst0 hst hlesum (by repeat (first | exact zR _ | apply zC | apply zD)) ?_ ?_
        clear hst
        intro b0 w18 hst
        refine stepT_alloc rfl rfl rfl rfl rfl zf107 rfl hst0 hst hlesum (by repeat (first | exact zR _ | apply zC | apply zD)) ?_ ?_
        clear hst
        intro b9 w19 hst
        refine stepT_tail ?_
        refine stepK_store 2 rfl rfl rfl rfl rfl rfl zf105 rfl rfl hst rfl (by first | (simp [uN_length]; omega) | simp) ?_
        clear hst
        intro w20 hst
        simp only [zL, splice, Nat.reduceAdd] at hst
        refine stepK_store 1 rfl rfl rfl rfl rfl rfl zf105 rfl rfl hst rfl (by first | (simp [uN_length]; omega) | simp) ?_
        clear hst
        intro w21 hst
        simp only [zL, splice, Nat.reduceAdd] at hst
        refine wpK_nil ?_
        rw [getR_text] at h9 h0
        refine join_end (((na9, A9, n9, c9, nb9, B9, m9, d9), (na0, A0, n0, c0, nb0, B0, m0, d0), b9, b0)) ?_ ?_
        exact ⟨rfl, rfl, rfl, rfl, rfl, trivial⟩
        exact ⟨_, (by first | exact hst | exact hst.perm (List.Perm.cons _ (List.Perm.swap ..))), hT, h5, hS, h9, h0⟩
        exact stepT_no
        exact stepT_no
        refine stepT_alloc rfl rfl rfl rfl rfl zf107 rfl hst0 hst hlesum (by repeat (first | exact zR _ | apply zC | apply zD)) ?_ ?_
        clear hst
        intro b9 w22 hst
        refine stepT_call rfl rfl rfl rfl rfl rfl hst0 hst hlesum (by repeat (first | exact zR _ | apply zC | apply zD)) (snum_Num hst.agree (s := ratS (cvX (cf q) (i + 1))) (by omega)) ?_ ?_
        clear hst
        intro v23 g23 w23 hst hle23 hcs23 hp23
        replace hlesum := Mem.le.trans hlesum hle23
        replace hT := hT.mono hle23
        replace h5 := h5.mono hle23
        replace hS := hS.mono hle23
        replace h9 := h9.mono hle23
        obtain ⟨na0, A0, n0, c0, nb0, B0, m0, d0, rfl, h0⟩ := hp23
        refine stepT_alloc rfl rfl rfl rfl rfl zf107 rfl hst0 hst hlesum (by repeat (first | exact zR _ | apply zC | apply zD)) ?_ ?_
        clear hst
        intro b0 w24 hst
        refine stepT_tail ?_
        refine stepK_store 1 rfl rfl rfl rfl rfl rfl zf105 rfl rfl hst rfl (by first | (simp [uN_length]; omega) | simp) ?_
        clear hst
        intro w25 hst
        simp only [zL, splice, Nat.reduceAdd] at hst
        refine stepK_store 2 rfl rfl rfl rfl rfl rfl zf105 rfl rfl hst rfl (by first | (simp [uN_length]; omega) | simp) ?_
        clear hst
        intro w26 hst
        simp only [zL, splice, Nat.reduceAdd] at hst
        refine wpK_nil ?_
        rw [getR_text] at h9 h0
        refine join_end (((na9, A9, n9, c9, nb9, B9, m9, d9), (na0, A0, n0, c0, nb0, B0, m0, d0), b9, b0)) ?_ ?_
        exact ⟨rfl, rfl, rfl, rfl, rfl, trivial⟩
        exact ⟨_, (by first | exact hst | exact hst.perm (List.Perm.cons _ (List.Perm.swap ..))), hT, h5, hS, h9, h0⟩
        exact stepT_no
        refine stepT_alloc rfl rfl rfl rfl rfl zf107 rfl hst0 hst hlesum (by repeat (first | exact zR _ | apply zC | apply zD)) ?_ ?_
        clear hst
        intro b0 w27 hst
        refine stepT_call rfl rfl rfl rfl rfl rfl hst0 hst hlesum (by repeat (first | exact zR _ | apply zC | apply zD)) (snum_Num hst.agree (s := ratS (cvX (cf q) (i + 1))) (by omega)) ?_ ?_
        clear hst
        intro v28 g28 w28 hst hle28 hcs28 hp28
        replace hlesum := Mem.le.trans hlesum hle28
        replace hT := hT.mono hle28
        replace h5 := h5.mono hle28
        replace hS := hS.mono hle28
        replace h9 := h9.mono hle28
        obtain ⟨na0, A0, n0, c0, nb0, B0, m0, d0, rfl, h0⟩ := hp28
        refine stepT_tail ?_
        refine stepK_store 1 rfl rfl rfl rfl rfl rfl zf105 rfl rfl hst rfl (by first | (simp [uN_length]; omega) | simp) ?_
        clear hst
        intro w29 hst
        simp only [zL, splice, Nat.reduceAdd] at hst
        refine stepK_store 2 rfl rfl rfl rfl rfl rfl zf105 rfl rfl hst rfl (by first | (simp [uN_length]; omega) | simp) ?_
        clear hst
        intro w30 hst
        simp only [zL, splice, Nat.reduceAdd] at hst
        refine wpK_nil ?_
        rw [getR_text] at h9 h0
        refine join_end (((na9, A9, n9, c9, nb9, B9, m9, d9), (na0, A0, n0, c0, nb0, B0, m0, d0), b9, b0)) ?_ ?_
        exact ⟨rfl, rfl, rfl, rfl, rfl, trivial⟩
        exact ⟨_, (by first | exact hst | exact hst.perm (List.Perm.cons _ (List.Perm.swap ..))), hT, h5, hS, h9, h0⟩
        exact stepT_no
        exact stepT_no
        refine stepT_alloc rfl rfl rfl rfl rfl zf107 rfl hst0 hst hlesum (by repeat (first | exact zR _ | apply zC | apply zD)) ?_ ?_
        clear hst
        intro b0 w31 hst
        refine stepT_call rfl rfl rfl rfl rfl rfl hst0 hst hlesum (by repeat (first | exact zR _ | apply zC | apply zD)) (snum_Num hst.agree (s := ratS (cvX (cf q) (i + 1))) (by omega)) ?_ ?_
        clear hst
        intro v32 g32 w32 hst hle32 hcs32 hp32
        replace hlesum := Mem.le.trans hlesum hle32
        replace hT := hT.mono hle32
        replace h5 := h5.mono hle32
        replace hS := hS.mono hle32
        replace h9 := h9.mono hle32
        obtain ⟨na0, A0, n0, c0, nb0, B0, m0, d0, rfl, h0⟩ := hp32
        refine stepT_alloc rfl rfl rfl rfl rfl zf107 rfl hst0 hst hlesum (by repeat (first | exact zR _ | apply zC | apply zD)) ?_ ?_
        clear hst
        intro b9 w33 hst
        refine stepT_tail ?_
        refine stepK_store 2 rfl rfl rfl rfl rfl rfl zf105 rfl rfl hst rfl (by first | (simp [uN_length]; omega) | simp) ?_
        clear hst
        intro w34 hst
        simp only [zL, splice, Nat.reduceAdd] at hst
        refine stepK_store 1 rfl rfl rfl rfl rfl rfl zf105 rfl rfl hst rfl (by first | (simp [uN_length]; omega) | simp) ?_
        clear hst
        intro w35 hst
        simp only [zL, splice, Nat.reduceAdd] at hst
        refine wpK_nil ?_
        rw [getR_text] at h9 h0
        refine join_end (((na9, A9, n9, c9, nb9, B9, m9, d9), (na0, A0, n0, c0, nb0, B0, m0, d0), b9, b0)) ?_ ?_
        exact ⟨rfl, rfl, rfl, rfl, rfl, trivial⟩
        exact ⟨_, (by first | exact hst | exact hst.perm (List.Perm.cons _ (List.Perm.swap ..))), hT, h5, hS, h9, h0⟩
        exact stepT_no
        refine stepT_alloc rfl rfl rfl rfl rfl zf107 rfl hst0 hst hlesum (by repeat (first | exact zR _ | apply zC | apply zD)) ?_ ?_
        clear hst
        intro b9 w36 hst
        refine stepT_call rfl rfl rfl rfl rfl rfl hst0 hst hlesum (by repeat (first | exact zR _ | apply zC | apply zD)) (snum_Num hst.agree (s := ratS (cvX (cf q) (i + 1))) (by omega)) ?_ ?_
        clear hst
        intro v37 g37 w37 hst hle37 hcs37 hp37
        replace hlesum := Mem.le.trans hlesum hle37
        replace hT := hT.mono hle37
        replace h5 := h5.mono hle37
        replace hS := hS.mono hle37
        replace h9 := h9.mono hle37
        obtain ⟨na0, A0, n0, c0, nb0, B0, m0, d0, rfl, h0⟩ := hp37
        refine stepT_tail ?_
        refine stepK_store 2 rfl rfl rfl rfl rfl rfl zf105 rfl rfl hst rfl (by first | (simp [uN_length]; omega) | simp) ?_
        clear hst
        intro w38 hst
        simp only [zL, splice, Nat.reduceAdd] at hst
        refine stepK_store 1 rfl rfl rfl rfl rfl rfl zf105 rfl rfl hst rfl (by first | (simp [uN_length]; omega) | simp) ?_
        clear hst
        intro w39 hst
        simp only [zL, splice, Nat.reduceAdd] at hst
        refine wpK_nil ?_
        rw [getR_text] at h9 h0
        refine join_end (((na9, A9, n9, c9, nb9, B9, m9, d9), (na0, A0, n0, c0, nb0, B0, m0, d0), b9, b0)) ?_ ?_
        exact ⟨rfl, rfl, rfl, rfl, rfl, trivial⟩
        exact ⟨_, (by first | exact hst | exact hst.perm (List.Perm.cons _ (List.Perm.swap ..))), hT, h5, hS, h9, h0⟩
        exact stepT_no
        exact stepT_no
        exact stepT_no
        refine stepT_alloc rfl rfl rfl rfl rfl zf107 rfl hst0 hst (Mem.le.refl _) (by repeat (first | exact zR _ | apply zC | apply zD)) ?_ ?_
        clear hst
        intro b9 w40 hst
        refine stepT_call rfl rfl rfl rfl rfl rfl hst0 hst (Mem.le.refl _) (by repeat (first | exact zR _ | apply zC | apply zD)) (snum_Num hst.agree (s := ratS (cvX (cf q) i)) (by omega)) ?_ ?_
        clear hst
        intro v41 g41 w41 hst hle41 hcs41 hp41
        have hlesum := hle41
        replace hT := hT.mono hle41
        replace h5 := h5.mono hle41
        replace hS := hS.mono hle41
        obtain ⟨na9, A9, n9, c9, nb9, B9, m9, d9, rfl, h9⟩ := hp41
        refine stepT_call rfl rfl rfl rfl rfl rfl hst0 hst hlesum (by repeat (first | exact zR _ | apply zC | apply zD)) (snum_Num hst.agree (s := ratS (cvX (cf q) (i + 1))) (by omega)) ?_ ?_
        clear hst
        intro v42 g42 w42 hst hle42 hcs42 hp42
        replace hlesum := Mem.le.trans hlesum hle42
        replace hT := hT.mono hle42
        replace h5 := h5.mono hle42
        replace hS := hS.mono hle42
        replace h9 := h9.mono hle42
        obtain ⟨na0, A0, n0, c0, nb0, B0, m0, d0, rfl, h0⟩ := hp42
        refine stepT_alloc rfl rfl rfl rfl rfl zf107 rfl hst0 hst hlesum (by repeat (first | exact zR _ | apply zC | apply zD)) ?_ ?_
        clear hst
        intro b0 w43 hst
        refine stepT_tail ?_
        refine stepK_store 1 rfl rfl rfl rfl rfl rfl zf105 rfl rfl hst rfl (by first | (simp [uN_length]; omega) | simp) ?_
        clear hst
        intro w44 hst
        simp only [zL, splice, Nat.reduceAdd] at hst
        refine stepK_store 2 rfl rfl rfl rfl rfl rfl zf105 rfl rfl hst rfl (by first | (simp [uN_length]; omega) | simp) ?_
        clear hst
        intro w45 hst
        simp only [zL, splice, Nat.reduceAdd] at hst
        refine wpK_nil ?_
        rw [getR_text] at h9 h0
        refine join_end (((na9, A9, n9, c9, nb9, B9, m9, d9), (na0, A0, n0, c0, nb0, B0, m0, d0), b9, b0)) ?_ ?_
        exact ⟨rfl, rfl, rfl, rfl, rfl, trivial⟩
        exact ⟨_, (by first | exact hst | exact hst.perm (List.Perm.cons _ (List.Perm.swap ..))), hT, h5, hS, h9, h0⟩
        exact stepT_no
        refine stepT_alloc rfl rfl rfl rfl rfl zf107 rfl hst0 hst hlesum (by repeat (first | exact zR _ | apply zC | apply zD)) ?_ ?_
        clear hst
        intro b0 w46 hst
        refine stepT_call rfl rfl rfl rfl rfl rfl hst0 hst hlesum (by repeat (first | exact zR _ | apply zC | apply zD)) (snum_Num hst.agree (s := ratS (cvX (cf q) (i + 1))) (by omega)) ?_ ?_
        clear hst
        intro v47 g47 w47 hst hle47 hcs47 hp47
        replace hlesum := Mem.le.trans hlesum hle47
        replace hT := hT.mono hle47
        replace h5 := h5.mono hle47
        replace hS := hS.mono hle47
        replace h9 := h9.mono hle47
        obtain ⟨na0, A0, n0, c0, nb0, B0, m0, d0, rfl, h0⟩ := hp47
        refine stepT_tail ?_
        refine stepK_store 1 rfl rfl rfl rfl rfl rfl zf105 rfl rfl hst rfl (by first | (simp [uN_length]; omega) | simp) ?_
        clear hst
        intro w48 hst
        simp only [zL, splice, Nat.reduceAdd] at hst
        refine stepK_store 2 rfl rfl rfl rfl rfl rfl zf105 rfl rfl hst rfl (by first | (simp [uN_length]; omega) | simp) ?_
        clear hst
        intro w49 hst
        simp only [zL, splice, Nat.reduceAdd] at hst
        refine wpK_nil ?_
        rw [getR_text] at h9 h0
        refine join_end (((na9, A9, n9, c9, nb9, B9, m9, d9), (na0, A0, n0, c0, nb0, B0, m0, d0), b9, b0)) ?_ ?_
        exact ⟨rfl, rfl, rfl, rfl, rfl, trivial⟩
        exact ⟨_, (by first | exact hst | exact hst.perm (List.Perm.cons _ (List.Perm.swap ..))), hT, h5, hS, h9, h0⟩
        exact stepT_no
        exact stepT_no
        refine stepT_alloc rfl rfl rfl rfl rfl zf107 rfl hst0 hst (Mem.le.refl _) (by repeat (first | exact zR _ | apply zC | apply zD)) ?_ ?_
        clear hst
        intro b0 w50 hst
        refine stepT_call rfl rfl rfl rfl rfl rfl hst0 hst (Mem.le.refl _) (by repeat (first | exact zR _ | apply zC | apply zD)) (snum_Num hst.agree (s := ratS (cvX (cf q) i)) (by omega)) ?_ ?_
        clear hst
        intro v51 g51 w51 hst hle51 hcs51 hp51
        have hlesum := hle51
        replace hT := hT.mono hle51
        replace h5 := h5.mono hle51
        replace hS := hS.mono hle51
        obtain ⟨na9, A9, n9, c9, nb9, B9, m9, d9, rfl, h9⟩ := hp51
        refine stepT_call rfl rfl rfl rfl rfl rfl hst0 hst hlesum (by repeat (first | exact zR _ | apply zC | apply zD)) (snum_Num hst.agree (s := ratS (cvX (cf q) (i + 1))) (by omega)) ?_ ?_
        clear hst
        intro v52 g52 w52 hst hle52 hcs52 hp52
        replace hlesum := Mem.le.trans hlesum hle52
        replace hT := hT.mono hle52
        replace h5 := h5.mono hle52
        replace hS := hS.mono hle52
        replace h9 := h9.mono hle52
        obtain ⟨na0, A0, n0, c0, nb0, B0, m0, d0, rfl, h0⟩ := hp52
        refine stepT_tail ?_
        refine stepK_store 1 rfl rfl rfl rfl rfl rfl zf105 rfl rfl hst rfl (by first | (simp [uN_length]; omega) | simp) ?_
        clear hst
        intro w53 hst
        simp only [zL, splice, Nat.reduceAdd] at hst
        refine stepK_store 2 rfl rfl rfl rfl rfl rfl zf105 rfl rfl hst rfl (by first | (simp [uN_length]; omega) | simp) ?_
        clear hst
        intro w54 hst
        simp only [zL, splice, Nat.reduceAdd] at hst
        refine wpK_nil ?_
        rw [getR_text] at h9 h0
        refine join_end (((na9, A9, n9, c9, nb9, B9, m9, d9), (na0, A0, n0, c0, nb0, B0, m0, d0), b9, b0)) ?_ ?_
        exact ⟨rfl, rfl, rfl, rfl, rfl, trivial⟩
        exact ⟨_, (by first | exact hst | exact hst.perm (List.Perm.cons _ (List.Perm.swap ..))), hT, h5, hS, h9, h0⟩
        exact stepT_no
        exact stepT_no
        exact stepT_no
        refine stepT_alloc rfl rfl rfl rfl rfl zf107 rfl hst0 hst (Mem.le.refl _) (by repeat (first | exact zR _ | apply zC | apply zD)) ?_ ?_
        clear hst
        intro b0 w55 hst
        refine stepT_call rfl rfl rfl rfl rfl rfl hst0 hst (Mem.le.refl _) (by repeat (first | exact zR _ | apply zC | apply zD)) (snum_Num hst.agree (s := ratS (cvX (cf q) i)) (by omega)) ?_ ?_
        clear hst
        intro v56 g56 w56 hst hle56 hcs56 hp56
        have hlesum := hle56
        replace hT := hT.mono hle56
        replace h5 := h5.mono hle56
        replace hS := hS.mono hle56
        obtain ⟨na9, A9, n9, c9, nb9, B9, m9, d9, rfl, h9⟩ := hp56
        refine stepT_call rfl rfl rfl rfl rfl rfl hst0 hst hlesum (by repeat (first | exact zR _ | apply zC | apply zD)) (snum_Num hst.agree (s := ratS (cvX (cf q) (i + 1))) (by omega)) ?_ ?_
        clear hst
        intro v57 g57 w57 hst hle57 hcs57 hp57
        replace hlesum := Mem.le.trans hlesum hle57
        replace hT := hT.mono hle57
        replace h5 := h5.mono hle57
        replace hS := hS.mono hle57
        replace h9 := h9.mono hle57
        obtain ⟨na0, A0, n0, c0, nb0, B0, m0, d0, rfl, h0⟩ := hp57
        refine stepT_alloc rfl rfl rfl rfl rfl zf107 rfl hst0 hst hlesum (by repeat (first | exact zR _ | apply zC | apply zD)) ?_ ?_
        clear hst
        intro b9 w58 hst
        refine stepT_tail ?_
        refine stepK_store 2 rfl rfl rfl rfl rfl rfl zf105 rfl rfl hst rfl (by first | (simp [uN_length]; omega) | simp) ?_
        clear hst
        intro w59 hst
        simp only [zL, splice, Nat.reduceAdd] at hst
        refine stepK_store 1 rfl rfl rfl rfl rfl rfl zf105 rfl rfl hst rfl (by first | (simp [uN_length]; omega) | simp) ?_
        clear hst
        intro w60 hst
        simp only [zL, splice, Nat.reduceAdd] at hst
        refine wpK_nil ?_
        rw [getR_text] at h9 h0
        refine join_end (((na9, A9, n9, c9, nb9, B9, m9, d9), (na0, A0, n0, c0, nb0, B0, m0, d0), b9, b0)) ?_ ?_
        exact ⟨rfl, rfl, rfl, rfl, rfl, trivial⟩
        exact ⟨_, (by first | exact hst | exact hst.perm (List.Perm.cons _ (List.Perm.swap ..))), hT, h5, hS, h9, h0⟩
        exact stepT_no
        refine stepT_alloc rfl rfl rfl rfl rfl zf107 rfl hst0 hst hlesum (by repeat (first | exact zR _ | apply zC | apply zD)) ?_ ?_
        clear hst
        intro b9 w61 hst
        refine stepT_call rfl rfl rfl rfl rfl rfl hst0 hst hlesum (by repeat (first | exact zR _ | apply zC | apply zD)) (snum_Num hst.agree (s := ratS (cvX (cf q) (i + 1))) (by omega)) ?_ ?_
        clear hst
        intro v62 g62 w62 hst hle62 hcs62 hp62
        replace hlesum := Mem.le.trans hlesum hle62
        replace hT := hT.mono hle62
        replace h5 := h5.mono hle62
        replace hS := hS.mono hle62
        replace h9 := h9.mono hle62
        obtain ⟨na0, A0, n0, c0, nb0, B0, m0, d0, rfl, h0⟩ := hp62
        refine stepT_tail ?_
        refine stepK_store 2 rfl rfl rfl rfl rfl rfl zf105 rfl rfl hst rfl (by first | (simp [uN_length]; omega) | simp) ?_
        clear hst
        intro w63 hst
        simp only [zL, splice, Nat.reduceAdd] at hst
        refine stepK_store 1 rfl rfl rfl rfl rfl rfl zf105 rfl rfl hst rfl (by first | (simp [uN_length]; omega) | simp) ?_
        clear hst
        intro w64 hst
        simp only [zL, splice, Nat.reduceAdd] at hst
        refine wpK_nil ?_
        rw [getR_text] at h9 h0
        refine join_end (((na9, A9, n9, c9, nb9, B9, m9, d9), (na0, A0, n0, c0, nb0, B0, m0, d0), b9, b0)) ?_ ?_
        exact ⟨rfl, rfl, rfl, rfl, rfl, trivial⟩
        exact ⟨_, (by first | exact hst | exact hst.perm (List.Perm.cons _ (List.Perm.swap ..))), hT, h5, hS, h9, h0⟩
        exact stepT_no
        exact stepT_no
        refine stepT_alloc rfl rfl rfl rfl rfl zf107 rfl hst0 hst (Mem.le.refl _) (by repeat (first | exact zR _ | apply zC | apply zD)) ?_ ?_
        clear hst
        intro b9 w65 hst
        refine stepT_call rfl rfl rfl rfl rfl rfl hst0 hst (Mem.le.refl _) (by repeat (first | exact zR _ | apply zC | apply zD)) (snum_Num hst.agree (s := ratS (cvX (cf q) i)) (by omega)) ?_ ?_
        clear hst
        intro v66 g66 w66 hst hle66 hcs66 hp66
        have hlesum := hle66
        replace hT := hT.mono hle66
        replace h5 := h5.mono hle66
        replace hS := hS.mono hle66
        obtain ⟨na9, A9, n9, c9, nb9, B9, m9, d9, rfl, h9⟩ := hp66
        refine stepT_call rfl rfl rfl rfl rfl rfl hst0 hst hlesum (by repeat (first | exact zR _ | apply zC | apply zD)) (snum_Num hst.agree (s := ratS (cvX (cf q) (i + 1))) (by omega)) ?_ ?_
        clear hst
        intro v67 g67 w67 hst hle67 hcs67 hp67
        replace hlesum := Mem.le.trans hlesum hle67
        replace hT := hT.mono hle67
        replace h5 := h5.mono hle67
        replace hS := hS.mono hle67
        replace h9 := h9.mono hle67
        obtain ⟨na0, A0, n0, c0, nb0, B0, m0, d0, rfl, h0⟩ := hp67
        refine stepT_tail ?_
        refine stepK_store 2 rfl rfl rfl rfl rfl rfl zf105 rfl rfl hst rfl (by first | (simp [uN_length]; omega) | simp) ?_
        clear hst
        intro w68 hst
        simp only [zL, splice, Nat.reduceAdd] at hst
        refine stepK_store 1 rfl rfl rfl rfl rfl rfl zf105 rfl rfl hst rfl (by first | (simp [uN_length]; omega) | simp) ?_
        clear hst
        intro w69 hst
        simp only [zL, splice, Nat.reduceAdd] at hst
        refine wpK_nil ?_
        rw [getR_text] at h9 h0
        refine join_end (((na9, A9, n9, c9, nb9, B9, m9, d9), (na0, A0, n0, c0, nb0, B0, m0, d0), b9, b0)) ?_ ?_
        exact ⟨rfl, rfl, rfl, rfl, rfl, trivial⟩
        exact ⟨_, (by first | exact hst | exact hst.perm (List.Perm.cons _ (List.Perm.swap ..))), hT, h5, hS, h9, h0⟩
        exact stepT_no
        exact stepT_no
        exact stepT_no
        exact stepT_no
      case d11 =>
        clear hst
        clear hT h5 hS
        rintro ⟨⟨na9, A9, n9, c9, nb9, B9, m9, d9⟩, ⟨na0, A0, n0, c0, nb0, B0, m0, d0⟩, b9, b0⟩ w3 ⟨g2, hst, hT, h5, hS, h9, h0⟩
        simp only
        have sa := cvX_sz (i := i) sq
        have sb := cvX_sz (i := i + 1) sq
        have fa := sa.fitH (by decide)
        have fb := sb.fitH (by decide)
        refine cp_seq ?_
        refine cp_drawn (by kernel_rfl) 6 [(0, true), (2, true), (1, false), (3, false), (4, false), (5, true)] _ rfl (by kernel_rfl) (by kernel_rfl) (by kernel_rfl) (fun _ _ _ _ _ h => h) _ (hst.drew) ?_
        have hst0 := hst.drew
        clear hst
        have hst := hst0
        refine stepD_d rfl rfl rfl rfl (does_load_ownN 1 rfl (by kernel_rfl) zf105 rfl rfl rfl) ?_
        refine stepD_d rfl rfl rfl rfl (does_load_ownN 2 rfl (by kernel_rfl) zf105 rfl rfl rfl) ?_
        refine stepD_call rfl rfl rfl rfl rfl rfl hst (snum_Den hst.agree h9) (fun _ _ h hle => St.older h hle (by simp) hst0.ext hst0.le) ?_
        clear hst
        intro v70 g70 w70 hst hle70 hcs70 hp70
        have hlesum := hle70
        replace hT := hT.mono hle70
        replace h5 := h5.mono hle70
        replace hS := hS.mono hle70
        replace h9 := h9.mono hle70
        replace h0 := h0.mono hle70
        obtain ⟨_, _, l61, _, rfl, hDa⟩ := hp70
        have l61b := hDa.len fa.2
        refine stepD_call rfl rfl rfl rfl rfl rfl hst (snum_Den hst.agree h0) (fun _ _ h hle => St.older h (Mem.le.trans hlesum hle) (by simp) hst0.ext hst0.le) ?_
        clear hst
        intro v71 g71 w71 hst hle71 hcs71 hp71
        replace hlesum := Mem.le.trans hlesum hle71
        replace hT := hT.mono hle71
        replace h5 := h5.mono hle71
        replace hS := hS.mono hle71
        replace h9 := h9.mono hle71
        replace h0 := h0.mono hle71
        replace hDa := hDa.mono hle71
        obtain ⟨_, _, l63, _, rfl, hDb⟩ := hp71
        have l63b := hDb.len fb.2
        refine stepD_call rfl rfl rfl rfl rfl rfl hst (snum_Cmp hst.agree hDa hDb (by omega) (by omega)) (fun _ _ h hle => St.older h (Mem.le.trans hlesum hle) (by simp) hst0.ext hst0.le) ?_
        clear hst
        intro v72 g72 w72 hst hle72 hcs72 hp72
        replace hlesum := Mem.le.trans hlesum hle72
        replace hT := hT.mono hle72
        replace h5 := h5.mono hle72
        replace hS := hS.mono hle72
        replace h9 := h9.mono hle72
        replace h0 := h0.mono hle72
        replace hDa := hDa.mono hle72
        replace hDb := hDb.mono hle72
        obtain rfl := hp72
        refine stepD_d rfl rfl rfl rfl (does_assign rfl rfl) ?_
        refine stepD_tail ?_
        refine znq ?_
        obtain ⟨hc5, hc6⟩ := cvX_asc (r := q) (i := i) (by omega) (by omega)
        have hnr := cv_nearer (r := q) (i := i) (by omega) (by omega)
        have fda := (sa.sub sq).fitH (by decide)
        have fdb := (sb.sub sq).fitH (by decide)
        have fea := (absR_sz (sa.sub sq)).fitH (by decide)
        have feb := (absR_sz (sb.sub sq)).fitH (by decide)
        refine cp_drawn (by kernel_rfl) 20 [(0, true), (1, true), (2, true), (3, true), (4, true), (5, true), (6, true), (7, true), (8, true), (9, true), (10, true), (11, true), (12, true), (14, true), (15, true), (13, false), (16, false), (17, false), (18, true), (19, true)] _ rfl (by kernel_rfl) (by kernel_rfl) (by kernel_rfl) (fun _ _ _ _ _ h => h) _ (hst.drew) ?_
        have hst0 := hst.drew
        clear hst
        have hst := hst0
        refine stepD_d rfl rfl rfl rfl (does_move rfl rfl) ?_
        refine stepD_d rfl rfl rfl rfl (Does.no (does_gtr rfl rfl rfl) (sign_le hc5)) ?_
        refine stepD_d rfl rfl rfl rfl (does_move rfl rfl) ?_
        refine stepD_guard rfl rfl rfl rfl rfl rfl rfl (does_move rfl rfl) ?_
        refine stepD_guard rfl rfl rfl rfl rfl rfl rfl (does_eql rfl rfl rfl) ?_
        refine stepD_guard rfl rfl rfl rfl rfl rfl rfl (does_move rfl rfl) ?_
        refine wpD_split (t := 70) rfl ?_ ?_
        intro s70
        refine stepD_guard rfl rfl rfl rfl rfl rfl rfl (does_move rfl rfl) ?_
        refine stepD_guard rfl rfl rfl rfl rfl rfl rfl (Does.no (does_gtr rfl rfl rfl) (fun h => by have := hc6 (by omega); have := sign_z s70; omega)) ?_
        refine stepD_guard rfl rfl rfl rfl rfl rfl rfl (does_pick_true rfl rfl rfl) ?_
        refine stepD_d rfl rfl rfl rfl (does_pick_false rfl rfl rfl) ?_
        refine stepD_d rfl rfl rfl rfl (does_move rfl rfl) ?_
        refine stepD_guard rfl rfl rfl rfl rfl rfl rfl (does_load_ownN 2 rfl (by kernel_rfl) zf105 rfl rfl rfl) ?_
        refine stepD_guard rfl rfl rfl rfl rfl rfl rfl (does_load_ownN 0 rfl (by kernel_rfl) zf105 rfl rfl rfl) ?_
        refine stepD_guard rfl rfl rfl rfl rfl rfl rfl (does_load_ownN 1 rfl (by kernel_rfl) zf105 rfl rfl rfl) ?_
        refine stepD_guard rfl rfl rfl rfl rfl rfl rfl (does_load_ownN 0 rfl (by kernel_rfl) zf105 rfl rfl rfl) ?_
        refine stepD_call_guard rfl rfl rfl rfl rfl rfl rfl rfl rfl hst (law28_distance hst.agree h0 h5 fb fq fdb) (fun _ _ h hle => St.older h hle (by simp) hst0.ext hst0.le) ?_
        clear hst
        intro v73 g73 w73 hst hle73 hcs73 hp73
        have hlesum := hle73
        replace hT := hT.mono hle73
        replace h5 := h5.mono hle73
        replace hS := hS.mono hle73
        replace h9 := h9.mono hle73
        replace h0 := h0.mono hle73
        replace hDa := hDa.mono hle73
        replace hDb := hDb.mono hle73
        obtain ⟨na78, A78, n78, c78, nb78, B78, m78, d78, rfl, h78⟩ := hp73
        refine stepD_call_guard rfl rfl rfl rfl rfl rfl rfl rfl rfl hst (law28_distance hst.agree h9 h5 fa fq fda) (fun _ _ h hle => St.older h (Mem.le.trans hlesum hle) (by simp) hst0.ext hst0.le) ?_
        clear hst
        intro v74 g74 w74 hst hle74 hcs74 hp74
        replace hlesum := Mem.le.trans hlesum hle74
        replace hT := hT.mono hle74
        replace h5 := h5.mono hle74
        replace hS := hS.mono hle74
        replace h9 := h9.mono hle74
        replace h0 := h0.mono hle74
        replace hDa := hDa.mono hle74
        replace hDb := hDb.mono hle74
        replace h78 := h78.mono hle74
        obtain ⟨na81, A81, n81, c81, nb81, B81, m81, d81, rfl, h81⟩ := hp74
        refine stepD_call_guard rfl rfl rfl rfl rfl rfl rfl rfl rfl hst (snum_RCmp hst.agree h78 h81 feb fea) (fun _ _ h hle => St.older h (Mem.le.trans hlesum hle) (by simp) hst0.ext hst0.le) ?_
        clear hst
        intro v75 g75 w75 hst hle75 hcs75 hp75
        replace hlesum := Mem.le.trans hlesum hle75
        replace hT := hT.mono hle75
        replace h5 := h5.mono hle75
        replace hS := hS.mono hle75
        replace h9 := h9.mono hle75
        replace h0 := h0.mono hle75
        replace hDa := hDa.mono hle75
        replace hDb := hDb.mono hle75
        replace h78 := h78.mono hle75
        replace h81 := h81.mono hle75
        obtain rfl := hp75
        refine stepD_guard rfl rfl rfl rfl rfl rfl rfl (Does.no (does_geq rfl rfl rfl) (fun h => by have := sgn_lt.2 hnr; unfold cvX at h; omega)) ?_
        refine stepD_d rfl rfl rfl rfl (does_pick_false rfl rfl rfl) ?_
        refine stepD_tail ?_
        refine znt ?_
        refine cp_cond_false rfl ?_
        refine cp_skip ?_
        refine at_block_normal ?_
        refine cp_then ?_
        refine cp_region ?_
        refine zM rfl hst rfl ?_
        refine stepK_d rfl rfl rfl hst (Does.int (does_add rfl rfl rfl) (wrap_i64 (by omega) (by omega))) ?_
        refine zA rfl hst rfl ?_
        refine wpK_nil ?_
        refine round_end (i + 1) ?_ ?_ ?_
        exact ⟨rfl, rfl, rfl, trivial⟩
        exact ⟨_, hst.weaken _ (by simp), hT, h5, hS, by omega, by omega⟩
        show n22 - (i + 1) < n22 - i
        omega
        intro s70
        refine stepD_pass rfl rfl rfl rfl rfl rfl rfl rfl ?_
        refine stepD_pass rfl rfl rfl rfl rfl rfl rfl rfl ?_
        refine stepD_guard rfl rfl rfl rfl rfl rfl rfl (does_pick_false rfl rfl rfl) ?_
        refine stepD_d rfl rfl rfl rfl (does_pick_false rfl rfl rfl) ?_
        refine stepD_d rfl rfl rfl rfl (does_move rfl rfl) ?_
        refine stepD_guard rfl rfl rfl rfl rfl rfl rfl (does_load_ownN 2 rfl (by kernel_rfl) zf105 rfl rfl rfl) ?_
        refine stepD_guard rfl rfl rfl rfl rfl rfl rfl (does_load_ownN 0 rfl (by kernel_rfl) zf105 rfl rfl rfl) ?_
        refine stepD_guard rfl rfl rfl rfl rfl rfl rfl (does_load_ownN 1 rfl (by kernel_rfl) zf105 rfl rfl rfl) ?_
        refine stepD_guard rfl rfl rfl rfl rfl rfl rfl (does_load_ownN 0 rfl (by kernel_rfl) zf105 rfl rfl rfl) ?_
        refine stepD_call_guard rfl rfl rfl rfl rfl rfl rfl rfl rfl hst (law28_distance hst.agree h0 h5 fb fq fdb) (fun _ _ h hle => St.older h hle (by simp) hst0.ext hst0.le) ?_
        clear hst
        intro v76 g76 w76 hst hle76 hcs76 hp76
        have hlesum := hle76
        replace hT := hT.mono hle76
        replace h5 := h5.mono hle76
        replace hS := hS.mono hle76
        replace h9 := h9.mono hle76
        replace h0 := h0.mono hle76
        replace hDa := hDa.mono hle76
        replace hDb := hDb.mono hle76
        obtain ⟨na78, A78, n78, c78, nb78, B78, m78, d78, rfl, h78⟩ := hp76
        refine stepD_call_guard rfl rfl rfl rfl rfl rfl rfl rfl rfl hst (law28_distance hst.agree h9 h5 fa fq fda) (fun _ _ h hle => St.older h (Mem.le.trans hlesum hle) (by simp) hst0.ext hst0.le) ?_
        clear hst
        intro v77 g77 w77 hst hle77 hcs77 hp77
        replace hlesum := Mem.le.trans hlesum hle77
        replace hT := hT.mono hle77
        replace h5 := h5.mono hle77
        replace hS := hS.mono hle77
        replace h9 := h9.mono hle77
        replace h0 := h0.mono hle77
        replace hDa := hDa.mono hle77
        replace hDb := hDb.mono hle77
        replace h78 := h78.mono hle77
        obtain ⟨na81, A81, n81, c81, nb81, B81, m81, d81, rfl, h81⟩ := hp77
        refine stepD_call_guard rfl rfl rfl rfl rfl rfl rfl rfl rfl hst (snum_RCmp hst.agree h78 h81 feb fea) (fun _ _ h hle => St.older h (Mem.le.trans hlesum hle) (by simp) hst0.ext hst0.le) ?_
        clear hst
        intro v78 g78 w78 hst hle78 hcs78 hp78
        replace hlesum := Mem.le.trans hlesum hle78
        replace hT := hT.mono hle78
        replace h5 := h5.mono hle78
        replace hS := hS.mono hle78
        replace h9 := h9.mono hle78
        replace h0 := h0.mono hle78
        replace hDa := hDa.mono hle78
        replace hDb := hDb.mono hle78
        replace h78 := h78.mono hle78
        replace h81 := h81.mono hle78
        obtain rfl := hp78
        refine stepD_guard rfl rfl rfl rfl rfl rfl rfl (Does.no (does_geq rfl rfl rfl) (fun h => by have := sgn_lt.2 hnr; unfold cvX at h; omega)) ?_
        refine stepD_d rfl rfl rfl rfl (does_pick_false rfl rfl rfl) ?_
        refine stepD_tail ?_
        refine znt ?_
        refine cp_cond_false rfl ?_
        refine cp_skip ?_
        refine at_block_normal ?_
        refine cp_then ?_
        refine cp_region ?_
        refine zM rfl hst rfl ?_
        refine stepK_d rfl rfl rfl hst (Does.int (does_add rfl rfl rfl) (wrap_i64 (by omega) (by omega))) ?_
        refine zA rfl hst rfl ?_
        refine wpK_nil ?_
        refine round_end (i + 1) ?_ ?_ ?_
        exact ⟨rfl, rfl, rfl, trivial⟩
        exact ⟨_, hst.weaken _ (by simp), hT, h5, hS, by omega, by omega⟩
        show n22 - (i + 1) < n22 - i
        omega
      intro c46
      refine cp_exit ?_
      refine at_then_exit ?_
      refine at_then_exit ?_
      refine cp_exit_here ?_
      refine cp_then ?_
      refine zsr ?_
      refine stepK_call rfl rfl rfl rfl rfl hst (law28_known hst.agree hT) ?_
      clear hst
      intro v79 g79 w79 hst hle79 hcs79 hp79
      replace hT := hT.mono hle79
      replace h5 := h5.mono hle79
      replace hS := hS.mono hle79
      obtain rfl := hp79
      refine zA rfl hst rfl ?_
      refine znt ?_
      refine cp_ret ?_
      refine ret1 rfl rfl hst ?_
      first
      | rfl
      | contradiction
      | simp_all

end Go.Proofs.YtnbcedkpkcgmkaaGreatDoor
