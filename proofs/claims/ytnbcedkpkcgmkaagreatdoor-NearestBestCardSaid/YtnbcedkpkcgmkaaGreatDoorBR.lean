/- The walks of functions, printed by a program of this session out of its specs. -/
import Derived.Test.YtnbcedkpkcgmkaaGreatDoorCY
import Derived.Test.YtnbcedkpkcgmkaaGreatDoorCM
import Derived.Test.YtnbcedkpkcgmkaaGreatDoorDI
import Derived.Test.YtnbcedkpkcgmkaaGreatDoorF9
import Derived.Test.YtnbcedkpkcgmkaaGreatDoorFB
import Derived.Test.YtnbcedkpkcgmkaaGreatDoorProg
import Derived.Test.YtnbcedkpkcgmkaaGreatDoorF0
namespace Go.Proofs.YtnbcedkpkcgmkaaGreatDoor
open Go Go.RowKit Go.Proofs.Vc
set_option linter.unusedVariables false
set_option linter.unusedSimpArgs false

set_option maxHeartbeats 8000000 in
theorem sref_Best {g : Mem} {w : World} (hag : Agree g w) {na nb : Bool} {A B : Option Addr} {n c m d : Nat} {r : Rat} (ha : IsQ g na A n nb B m r) {k L : Nat} (hz : Sz k r) (hk : k ≤ 1000) (hL0 : 0 < L) (hL : L ≤ 2000) :
    CallTo Tryz.prog 31 #[.agg #[.bool na, .slice A n c, .bool nb, .slice B m d], .int .i64 (L : Int)] w (Ret w g fun v g => ∃ na A n c nb B m d z, v = .agg #[.bool na, .slice A n c, .bool nb, .slice B m d] ∧ IsQ g na A n nb B m z ∧ BestIs r L z ∧ Sz (k + 5) z) := by
  refine CallTo.enter (vs := [.agg #[.bool na, .slice A n c, .bool nb, .slice B m d], .int .i64 (L : Int)]) zf160 (by kernel_rfl) rfl rfl rfl ?_
  have hst := St.init hag
  have fr := hz.fitH (by omega)
  have sf0 := floor_sz hz
  refine zsr ?_
  refine stepK_box rfl rfl rfl rfl rfl rfl hst ?_
  clear hst
  intro b2 w1 hst
  refine stepK_alloc rfl rfl rfl rfl zf107 rfl hst ?_
  clear hst
  intro b4 w2 hst
  refine zn4 ?_
  refine stepK_d rfl rfl rfl hst (does_load_ownN 0 rfl (by kernel_rfl) zf105 rfl rfl rfl) ?_
  refine stepK_call rfl rfl rfl rfl rfl hst (snum_Floor hst.agree ha fr) ?_
  clear hst
  intro v3 g3 w3 hst hle3 hcs3 hp3
  replace ha := ha.mono hle3
  obtain ⟨nz1, Az1, lz1, cz1, rfl, h12⟩ := hp3
  refine stepK_d rfl rfl rfl hst (does_build rfl zf108 rfl rfl) ?_
  refine stepK_alloc rfl rfl rfl rfl zf107 rfl hst ?_
  clear hst
  intro b5 w4 hst
  refine stepK_store 2 rfl rfl rfl rfl rfl rfl zf105 rfl rfl hst rfl (by first | (simp [uN_length]; omega) | simp) ?_
  clear hst
  intro w5 hst
  simp only [zL, splice, Nat.reduceAdd] at hst
  refine znq ?_
  refine zsr ?_
  refine zA rfl hst rfl ?_
  refine znt ?_
  refine cp_block ?_
  refine cp_loop (ι := Nat × Rat × (Bool × Option Addr × Nat × Nat × Bool × Option Addr × Nat × Nat)) (fun (e, z, (na5, A5, n5, c5, nb5, B5, m5, d5)) => [(1, .int .i64 (L : Int)), (2, .pointer (some ⟨b2, 0, none⟩)), (4, .pointer (some ⟨b4, 0, none⟩)), (5, .pointer (some ⟨b5, 0, none⟩)), (6, .int .i64 (e : Int))]) (fun (e, z, (na5, A5, n5, c5, nb5, B5, m5, d5)) w1 => ∃ g1, St w [] g g1 [(b2, .cells #[.bool na, .slice A n c, .bool nb, .slice B m d] 30 (0, 0)), (b4, .cells #[.bool false, .slice none 0 0, .bool false, .slice none 0 0] 30 (0, 0)), (b5, .cells #[.bool na5, .slice A5 n5 c5, .bool nb5, .slice B5 m5 d5] 30 (0, 0))] w1 ∧ IsQ g1 na A n nb B m (r) ∧ IsQ g1 na5 A5 n5 nb5 B5 m5 (z) ∧ GoodB r e z ∧ Sz (k + 5) z ∧ 1 ≤ e ∧ e ≤ L + 1) (fun (e, z, (na5, A5, n5, c5, nb5, B5, m5, d5)) => L + 1 - e) (1, (r.floor : Rat), (nz1, Az1, lz1, cz1, false, none, 0, 0)) ?k6 ?i6 ?r6
  case k6 => exact ⟨rfl, rfl, rfl, rfl, kint rfl, trivial⟩
  case i6 =>
    exact ⟨_, hst, ha, IsQ.int h12, GoodB.start r, sf0.mono (by omega), by decide, by omega⟩
  case r6 =>
    clear hst
    clear ha h12
    rintro ⟨e, z, ⟨na5, A5, n5, c5, nb5, B5, m5, d5⟩⟩ w1 ⟨g1, hst, ha, h5, hg, hsz, hd1, hd2⟩
    refine cp_seq ?_
    refine zsr ?_
    refine zM rfl hst rfl ?_
    refine zM rfl hst rfl ?_
    refine stepK_d rfl rfl rfl hst (does_leq rfl rfl rfl) ?_
    refine znt ?_
    refine cp_if rfl ?_ ?_
    intro c16
    refine cp_skip ?_
    refine cp_then ?_
    refine cp_seq ?_
    refine cp_block ?_
    refine cp_join (ι := (Bool × Option Addr × Nat × Nat) × Nat) (fun ((nz7, Az7, lz7, cz7), b7) => [(1, .int .i64 (L : Int)), (2, .pointer (some ⟨b2, 0, none⟩)), (4, .pointer (some ⟨b4, 0, none⟩)), (5, .pointer (some ⟨b5, 0, none⟩)), (6, .int .i64 (e : Int)), (7, .pointer (some ⟨b7, 0, none⟩))]) (fun ((nz7, Az7, lz7, cz7), b7) w2 => ∃ g2, St w [] g g2 [(b2, .cells #[.bool na, .slice A n c, .bool nb, .slice B m d] 30 (0, 0)), (b4, .cells #[.bool false, .slice none 0 0, .bool false, .slice none 0 0] 30 (0, 0)), (b5, .cells #[.bool na5, .slice A5 n5 c5, .bool nb5, .slice B5 m5 d5] 30 (0, 0)), (b7, .cells #[.bool nz7, .slice Az7 lz7 cz7] 28 (0, 0))] w2 ∧ IsQ g2 na A n nb B m (r) ∧ IsQ g2 na5 A5 n5 nb5 B5 m5 (z) ∧ IsZ g2 nz7 Az7 lz7 ((r * ((e : Int) : Rat)).floor)) ?c7 ?d7
    case c7 =>
      have sd : Sz 4 (((e : Int)) : Rat) := intR_sz (by rw [Int.natAbs_natCast]; omega) (by decide)
      have smul := hz.mul sd
      have fmul := smul.fitH (by omega)
      have sfl := floor_sz smul
      have fd := sd.fitH (by decide)
      refine cp_drawnT (by kernel_rfl) 6 (.d 0 (.d 1 (.e 2 (.e 3 (.e 4 (.e 5 .fin .no) (.e 5 (.e 4 .fin .no) .no)) (.e 5 (.e 3 (.e 4 .fin .no) .no) .no)) (.e 5 (.e 2 (.e 3 (.e 4 .fin .no) .no) .no) .no)))) _ rfl (by kernel_rfl) (by kernel_rfl) (by kernel_rfl) (fun _ _ _ _ _ h => h) _ hst.drew ?_
      have hst0 := hst.drew
      have hst9 := hst.drew
      clear hst
      have hst := hst9
      clear hst9
      refine stepT_d rfl rfl rfl rfl (does_load_ownN 0 rfl (by kernel_rfl) zf105 rfl rfl rfl) ?_
      refine stepT_d rfl rfl rfl rfl (does_move rfl rfl) ?_
      refine stepT_call rfl rfl rfl rfl rfl rfl hst0 hst (Mem.le.refl _) (by repeat (first | exact zR _ | apply zC | apply zD)) (snum_R hst.agree (x := (e : Int)) (by omega) (by omega)) ?_ ?_
      clear hst
      intro v8 g8 w8 hst hle8 hcs8 hp8
      have hlesum := hle8
      replace ha := ha.mono hle8
      replace h5 := h5.mono hle8
      obtain ⟨na21, A21, n21, c21, nb21, B21, m21, d21, rfl, h21⟩ := hp8
      refine stepT_call rfl rfl rfl rfl rfl rfl hst0 hst hlesum (by repeat (first | exact zR _ | apply zC | apply zD)) (snum_RMul hst.agree ha h21 fr fd) ?_ ?_
      clear hst
      intro v9 g9 w9 hst hle9 hcs9 hp9
      replace hlesum := Mem.le.trans hlesum hle9
      replace ha := ha.mono hle9
      replace h5 := h5.mono hle9
      replace h21 := h21.mono hle9
      obtain ⟨na22, A22, n22, c22, nb22, B22, m22, d22, rfl, h22⟩ := hp9
      refine stepT_call rfl rfl rfl rfl rfl rfl hst0 hst hlesum (by repeat (first | exact zR _ | apply zC | apply zD)) (snum_Floor hst.agree h22 fmul) ?_ ?_
      clear hst
      intro v10 g10 w10 hst hle10 hcs10 hp10
      replace hlesum := Mem.le.trans hlesum hle10
      replace ha := ha.mono hle10
      replace h5 := h5.mono hle10
      replace h21 := h21.mono hle10
      replace h22 := h22.mono hle10
      obtain ⟨nz7, Az7, lz7, cz7, rfl, h7⟩ := hp10
      refine stepT_alloc rfl rfl rfl rfl rfl zf87 rfl hst0 hst hlesum (by repeat (first | exact zR _ | apply zC | apply zD)) ?_ ?_
      clear hst
      intro b7 w11 hst
      refine stepT_tail ?_
      refine stepK_store 3 rfl rfl rfl rfl rfl rfl zf89 rfl rfl hst rfl (by first | (simp [uN_length]; omega) | simp) ?_
      clear hst
      intro w12 hst
      simp only [zL, splice, Nat.reduceAdd] at hst
      refine wpK_nil ?_
      refine join_end (((nz7, Az7, lz7, cz7), b7)) ?_ ?_
      exact ⟨rfl, rfl, rfl, rfl, rfl, rfl, trivial⟩
      exact ⟨_, hst, ha, h5, h7⟩
      exact stepT_no
      refine stepT_alloc rfl rfl rfl rfl rfl zf87 rfl hst0 hst hlesum (by repeat (first | exact zR _ | apply zC | apply zD)) ?_ ?_
      clear hst
      intro b7 w13 hst
      refine stepT_call rfl rfl rfl rfl rfl rfl hst0 hst hlesum (by repeat (first | exact zR _ | apply zC | apply zD)) (snum_Floor hst.agree h22 fmul) ?_ ?_
      clear hst
      intro v14 g14 w14 hst hle14 hcs14 hp14
      replace hlesum := Mem.le.trans hlesum hle14
      replace ha := ha.mono hle14
      replace h5 := h5.mono hle14
      replace h21 := h21.mono hle14
      replace h22 := h22.mono hle14
      obtain ⟨nz7, Az7, lz7, cz7, rfl, h7⟩ := hp14
      refine stepT_tail ?_
      refine stepK_store 3 rfl rfl rfl rfl rfl rfl zf89 rfl rfl hst rfl (by first | (simp [uN_length]; omega) | simp) ?_
      clear hst
      intro w15 hst
      simp only [zL, splice, Nat.reduceAdd] at hst
      refine wpK_nil ?_
      refine join_end (((nz7, Az7, lz7, cz7), b7)) ?_ ?_
      exact ⟨rfl, rfl, rfl, rfl, rfl, rfl, trivial⟩
      exact ⟨_, hst, ha, h5, h7⟩
      exact stepT_no
      exact stepT_no
      refine stepT_alloc rfl rfl rfl rfl rfl zf87 rfl hst0 hst hlesum (by repeat (first | exact zR _ | apply zC | apply zD)) ?_ ?_
      clear hst
      intro b7 w16 hst
      refine stepT_call rfl rfl rfl rfl rfl rfl hst0 hst hlesum (by repeat (first | exact zR _ | apply zC | apply zD)) (snum_RMul hst.agree ha h21 fr fd) ?_ ?_
      clear hst
      intro v17 g17 w17 hst hle17 hcs17 hp17
      replace hlesum := Mem.le.trans hlesum hle17
      replace ha := ha.mono hle17
      replace h5 := h5.mono hle17
      replace h21 := h21.mono hle17
      obtain ⟨na22, A22, n22, c22, nb22, B22, m22, d22, rfl, h22⟩ := hp17
      refine stepT_call rfl rfl rfl rfl rfl rfl hst0 hst hlesum (by repeat (first | exact zR _ | apply zC | apply zD)) (snum_Floor hst.agree h22 fmul) ?_ ?_
      clear hst
      intro v18 g18 w18 hst hle18 hcs18 hp18
      replace hlesum := Mem.le.trans hlesum hle18
      replace ha := ha.mono hle18
      replace h5 := h5.mono hle18
      replace h21 := h21.mono hle18
      replace h22 := h22.mono hle18
      obtain ⟨nz7, Az7, lz7, cz7, rfl, h7⟩ := hp18
      refine stepT_tail ?_
      refine stepK_store 3 rfl rfl rfl rfl rfl rfl zf89 rfl rfl hst rfl (by first | (simp [uN_length]; omega) | simp) ?_
      clear hst
      intro w19 hst
      simp only [zL, splice, Nat.reduceAdd] at hst
      refine wpK_nil ?_
      refine join_end (((nz7, Az7, lz7, cz7), b7)) ?_ ?_
      exact ⟨rfl, rfl, rfl, rfl, rfl, rfl, trivial⟩
      exact ⟨_, hst, ha, h5, h7⟩
      exact stepT_no
      exact stepT_no
      exact stepT_no
      refine stepT_alloc rfl rfl rfl rfl rfl zf87 rfl hst0 hst (Mem.le.refl _) (by repeat (first | exact zR _ | apply zC | apply zD)) ?_ ?_
      clear hst
      intro b7 w20 hst
      refine stepT_call rfl rfl rfl rfl rfl rfl hst0 hst (Mem.le.refl _) (by repeat (first | exact zR _ | apply zC | apply zD)) (snum_R hst.agree (x := (e : Int)) (by omega) (by omega)) ?_ ?_
      clear hst
      intro v21 g21 w21 hst hle21 hcs21 hp21
      have hlesum := hle21
      replace ha := ha.mono hle21
      replace h5 := h5.mono hle21
      obtain ⟨na21, A21, n21, c21, nb21, B21, m21, d21, rfl, h21⟩ := hp21
      refine stepT_call rfl rfl rfl rfl rfl rfl hst0 hst hlesum (by repeat (first | exact zR _ | apply zC | apply zD)) (snum_RMul hst.agree ha h21 fr fd) ?_ ?_
      clear hst
      intro v22 g22 w22 hst hle22 hcs22 hp22
      replace hlesum := Mem.le.trans hlesum hle22
      replace ha := ha.mono hle22
      replace h5 := h5.mono hle22
      replace h21 := h21.mono hle22
      obtain ⟨na22, A22, n22, c22, nb22, B22, m22, d22, rfl, h22⟩ := hp22
      refine stepT_call rfl rfl rfl rfl rfl rfl hst0 hst hlesum (by repeat (first | exact zR _ | apply zC | apply zD)) (snum_Floor hst.agree h22 fmul) ?_ ?_
      clear hst
      intro v23 g23 w23 hst hle23 hcs23 hp23
      replace hlesum := Mem.le.trans hlesum hle23
      replace ha := ha.mono hle23
      replace h5 := h5.mono hle23
      replace h21 := h21.mono hle23
      replace h22 := h22.mono hle23
      obtain ⟨nz7, Az7, lz7, cz7, rfl, h7⟩ := hp23
      refine stepT_tail ?_
      refine stepK_store 3 rfl rfl rfl rfl rfl rfl zf89 rfl rfl hst rfl (by first | (simp [uN_length]; omega) | simp) ?_
      clear hst
      intro w24 hst
      simp only [zL, splice, Nat.reduceAdd] at hst
      refine wpK_nil ?_
      refine join_end (((nz7, Az7, lz7, cz7), b7)) ?_ ?_
      exact ⟨rfl, rfl, rfl, rfl, rfl, rfl, trivial⟩
      exact ⟨_, hst, ha, h5, h7⟩
      exact stepT_no
      exact stepT_no
      exact stepT_no
      exact stepT_no
    case d7 =>
      clear hst
      clear ha h5
      rintro ⟨⟨nz7, Az7, lz7, cz7⟩, b7⟩ w2 ⟨g2, hst, ha, h5, h7⟩
      simp only
      have sd : Sz 4 (((e : Int)) : Rat) := intR_sz (by rw [Int.natAbs_natCast]; omega) (by decide)
      have smul := hz.mul sd
      have fmul := smul.fitH (by omega)
      have sfl := floor_sz smul
      have fd := sd.fitH (by decide)
      refine zsr ?_
      refine zA rfl hst rfl ?_
      refine znt ?_
      refine cp_block ?_
      refine cp_loop (ι := Nat × (Bool × Option Addr × Nat × Nat × Bool × Option Addr × Nat × Nat)) (fun (j, (na5, A5, n5, c5, nb5, B5, m5, d5)) => [(1, .int .i64 (L : Int)), (2, .pointer (some ⟨b2, 0, none⟩)), (4, .pointer (some ⟨b4, 0, none⟩)), (5, .pointer (some ⟨b5, 0, none⟩)), (6, .int .i64 (e : Int)), (7, .pointer (some ⟨b7, 0, none⟩)), (8, .int .i64 (j : Int))]) (fun (j, (na5, A5, n5, c5, nb5, B5, m5, d5)) w2 => ∃ g2, St w [] g g2 [(b2, .cells #[.bool na, .slice A n c, .bool nb, .slice B m d] 30 (0, 0)), (b4, .cells #[.bool false, .slice none 0 0, .bool false, .slice none 0 0] 30 (0, 0)), (b5, .cells #[.bool na5, .slice A5 n5 c5, .bool nb5, .slice B5 m5 d5] 30 (0, 0)), (b7, .cells #[.bool nz7, .slice Az7 lz7 cz7] 28 (0, 0))] w2 ∧ IsQ g2 na A n nb B m (r) ∧ IsZ g2 nz7 Az7 lz7 ((r * ((e : Int) : Rat)).floor) ∧ IsQ g2 na5 A5 n5 nb5 B5 m5 (bsteps r e z j) ∧ Sz (k + 5) (bsteps r e z j) ∧ j ≤ 2) (fun (j, (na5, A5, n5, c5, nb5, B5, m5, d5)) => 2 - j) (0, (na5, A5, n5, c5, nb5, B5, m5, d5)) ?k25 ?i25 ?r25
      case k25 => exact ⟨rfl, rfl, rfl, rfl, rfl, rfl, kint rfl, trivial⟩
      case i25 =>
        exact ⟨_, hst, ha, h7, h5, hsz, by decide⟩
      case r25 =>
        clear hst
        clear ha h5 h7
        rintro ⟨j, ⟨na5, A5, n5, c5, nb5, B5, m5, d5⟩⟩ w2 ⟨g2, hst, ha, h7, h5, hsz5, hj⟩
        refine cp_seq ?_
        refine zsr ?_
        refine zM rfl hst rfl ?_
        refine stepK_d rfl rfl rfl hst (does_lss rfl rfl rfl) ?_
        refine znt ?_
        refine cp_if rfl ?_ ?_
        intro c25
        refine cp_skip ?_
        refine cp_then ?_
        refine cp_seq ?_
        refine cp_block ?_
        refine cp_join (ι := (Bool × Option Addr × Nat × Nat × Bool × Option Addr × Nat × Nat) × Nat) (fun ((na9, A9, n9, c9, nb9, B9, m9, d9), b9) => [(1, .int .i64 (L : Int)), (2, .pointer (some ⟨b2, 0, none⟩)), (4, .pointer (some ⟨b4, 0, none⟩)), (5, .pointer (some ⟨b5, 0, none⟩)), (6, .int .i64 (e : Int)), (7, .pointer (some ⟨b7, 0, none⟩)), (8, .int .i64 (j : Int)), (9, .pointer (some ⟨b9, 0, none⟩))]) (fun ((na9, A9, n9, c9, nb9, B9, m9, d9), b9) w3 => ∃ g3, St w [] g g3 [(b2, .cells #[.bool na, .slice A n c, .bool nb, .slice B m d] 30 (0, 0)), (b4, .cells #[.bool false, .slice none 0 0, .bool false, .slice none 0 0] 30 (0, 0)), (b5, .cells #[.bool na5, .slice A5 n5 c5, .bool nb5, .slice B5 m5 d5] 30 (0, 0)), (b7, .cells #[.bool nz7, .slice Az7 lz7 cz7] 28 (0, 0)), (b9, .cells #[.bool na9, .slice A9 n9 c9, .bool nb9, .slice B9 m9 d9] 30 (0, 0))] w3 ∧ IsQ g3 na A n nb B m (r) ∧ IsQ g3 na5 A5 n5 nb5 B5 m5 (bsteps r e z j) ∧ IsZ g3 nz7 Az7 lz7 ((r * ((e : Int) : Rat)).floor) ∧ IsQ g3 na9 A9 n9 nb9 B9 m9 (bcand r e j)) ?c26 ?d26
        case c26 =>
          have l7 := h7.len (k := 1099511627776) (by have := (sfl.fitH (by omega)).1; rwa [Rat.num_intCast] at this)
          refine cp_drawnT (by kernel_rfl) 8 (.d 0 (.d 1 (.d 4 (.e 2 (.e 3 (.e 5 (.e 6 (.e 7 .fin .no) (.e 7 (.e 6 .fin .no) .no)) (.e 7 (.e 5 (.e 6 .fin .no) .no) .no)) (.e 7 (.e 3 (.e 5 (.e 6 .fin .no) .no) .no) .no)) (.e 7 (.e 2 (.e 3 (.e 5 (.e 6 .fin .no) .no) .no) .no) .no))))) _ rfl (by kernel_rfl) (by kernel_rfl) (by kernel_rfl) (fun _ _ _ _ _ h => h) _ hst.drew ?_
          have hst0 := hst.drew
          have hst9 := hst.drew
          clear hst
          have hst := hst9
          clear hst9
          refine stepT_d rfl rfl rfl rfl (does_load_ownN 3 rfl (by kernel_rfl) zf89 rfl rfl rfl) ?_
          refine stepT_d rfl rfl rfl rfl (does_move rfl rfl) ?_
          refine stepT_d rfl rfl rfl rfl (does_move rfl rfl) ?_
          refine stepT_call rfl rfl rfl rfl rfl rfl hst0 hst (Mem.le.refl _) (by repeat (first | exact zR _ | apply zC | apply zD)) (snum_FromInt hst.agree (x := (j : Int)) (by omega) (by omega)) ?_ ?_
          clear hst
          intro v27 g27 w27 hst hle27 hcs27 hp27
          have hlesum := hle27
          replace ha := ha.mono hle27
          replace h7 := h7.mono hle27
          replace h5 := h5.mono hle27
          obtain ⟨_, _, l30, _, rfl, h30⟩ := hp27
          have l30b := h30.len (k := 1) (by omega)
          refine stepT_call rfl rfl rfl rfl rfl rfl hst0 hst hlesum (by repeat (first | exact zR _ | apply zC | apply zD)) (snum_Add hst.agree h7 h30 (by omega) (by omega)) ?_ ?_
          clear hst
          intro v28 g28 w28 hst hle28 hcs28 hp28
          replace hlesum := Mem.le.trans hlesum hle28
          replace ha := ha.mono hle28
          replace h7 := h7.mono hle28
          replace h5 := h5.mono hle28
          replace h30 := h30.mono hle28
          obtain ⟨_, _, l31, _, rfl, h31⟩ := hp28
          have l31b := h31.len (k := 1099511627776) (bcand_len sfl (by omega) (by omega))
          refine stepT_call rfl rfl rfl rfl rfl rfl hst0 hst hlesum (by repeat (first | exact zR _ | apply zC | apply zD)) (snum_FromInt hst.agree (x := (e : Int)) (by omega) (by omega)) ?_ ?_
          clear hst
          intro v29 g29 w29 hst hle29 hcs29 hp29
          replace hlesum := Mem.le.trans hlesum hle29
          replace ha := ha.mono hle29
          replace h7 := h7.mono hle29
          replace h5 := h5.mono hle29
          replace h30 := h30.mono hle29
          replace h31 := h31.mono hle29
          obtain ⟨_, _, l33, _, rfl, h33⟩ := hp29
          have l33b := h33.len (k := 1) (by omega)
          refine stepT_call rfl rfl rfl rfl rfl rfl hst0 hst hlesum (by repeat (first | exact zR _ | apply zC | apply zD)) (snum_Frac hst.agree h31 h33 (by omega) (by omega) (by omega)) ?_ ?_
          clear hst
          intro v30 g30 w30 hst hle30 hcs30 hp30
          replace hlesum := Mem.le.trans hlesum hle30
          replace ha := ha.mono hle30
          replace h7 := h7.mono hle30
          replace h5 := h5.mono hle30
          replace h30 := h30.mono hle30
          replace h31 := h31.mono hle30
          replace h33 := h33.mono hle30
          obtain ⟨na9, A9, n9, c9, nb9, B9, m9, d9, rfl, h9⟩ := hp30
          refine stepT_alloc rfl rfl rfl rfl rfl zf107 rfl hst0 hst hlesum (by repeat (first | exact zR _ | apply zC | apply zD)) ?_ ?_
          clear hst
          intro b9 w31 hst
          refine stepT_tail ?_
          refine stepK_store 4 rfl rfl rfl rfl rfl rfl zf105 rfl rfl hst rfl (by first | (simp [uN_length]; omega) | simp) ?_
          clear hst
          intro w32 hst
          simp only [zL, splice, Nat.reduceAdd] at hst
          refine wpK_nil ?_
          refine join_end (((na9, A9, n9, c9, nb9, B9, m9, d9), b9)) ?_ ?_
          exact ⟨rfl, rfl, rfl, rfl, rfl, rfl, rfl, rfl, trivial⟩
          exact ⟨_, hst, ha, h5, h7, h9⟩
          exact stepT_no
          refine stepT_alloc rfl rfl rfl rfl rfl zf107 rfl hst0 hst hlesum (by repeat (first | exact zR _ | apply zC | apply zD)) ?_ ?_
          clear hst
          intro b9 w33 hst
          refine stepT_call rfl rfl rfl rfl rfl rfl hst0 hst hlesum (by repeat (first | exact zR _ | apply zC | apply zD)) (snum_Frac hst.agree h31 h33 (by omega) (by omega) (by omega)) ?_ ?_
          clear hst
          intro v34 g34 w34 hst hle34 hcs34 hp34
          replace hlesum := Mem.le.trans hlesum hle34
          replace ha := ha.mono hle34
          replace h7 := h7.mono hle34
          replace h5 := h5.mono hle34
          replace h30 := h30.mono hle34
          replace h31 := h31.mono hle34
          replace h33 := h33.mono hle34
          obtain ⟨na9, A9, n9, c9, nb9, B9, m9, d9, rfl, h9⟩ := hp34
          refine stepT_tail ?_
          refine stepK_store 4 rfl rfl rfl rfl rfl rfl zf105 rfl rfl hst rfl (by first | (simp [uN_length]; omega) | simp) ?_
          clear hst
          intro w35 hst
          simp only [zL, splice, Nat.reduceAdd] at hst
          refine wpK_nil ?_
          refine join_end (((na9, A9, n9, c9, nb9, B9, m9, d9), b9)) ?_ ?_
          exact ⟨rfl, rfl, rfl, rfl, rfl, rfl, rfl, rfl, trivial⟩
          exact ⟨_, hst, ha, h5, h7, h9⟩
          exact stepT_no
          exact stepT_no
          refine stepT_alloc rfl rfl rfl rfl rfl zf107 rfl hst0 hst hlesum (by repeat (first | exact zR _ | apply zC | apply zD)) ?_ ?_
          clear hst
          intro b9 w36 hst
          refine stepT_call rfl rfl rfl rfl rfl rfl hst0 hst hlesum (by repeat (first | exact zR _ | apply zC | apply zD)) (snum_FromInt hst.agree (x := (e : Int)) (by omega) (by omega)) ?_ ?_
          clear hst
          intro v37 g37 w37 hst hle37 hcs37 hp37
          replace hlesum := Mem.le.trans hlesum hle37
          replace ha := ha.mono hle37
          replace h7 := h7.mono hle37
          replace h5 := h5.mono hle37
          replace h30 := h30.mono hle37
          replace h31 := h31.mono hle37
          obtain ⟨_, _, l33, _, rfl, h33⟩ := hp37
          have l33b := h33.len (k := 1) (by omega)
          refine stepT_call rfl rfl rfl rfl rfl rfl hst0 hst hlesum (by repeat (first | exact zR _ | apply zC | apply zD)) (snum_Frac hst.agree h31 h33 (by omega) (by omega) (by omega)) ?_ ?_
          clear hst
          intro v38 g38 w38 hst hle38 hcs38 hp38
          replace hlesum := Mem.le.trans hlesum hle38
          replace ha := ha.mono hle38
          replace h7 := h7.mono hle38
          replace h5 := h5.mono hle38
          replace h30 := h30.mono hle38
          replace h31 := h31.mono hle38
          replace h33 := h33.mono hle38
          obtain ⟨na9, A9, n9, c9, nb9, B9, m9, d9, rfl, h9⟩ := hp38
          refine stepT_tail ?_
          refine stepK_store 4 rfl rfl rfl rfl rfl rfl zf105 rfl rfl hst rfl (by first | (simp [uN_length]; omega) | simp) ?_
          clear hst
          intro w39 hst
          simp only [zL, splice, Nat.reduceAdd] at hst
          refine wpK_nil ?_
          refine join_end (((na9, A9, n9, c9, nb9, B9, m9, d9), b9)) ?_ ?_
          exact ⟨rfl, rfl, rfl, rfl, rfl, rfl, rfl, rfl, trivial⟩
          exact ⟨_, hst, ha, h5, h7, h9⟩
          exact stepT_no
          exact stepT_no
          exact stepT_no
          refine stepT_alloc rfl rfl rfl rfl rfl zf107 rfl hst0 hst hlesum (by repeat (first | exact zR _ | apply zC | apply zD)) ?_ ?_
          clear hst
          intro b9 w40 hst
          refine stepT_call rfl rfl rfl rfl rfl rfl hst0 hst hlesum (by repeat (first | exact zR _ | apply zC | apply zD)) (snum_Add hst.agree h7 h30 (by omega) (by omega)) ?_ ?_
          clear hst
          intro v41 g41 w41 hst hle41 hcs41 hp41
          replace hlesum := Mem.le.trans hlesum hle41
          replace ha := ha.mono hle41
          replace h7 := h7.mono hle41
          replace h5 := h5.mono hle41
          replace h30 := h30.mono hle41
          obtain ⟨_, _, l31, _, rfl, h31⟩ := hp41
          have l31b := h31.len (k := 1099511627776) (bcand_len sfl (by omega) (by omega))
          refine stepT_call rfl rfl rfl rfl rfl rfl hst0 hst hlesum (by repeat (first | exact zR _ | apply zC | apply zD)) (snum_FromInt hst.agree (x := (e : Int)) (by omega) (by omega)) ?_ ?_
          clear hst
          intro v42 g42 w42 hst hle42 hcs42 hp42
          replace hlesum := Mem.le.trans hlesum hle42
          replace ha := ha.mono hle42
          replace h7 := h7.mono hle42
          replace h5 := h5.mono hle42
          replace h30 := h30.mono hle42
          replace h31 := h31.mono hle42
          obtain ⟨_, _, l33, _, rfl, h33⟩ := hp42
          have l33b := h33.len (k := 1) (by omega)
          refine stepT_call rfl rfl rfl rfl rfl rfl hst0 hst hlesum (by repeat (first | exact zR _ | apply zC | apply zD)) (snum_Frac hst.agree h31 h33 (by omega) (by omega) (by omega)) ?_ ?_
          clear hst
          intro v43 g43 w43 hst hle43 hcs43 hp43
          replace hlesum := Mem.le.trans hlesum hle43
          replace ha := ha.mono hle43
          replace h7 := h7.mono hle43
          replace h5 := h5.mono hle43
          replace h30 := h30.mono hle43
          replace h31 := h31.mono hle43
          replace h33 := h33.mono hle43
          obtain ⟨na9, A9, n9, c9, nb9, B9, m9, d9, rfl, h9⟩ := hp43
          refine stepT_tail ?_
          refine stepK_store 4 rfl rfl rfl rfl rfl rfl zf105 rfl rfl hst rfl (by first | (simp [uN_length]; omega) | simp) ?_
          clear hst
          intro w44 hst
          simp only [zL, splice, Nat.reduceAdd] at hst
          refine wpK_nil ?_
          refine join_end (((na9, A9, n9, c9, nb9, B9, m9, d9), b9)) ?_ ?_
          exact ⟨rfl, rfl, rfl, rfl, rfl, rfl, rfl, rfl, trivial⟩
          exact ⟨_, hst, ha, h5, h7, h9⟩
          exact stepT_no
          exact stepT_no
          exact stepT_no
          exact stepT_no
          refine stepT_alloc rfl rfl rfl rfl rfl zf107 rfl hst0 hst (Mem.le.refl _) (by repeat (first | exact zR _ | apply zC | apply zD)) ?_ ?_
          clear hst
          intro b9 w45 hst
          refine stepT_call rfl rfl rfl rfl rfl rfl hst0 hst (Mem.le.refl _) (by repeat (first | exact zR _ | apply zC | apply zD)) (snum_FromInt hst.agree (x := (j : Int)) (by omega) (by omega)) ?_ ?_
          clear hst
          intro v46 g46 w46 hst hle46 hcs46 hp46
          have hlesum := hle46
          replace ha := ha.mono hle46
          replace h7 := h7.mono hle46
          replace h5 := h5.mono hle46
          obtain ⟨_, _, l30, _, rfl, h30⟩ := hp46
          have l30b := h30.len (k := 1) (by omega)
          refine stepT_call rfl rfl rfl rfl rfl rfl hst0 hst hlesum (by repeat (first | exact zR _ | apply zC | apply zD)) (snum_Add hst.agree h7 h30 (by omega) (by omega)) ?_ ?_
          clear hst
          intro v47 g47 w47 hst hle47 hcs47 hp47
          replace hlesum := Mem.le.trans hlesum hle47
          replace ha := ha.mono hle47
          replace h7 := h7.mono hle47
          replace h5 := h5.mono hle47
          replace h30 := h30.mono hle47
          obtain ⟨_, _, l31, _, rfl, h31⟩ := hp47
          have l31b := h31.len (k := 1099511627776) (bcand_len sfl (by omega) (by omega))
          refine stepT_call rfl rfl rfl rfl rfl rfl hst0 hst hlesum (by repeat (first | exact zR _ | apply zC | apply zD)) (snum_FromInt hst.agree (x := (e : Int)) (by omega) (by omega)) ?_ ?_
          clear hst
          intro v48 g48 w48 hst hle48 hcs48 hp48
          replace hlesum := Mem.le.trans hlesum hle48
          replace ha := ha.mono hle48
          replace h7 := h7.mono hle48
          replace h5 := h5.mono hle48
          replace h30 := h30.mono hle48
          replace h31 := h31.mono hle48
          obtain ⟨_, _, l33, _, rfl, h33⟩ := hp48
          have l33b := h33.len (k := 1) (by omega)
          refine stepT_call rfl rfl rfl rfl rfl rfl hst0 hst hlesum (by repeat (first | exact zR _ | apply zC | apply zD)) (snum_Frac hst.agree h31 h33 (by omega) (by omega) (by omega)) ?_ ?_
          clear hst
          intro v49 g49 w49 hst hle49 hcs49 hp49
          replace hlesum := Mem.le.trans hlesum hle49
          replace ha := ha.mono hle49
          replace h7 := h7.mono hle49
          replace h5 := h5.mono hle49
          replace h30 := h30.mono hle49
          replace h31 := h31.mono hle49
          replace h33 := h33.mono hle49
          obtain ⟨na9, A9, n9, c9, nb9, B9, m9, d9, rfl, h9⟩ := hp49
          refine stepT_tail ?_
          refine stepK_store 4 rfl rfl rfl rfl rfl rfl zf105 rfl rfl hst rfl (by first | (simp [uN_length]; omega) | simp) ?_
          clear hst
          intro w50 hst
          simp only [zL, splice, Nat.reduceAdd] at hst
          refine wpK_nil ?_
          refine join_end (((na9, A9, n9, c9, nb9, B9, m9, d9), b9)) ?_ ?_
          exact ⟨rfl, rfl, rfl, rfl, rfl, rfl, rfl, rfl, trivial⟩
          exact ⟨_, hst, ha, h5, h7, h9⟩
          exact stepT_no
          exact stepT_no
          exact stepT_no
          exact stepT_no
          exact stepT_no
        case d26 =>
          clear hst
          clear ha h5 h7
          rintro ⟨⟨na9, A9, n9, c9, nb9, B9, m9, d9⟩, b9⟩ w3 ⟨g3, hst, ha, h5, h7, h9⟩
          simp only
          have sc := bcand_sz (j := j) sfl (by omega) (by omega) (show e < 10 ^ 4 by omega)
          have fc := sc.fitH (by omega)
          have f5 := hsz5.fitH (by omega)
          have s1 := sc.sub hz
          have s2 := hsz5.sub hz
          refine cp_seq ?_
          refine cp_drawn (by kernel_rfl) 8 [(0, true), (1, true), (3, true), (4, true), (2, false), (5, false), (6, false), (7, true)] _ rfl (by kernel_rfl) (by kernel_rfl) (by kernel_rfl) (fun _ _ _ _ _ h => h) _ (hst.drew) ?_
          have hst0 := hst.drew
          clear hst
          have hst := hst0
          refine stepD_d rfl rfl rfl rfl (does_load_ownN 4 rfl (by kernel_rfl) zf105 rfl rfl rfl) ?_
          refine stepD_d rfl rfl rfl rfl (does_load_ownN 0 rfl (by kernel_rfl) zf105 rfl rfl rfl) ?_
          refine stepD_d rfl rfl rfl rfl (does_load_ownN 2 rfl (by kernel_rfl) zf105 rfl rfl rfl) ?_
          refine stepD_d rfl rfl rfl rfl (does_load_ownN 0 rfl (by kernel_rfl) zf105 rfl rfl rfl) ?_
          refine stepD_call rfl rfl rfl rfl rfl rfl hst (sref_distance hst.agree h9 ha fc fr (s1.fitH (by omega))) (fun _ _ h hle => St.older h hle (by simp) hst0.ext hst0.le) ?_
          clear hst
          intro v51 g51 w51 hst hle51 hcs51 hp51
          have hlesum := hle51
          replace ha := ha.mono hle51
          replace h5 := h5.mono hle51
          replace h7 := h7.mono hle51
          replace h9 := h9.mono hle51
          obtain ⟨na37, A37, n37, c37, nb37, B37, m37, d37, rfl, h37⟩ := hp51
          refine stepD_call rfl rfl rfl rfl rfl rfl hst (sref_distance hst.agree h5 ha f5 fr (s2.fitH (by omega))) (fun _ _ h hle => St.older h (Mem.le.trans hlesum hle) (by simp) hst0.ext hst0.le) ?_
          clear hst
          intro v52 g52 w52 hst hle52 hcs52 hp52
          replace hlesum := Mem.le.trans hlesum hle52
          replace ha := ha.mono hle52
          replace h5 := h5.mono hle52
          replace h7 := h7.mono hle52
          replace h9 := h9.mono hle52
          replace h37 := h37.mono hle52
          obtain ⟨na40, A40, n40, c40, nb40, B40, m40, d40, rfl, h40⟩ := hp52
          refine stepD_call rfl rfl rfl rfl rfl rfl hst (snum_RCmp hst.agree h37 h40 ((absR_sz s1).fitH (by omega)) ((absR_sz s2).fitH (by omega))) (fun _ _ h hle => St.older h (Mem.le.trans hlesum hle) (by simp) hst0.ext hst0.le) ?_
          clear hst
          intro v53 g53 w53 hst hle53 hcs53 hp53
          replace hlesum := Mem.le.trans hlesum hle53
          replace ha := ha.mono hle53
          replace h5 := h5.mono hle53
          replace h7 := h7.mono hle53
          replace h9 := h9.mono hle53
          replace h37 := h37.mono hle53
          replace h40 := h40.mono hle53
          obtain rfl := hp53
          refine stepD_d rfl rfl rfl rfl (does_assign rfl rfl) ?_
          refine stepD_tail ?_
          refine zn4 ?_
          refine zM rfl hst rfl ?_
          refine stepK_d rfl rfl rfl hst (does_lss rfl rfl rfl) ?_
          refine znt ?_
          refine cp_if rfl ?_ ?_
          intro c43
          refine cp_region ?_
          refine stepK_d rfl rfl rfl hst (does_load_ownN 4 rfl (by kernel_rfl) zf105 rfl rfl rfl) ?_
          refine stepK_store 2 rfl rfl rfl rfl rfl rfl zf105 rfl rfl hst rfl (by first | (simp [uN_length]; omega) | simp) ?_
          clear hst
          intro w54 hst
          simp only [zL, splice, Nat.reduceAdd] at hst
          refine wpK_nil ?_
          refine at_block_normal ?_
          refine cp_then ?_
          refine cp_region ?_
          refine zM rfl hst rfl ?_
          refine stepK_d rfl rfl rfl hst (Does.int (does_add rfl rfl rfl) (wrap_i64 (by omega) (by omega))) ?_
          refine zA rfl hst rfl ?_
          refine wpK_nil ?_
          refine round_end ((j + 1, (na9, A9, n9, c9, nb9, B9, m9, d9))) ?_ ?_ ?_
          exact ⟨rfl, rfl, rfl, rfl, rfl, rfl, rfl, trivial⟩
          exact ⟨_, hst.weaken _ (by simp), ha, h7, h9.to (bsteps_new (fun h => absurd (sgn_lt.1 c43) (fun h2 => h2 h)) ).symm, by rw [bsteps_new (sgn_lt.1 c43)]; exact sc, by omega⟩
          show 2 - (j + 1) < 2 - j
          omega
          intro c43
          refine cp_skip ?_
          refine at_block_normal ?_
          refine cp_then ?_
          refine cp_region ?_
          refine zM rfl hst rfl ?_
          refine stepK_d rfl rfl rfl hst (Does.int (does_add rfl rfl rfl) (wrap_i64 (by omega) (by omega))) ?_
          refine zA rfl hst rfl ?_
          refine wpK_nil ?_
          refine round_end ((j + 1, (na5, A5, n5, c5, nb5, B5, m5, d5))) ?_ ?_ ?_
          exact ⟨rfl, rfl, rfl, rfl, rfl, rfl, rfl, trivial⟩
          exact ⟨_, hst.weaken _ (by simp), ha, h7, h5.to (bsteps_old (Decidable.byContradiction fun h => c43 (sgn_lt.2 h))).symm, by rw [bsteps_old (Decidable.byContradiction fun h => c43 (sgn_lt.2 h))]; exact hsz5, by omega⟩
          show 2 - (j + 1) < 2 - j
          omega
        intro c25
        refine cp_exit ?_
        refine at_then_exit ?_
        refine at_then_exit ?_
        refine cp_exit_here ?_
        refine at_block_normal ?_
        refine cp_then ?_
        refine cp_region ?_
        refine zM rfl hst rfl ?_
        refine stepK_d rfl rfl rfl hst (Does.int (does_add rfl rfl rfl) (wrap_i64 (by omega) (by omega))) ?_
        refine zA rfl hst rfl ?_
        refine wpK_nil ?_
        obtain rfl : j = 2 := by omega
        refine round_end ((e + 1, bstep r e (bstep r e z 0) 1, (na5, A5, n5, c5, nb5, B5, m5, d5))) ?_ ?_ ?_
        exact ⟨rfl, rfl, rfl, rfl, rfl, trivial⟩
        exact ⟨_, hst.weaken _ (by simp), ha, h5, hg.step (by omega), hsz5, by omega, by omega⟩
        show L + 1 - (e + 1) < L + 1 - e
        omega
    intro c16
    refine cp_exit ?_
    refine at_then_exit ?_
    refine at_then_exit ?_
    refine cp_exit_here ?_
    refine cp_then ?_
    refine cp_seq ?_
    obtain rfl : e = L + 1 := by omega
    refine cp_region ?_
    refine stepK_d rfl rfl rfl hst (does_load_ownN 2 rfl (by kernel_rfl) zf105 rfl rfl rfl) ?_
    refine stepK_store 1 rfl rfl rfl rfl rfl rfl zf105 rfl rfl hst rfl (by first | (simp [uN_length]; omega) | simp) ?_
    clear hst
    intro w55 hst
    simp only [zL, splice, Nat.reduceAdd] at hst
    refine znt ?_
    refine cp_ret ?_
    refine ret1c (k := 1) rfl rfl (by kernel_rfl) (by kernel_rfl) rfl hst rfl ?_
    exact ⟨_, _, _, _, _, _, _, _, _, rfl, h5, hg.best hL0, hsz⟩

end Go.Proofs.YtnbcedkpkcgmkaaGreatDoor
