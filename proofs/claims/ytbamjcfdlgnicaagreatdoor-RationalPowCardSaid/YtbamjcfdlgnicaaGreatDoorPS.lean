/- A helper of the claim: general lemmas and walks of functions, printed by a program of this session. Conditions: none. -/
import Derived.Test.YtbamjcfdlgnicaaGreatDoorPA
import Derived.Test.YtbamjcfdlgnicaaGreatDoorP8
import Derived.Test.YtbamjcfdlgnicaaGreatDoorPC
import Derived.Test.YtbamjcfdlgnicaaGreatDoorPX
import Derived.Test.YtbamjcfdlgnicaaGreatDoorProg
import Derived.Test.YtbamjcfdlgnicaaGreatDoorQ1
import Derived.Test.YtbamjcfdlgnicaaGreatDoorP0
namespace Go.Proofs.YtbamjcfdlgnicaaGreatDoor
open Go Go.RowKit Go.Proofs.Vc
set_option linter.unusedVariables false
set_option linter.unusedSimpArgs false

set_option maxHeartbeats 1000000 in
theorem sref_Power {g : Mem} {w : World} (hag : Agree g w) {na nb : Bool} {A B : Option Addr} {n c m d : Nat} {r : Rat} (ha : IsQ g na A n nb B m r) {k e : Nat} (hz : Sz k r) (hk : k ≤ 100000000) (he : e ≤ 1000) :
    CallTo Tryz.prog 124 #[.agg #[.bool na, .slice A n c, .bool nb, .slice B m d], .int .i64 (e : Int)] w (Ret w g fun v g => ∃ na A n c nb B m d, v = .agg #[.bool na, .slice A n c, .bool nb, .slice B m d] ∧ IsQ g na A n nb B m (r ^ e)) := by
  refine CallTo.enter (vs := [.agg #[.bool na, .slice A n c, .bool nb, .slice B m d], .int .i64 (e : Int)]) zf172 (by kernel_rfl) rfl rfl rfl ?_
  have hst := St.init hag
  refine zsr ?_
  refine stepK_box rfl rfl rfl rfl rfl rfl hst ?_
  clear hst
  intro bx w1 hst
  refine stepK_alloc rfl rfl rfl rfl zf121 rfl hst ?_
  clear hst
  intro bz w2 hst
  refine zn4 ?_
  refine stepK_call rfl rfl rfl rfl rfl hst (snum_R hst.agree (x := 1) (by decide) (by decide)) ?_
  clear hst
  intro v3 g3 w3 hst hle3 hcs3 hp3
  replace ha := ha.mono hle3
  obtain ⟨nao, Ao, no, co, nbo, Bo, mo, dd, rfl, h1⟩ := hp3
  refine stepK_alloc rfl rfl rfl rfl zf121 rfl hst ?_
  clear hst
  intro bo w4 hst
  refine stepK_store 2 rfl rfl rfl rfl rfl rfl zf119 rfl rfl hst rfl (by first | (simp [uN_length]; omega) | simp) ?_
  clear hst
  intro w5 hst
  simp only [zL, splice, Nat.reduceAdd] at hst
  refine znq ?_
  refine cp_block ?_
  refine cp_loop (ι := (Bool × Option Addr × Nat × Nat × Bool × Option Addr × Nat × Nat) × (Bool × Option Addr × Nat × Nat × Bool × Option Addr × Nat × Nat) × Nat × Nat × Nat) (fun ((na1, A1, n1, c1, nb1, B1, m1, d1), (na3, A3, n3, c3, nb3, B3, m3, d3), i, f, j) => [(1, .int .i64 (j : Int)), (2, .pointer (some ⟨bx, 0, none⟩)), (4, .pointer (some ⟨bz, 0, none⟩)), (5, .pointer (some ⟨bo, 0, none⟩))]) (fun ((na1, A1, n1, c1, nb1, B1, m1, d1), (na3, A3, n3, c3, nb3, B3, m3, d3), i, f, j) w1 => ∃ g1, St w [] g g1 [(bx, .cells #[.bool na1, .slice A1 n1 c1, .bool nb1, .slice B1 m1 d1] 30 (0, 0)), (bz, .cells #[.bool false, .slice none 0 0, .bool false, .slice none 0 0] 30 (0, 0)), (bo, .cells #[.bool na3, .slice A3 n3 c3, .bool nb3, .slice B3 m3 d3] 30 (0, 0))] w1 ∧ IsQ g1 na1 A1 n1 nb1 B1 m1 (r ^ i) ∧ IsQ g1 na3 A3 n3 nb3 B3 m3 (r ^ f) ∧ i * j + f = e ∧ j ≤ e ∧ 0 < i ∧ i ≤ 2 * e + 1 ∧ (0 < j → i ≤ e)) (fun ((na1, A1, n1, c1, nb1, B1, m1, d1), (na3, A3, n3, c3, nb3, B3, m3, d3), i, f, j) => j) ((na, A, n, c, nb, B, m, d), (nao, Ao, no, co, nbo, Bo, mo, dd), 1, 0, e) ?k6 ?i6 ?r6
  case k6 => exact ⟨rfl, rfl, rfl, rfl, trivial⟩
  case i6 =>
    exact ⟨_, hst, ha.to (Rat.pow_one r).symm, h1.to (by rw [Rat.pow_zero]; rfl), by omega, Nat.le_refl _, by decide, by omega, fun h => h⟩
  case r6 =>
    clear hst
    rintro ⟨⟨na1, A1, n1, c1, nb1, B1, m1, d1⟩, ⟨na3, A3, n3, c3, nb3, B3, m3, d3⟩, i, f, j⟩ w1 ⟨g1, hst, hx, ho, hij, hje, hi0, hi2, hie⟩
    refine cp_seq ?_
    refine zsr ?_
    refine zM rfl hst rfl ?_
    refine stepK_d rfl rfl rfl hst (does_gtr rfl rfl rfl) ?_
    refine znt ?_
    refine cp_if rfl ?_ ?_
    · intro c8
      have hj0 : 0 < j := by omega
      have fi := (pow_sz hz i).fitH (by have := hie hj0; have := Nat.mul_le_mul hk (show i ≤ 1000 by omega); omega)
      refine cp_skip ?_
      refine cp_then ?_
      refine cp_block ?_
      refine cp_seq ?_
      refine zsr ?_
      refine zM rfl hst rfl ?_
      refine stepK_d rfl rfl rfl hst (Does.nat (b := j % 2) (does_rem_p (b := 2) rfl rfl rfl (by omega)) rfl) ?_
      refine stepK_d rfl rfl rfl hst (does_eql rfl rfl rfl) ?_
      refine znt ?_
      refine cp_if rfl ?_ ?_
      · intro c11
        have c11n : j % 2 = 1 := by omega
        have ff := (pow_sz hz f).fitH (by have := Nat.mul_le_mul hk (show f ≤ 1000 by omega); omega)
        refine cp_region ?_
        refine stepK_d rfl rfl rfl hst (does_load_ownN 2 rfl (by kernel_rfl) zf119 rfl rfl rfl) ?_
        refine stepK_d rfl rfl rfl hst (does_load_ownN 0 rfl (by kernel_rfl) zf119 rfl rfl rfl) ?_
        refine stepK_call rfl rfl rfl rfl rfl hst (snum_RMul hst.agree ho hx ff fi) ?_
        clear hst
        intro v7 g7 w7 hst hle7 hcs7 hp7
        replace hx := hx.mono hle7
        replace ho := ho.mono hle7
        obtain ⟨na8, A8, n8, c8, nb8, B8, m8, d8, rfl, h8⟩ := hp7
        refine stepK_store 2 rfl rfl rfl rfl rfl rfl zf119 rfl rfl hst rfl (by first | (simp [uN_length]; omega) | simp) ?_
        clear hst
        intro w8 hst
        simp only [zL, splice, Nat.reduceAdd] at hst
        refine zn3 ?_
        refine stepK_d rfl rfl rfl hst (does_load_ownN 0 rfl (by kernel_rfl) zf119 rfl rfl rfl) ?_
        refine stepK_d rfl rfl rfl hst (does_load_ownN 0 rfl (by kernel_rfl) zf119 rfl rfl rfl) ?_
        refine stepK_call rfl rfl rfl rfl rfl hst (snum_RMul hst.agree hx hx fi fi) ?_
        clear hst
        intro v9 g9 w9 hst hle9 hcs9 hp9
        replace hx := hx.mono hle9
        replace ho := ho.mono hle9
        replace h8 := h8.mono hle9
        obtain ⟨na9, A9, n9, c9, nb9, B9, m9, d9, rfl, h9⟩ := hp9
        refine zM rfl hst rfl ?_
        refine stepK_d rfl rfl rfl hst (Does.nat (b := j / 2) (does_quo_p (b := 2) rfl rfl rfl (by omega) (by omega)) rfl) ?_
        refine stepK_store 0 rfl rfl rfl rfl rfl rfl zf119 rfl rfl hst rfl (by first | (simp [uN_length]; omega) | simp) ?_
        clear hst
        intro w10 hst
        simp only [zL, splice, Nat.reduceAdd] at hst
        refine zA rfl hst rfl ?_
        refine wpK_nil ?_
        refine at_block_normal ?_
        obtain ⟨hp1, hp2⟩ := half_odd hij c11n
        refine round_end (((na9, A9, n9, c9, nb9, B9, m9, d9), (na8, A8, n8, c8, nb8, B8, m8, d8), i + i, f + i, j / 2)) ?_ ?_ ?_
        · exact ⟨rfl, rfl, rfl, rfl, trivial⟩
        · exact ⟨_, hst, h9.to (rpow_add ..).symm, h8.to (rpow_add ..).symm, by rw [Nat.add_mul]; omega, by omega, by omega, by have := hie hj0; omega, fun h => half_le hij (by omega)⟩
        · show j / 2 < j
          omega
      · intro c11
        have c11n : j % 2 = 0 := by omega
        refine cp_skip ?_
        refine cp_then ?_
        refine cp_region ?_
        refine stepK_d rfl rfl rfl hst (does_load_ownN 0 rfl (by kernel_rfl) zf119 rfl rfl rfl) ?_
        refine stepK_d rfl rfl rfl hst (does_load_ownN 0 rfl (by kernel_rfl) zf119 rfl rfl rfl) ?_
        refine stepK_call rfl rfl rfl rfl rfl hst (snum_RMul hst.agree hx hx fi fi) ?_
        clear hst
        intro v11 g11 w11 hst hle11 hcs11 hp11
        replace hx := hx.mono hle11
        replace ho := ho.mono hle11
        obtain ⟨na9, A9, n9, c9, nb9, B9, m9, d9, rfl, h9⟩ := hp11
        refine zM rfl hst rfl ?_
        refine stepK_d rfl rfl rfl hst (Does.nat (b := j / 2) (does_quo_p (b := 2) rfl rfl rfl (by omega) (by omega)) rfl) ?_
        refine stepK_store 0 rfl rfl rfl rfl rfl rfl zf119 rfl rfl hst rfl (by first | (simp [uN_length]; omega) | simp) ?_
        clear hst
        intro w12 hst
        simp only [zL, splice, Nat.reduceAdd] at hst
        refine zA rfl hst rfl ?_
        refine wpK_nil ?_
        refine at_block_normal ?_
        obtain ⟨hp1, hp2⟩ := half_even hij c11n
        refine round_end (((na9, A9, n9, c9, nb9, B9, m9, d9), (na3, A3, n3, c3, nb3, B3, m3, d3), i + i, f, j / 2)) ?_ ?_ ?_
        · exact ⟨rfl, rfl, rfl, rfl, trivial⟩
        · exact ⟨_, hst, h9.to (rpow_add ..).symm, ho, by rw [Nat.add_mul]; omega, by omega, by omega, by have := hie hj0; omega, fun h => half_le hij (by omega)⟩
        · show j / 2 < j
          omega
    · intro c8
      refine cp_exit ?_
      refine at_then_exit ?_
      refine at_then_exit ?_
      refine cp_exit_here ?_
      refine cp_then ?_
      refine zsr ?_
      refine stepK_d rfl rfl rfl hst (does_load_ownN 2 rfl (by kernel_rfl) zf119 rfl rfl rfl) ?_
      refine stepK_store 1 rfl rfl rfl rfl rfl rfl zf119 rfl rfl hst rfl (by first | (simp [uN_length]; omega) | simp) ?_
      clear hst
      intro w13 hst
      simp only [zL, splice, Nat.reduceAdd] at hst
      refine znt ?_
      refine cp_ret ?_
      refine ret1c (k := 1) rfl rfl (by kernel_rfl) (by kernel_rfl) rfl hst rfl ?_
      obtain rfl : j = 0 := by omega
      exact ⟨_, _, _, _, _, _, _, _, rfl, ho.to (by rw [← hij, Nat.mul_zero, Nat.zero_add])⟩

end Go.Proofs.YtbamjcfdlgnicaaGreatDoor

namespace Go.Proofs.YtbamjcfdlgnicaaGreatDoor
open Go Go.RowKit Go.Proofs.Vc
set_option linter.unusedVariables false
set_option linter.unusedSimpArgs false

set_option maxHeartbeats 1000000 in
theorem sref_Pow {g : Mem} {w : World} (hag : Agree g w) {a : ByteArray} (ha : a.size < 50000) {n : Int} :
    CallTo Tryz.prog 61 #[.string a, .int .i64 n] w (Ret w g fun v g => v = .tuple #[.string (if ((-1000 ≤ n ∧ n ≤ 1000) ∧ ¬ (n < 0 ∧ getR a = 0)) then ratS (powR (getR a) n) else ⟨#[]⟩), .bool (decide ((-1000 ≤ n ∧ n ≤ 1000) ∧ ¬ (n < 0 ∧ getR a = 0)))]) := by
  refine CallTo.enter (vs := [.string a, .int .i64 n]) zf173 (by kernel_rfl) rfl rfl rfl ?_
  have hst := St.init hag
  have sa := getR_sz a
  have fa := sa.fitH (by omega)
  refine zsr ?_
  refine zA rfl hst rfl ?_
  refine zA rfl hst rfl ?_
  refine zn4 ?_
  refine zM rfl hst rfl ?_
  refine stepK_call rfl rfl rfl rfl rfl hst (snum_Num hst.agree (by omega)) ?_
  clear hst
  intro v1 g1 w1 hst hle1 hcs1 hp1
  obtain ⟨na, A, ln, c, nb, B, m, d, rfl, hx⟩ := hp1
  refine stepK_alloc rfl rfl rfl rfl zf121 rfl hst ?_
  clear hst
  intro bx w2 hst
  refine stepK_store 0 rfl rfl rfl rfl rfl rfl zf119 rfl rfl hst rfl (by first | (simp [uN_length]; omega) | simp) ?_
  clear hst
  intro w3 hst
  simp only [zL, splice, Nat.reduceAdd] at hst
  refine znq ?_
  refine zsr ?_
  refine zM rfl hst rfl ?_
  refine stepK_d rfl rfl rfl hst (does_lss rfl rfl rfl) ?_
  refine zM rfl hst rfl ?_
  refine wpK_split (t := 11) rfl ?_ ?_
  · intro s11
    have hno : ¬ ((-1000 ≤ n ∧ n ≤ 1000) ∧ ¬ (n < 0 ∧ getR a = 0)) := fun h => by have := h.1; omega
    refine stepK_pass rfl rfl rfl rfl rfl rfl rfl ?_
    refine stepK_pass rfl rfl rfl rfl rfl rfl rfl ?_
    refine stepK_d rfl rfl rfl hst (does_pick_true rfl rfl rfl) ?_
    refine zM rfl hst rfl ?_
    refine stepK_pass rfl rfl rfl rfl rfl rfl rfl ?_
    refine stepK_pass rfl rfl rfl rfl rfl rfl rfl ?_
    refine stepK_pass rfl rfl rfl rfl rfl rfl rfl ?_
    refine stepK_passU rfl rfl rfl rfl rfl rfl ?_
    refine stepK_passU rfl rfl rfl rfl rfl rfl ?_
    refine stepK_passU rfl rfl rfl rfl rfl rfl ?_
    refine stepK_pass rfl rfl rfl rfl rfl rfl rfl ?_
    refine stepK_d rfl rfl rfl hst (does_pick_true rfl rfl rfl) ?_
    refine znt ?_
    refine cp_cond_true rfl ?_
    refine zsr ?_
    refine zA rfl hst rfl ?_
    refine zA rfl hst rfl ?_
    refine zn5 ?_
    refine ret2 rfl rfl rfl hst ?_
    first
    | rw [if_neg hno, decide_eq_false hno]
    | rw [if_pos hyes, decide_eq_true hyes]
  · intro s11
    refine stepK_guard rfl rfl rfl rfl rfl rfl hst (does_move rfl rfl) ?_
    refine stepK_guard rfl rfl rfl rfl rfl rfl hst (does_gtr rfl rfl rfl) ?_
    refine stepK_d rfl rfl rfl hst (does_pick_false rfl rfl rfl) ?_
    refine zM rfl hst rfl ?_
    refine wpK_split (t := 15) rfl ?_ ?_
    · intro s15
      have hno : ¬ ((-1000 ≤ n ∧ n ≤ 1000) ∧ ¬ (n < 0 ∧ getR a = 0)) := fun h => by have := h.1; omega
      refine stepK_pass rfl rfl rfl rfl rfl rfl rfl ?_
      refine stepK_pass rfl rfl rfl rfl rfl rfl rfl ?_
      refine stepK_pass rfl rfl rfl rfl rfl rfl rfl ?_
      refine stepK_passU rfl rfl rfl rfl rfl rfl ?_
      refine stepK_passU rfl rfl rfl rfl rfl rfl ?_
      refine stepK_passU rfl rfl rfl rfl rfl rfl ?_
      refine stepK_pass rfl rfl rfl rfl rfl rfl rfl ?_
      refine stepK_d rfl rfl rfl hst (does_pick_true rfl rfl rfl) ?_
      refine znt ?_
      refine cp_cond_true rfl ?_
      refine zsr ?_
      refine zA rfl hst rfl ?_
      refine zA rfl hst rfl ?_
      refine zn5 ?_
      refine ret2 rfl rfl rfl hst ?_
      first
      | rw [if_neg hno, decide_eq_false hno]
      | rw [if_pos hyes, decide_eq_true hyes]
    · intro s15
      have hb1 : -1000 ≤ n ∧ n ≤ 1000 := by omega
      refine stepK_guard rfl rfl rfl rfl rfl rfl hst (does_move rfl rfl) ?_
      refine stepK_guard rfl rfl rfl rfl rfl rfl hst (does_lss rfl rfl rfl) ?_
      refine stepK_guard rfl rfl rfl rfl rfl rfl hst (does_move rfl rfl) ?_
      refine wpK_split (t := 18) rfl ?_ ?_
      · intro s18
        refine stepK_guard rfl rfl rfl rfl rfl rfl hst (does_load_ownN 0 rfl (by kernel_rfl) zf119 rfl rfl rfl) ?_
        refine stepK_call_guard rfl rfl rfl rfl rfl rfl rfl rfl hst (snum_RSign hst.agree hx) ?_
        clear hst
        intro v4 g4 w4 hst hle4 hcs4 hp4
        replace hx := hx.mono hle4
        obtain rfl := hp4
        refine stepK_guard rfl rfl rfl rfl rfl rfl hst (does_eql rfl rfl rfl) ?_
        refine stepK_guard rfl rfl rfl rfl rfl rfl hst (does_pick_true rfl rfl rfl) ?_
        refine stepK_d rfl rfl rfl hst (does_pick_false rfl rfl rfl) ?_
        refine znt ?_
        refine cp_if rfl ?_ ?_
        · intro c23
          have hno : ¬ ((-1000 ≤ n ∧ n ≤ 1000) ∧ ¬ (n < 0 ∧ getR a = 0)) := fun h => by first | (have := h.1; omega) | exact h.2 ⟨s18, Rat.num_eq_zero.1 (Int.sign_eq_zero_iff_zero.1 c23)⟩
          refine zsr ?_
          refine zA rfl hst rfl ?_
          refine zA rfl hst rfl ?_
          refine zn5 ?_
          refine ret2 rfl rfl rfl hst ?_
          first
          | rw [if_neg hno, decide_eq_false hno]
          | rw [if_pos hyes, decide_eq_true hyes]
        · intro c23
          have hyes : ((-1000 ≤ n ∧ n ≤ 1000) ∧ ¬ (n < 0 ∧ getR a = 0)) := ⟨hb1, fun h => by first | exact c23 (by rw [h.2]; rfl) | exact s18 h.1⟩
          refine cp_skip ?_
          refine cp_then ?_
          refine cp_join (ι := (Bool × Option Addr × Nat × Nat × Bool × Option Addr × Nat × Nat) × Rat × Nat) (fun ((na1, A1, n1, c1, nb1, B1, m1, d1), ρ, e) => [(1, .int .i64 (e : Int)), (6, .pointer (some ⟨bx, 0, none⟩))]) (fun ((na1, A1, n1, c1, nb1, B1, m1, d1), ρ, e) w2 => ∃ g2, St w [] g g2 [(bx, .cells #[.bool na1, .slice A1 n1 c1, .bool nb1, .slice B1 m1 d1] 30 (0, 0))] w2 ∧ IsQ g2 na1 A1 n1 nb1 B1 m1 ρ ∧ Sz (a.size + 1) ρ ∧ e ≤ 1000 ∧ ρ ^ e = powR (getR a) n) ?c5 ?d5
          case c5 =>
            refine zsr ?_
            refine zM rfl hst rfl ?_
            refine stepK_d rfl rfl rfl hst (does_lss rfl rfl rfl) ?_
            refine znt ?_
            refine cp_if rfl ?_ ?_
            · intro c25
              refine cp_drawnT (by kernel_rfl) 7 (.d 3 (.d 4 (.e 0 (.e 1 (.e 2 (.e 5 (.d 6 .fin) .no) .no) .no) (.e 1 (.e 0 (.e 2 (.e 5 (.d 6 .fin) .no) .no) .no) .no)))) _ rfl (by kernel_rfl) (by kernel_rfl) (by kernel_rfl) (fun _ _ _ _ _ h => h) _ (hst.drew.without 0) ?_
              have hst0 := (hst.drew.without 0)
              have hst9 := hst.drew
              clear hst
              have hst := hst9
              clear hst9
              refine stepT_d rfl rfl rfl rfl (does_move rfl rfl) ?_
              refine stepT_d rfl rfl rfl rfl (Does.int (does_neg rfl rfl) (wrap_i64 (by omega) (by omega))) ?_
              refine stepT_call rfl rfl rfl rfl rfl rfl hst0 hst (Mem.le.refl _) (by repeat (first | exact List.Sublist.slnil | exact List.Sublist.refl _ | apply List.Sublist.cons_cons | apply List.Sublist.cons)) (snum_R hst.agree (x := 1) (by decide) (by decide)) ?_ ?_
              · skip
                clear hst
                intro v6 g6 w6 hst hle6 hcs6 hp6
                have hlesum := hle6
                replace hx := hx.mono hle6
                obtain ⟨na5, A5, n5, c5, nb5, B5, m5, d5, rfl, h5⟩ := hp6
                refine stepT_do rfl rfl rfl rfl hst0 hst hlesum (by repeat (first | exact List.Sublist.slnil | exact List.Sublist.refl _ | apply List.Sublist.cons_cons | apply List.Sublist.cons)) (does_load_ownN 0 rfl (by kernel_rfl) zf119 rfl rfl rfl) ?_ ?_
                · skip
                  refine stepT_call rfl rfl rfl rfl rfl rfl hst0 hst hlesum (by repeat (first | exact List.Sublist.slnil | exact List.Sublist.refl _ | apply List.Sublist.cons_cons | apply List.Sublist.cons)) (snum_RDiv hst.agree h5 hx ((int_sz (x := 1) (by decide) (by decide)).fitH (by decide)) fa) ?_ ?_
                  · skip
                    clear hst
                    intro v7 g7 w7 hst hle7 hcs7 hp7
                    replace hlesum := Mem.le.trans hlesum hle7
                    replace hx := hx.mono hle7
                    replace h5 := h5.mono hle7
                    obtain ⟨na6, A6, n6, c6, nb6, B6, m6, d6, rfl, h6⟩ := hp7
                    refine stepT_store 0 rfl rfl rfl rfl rfl rfl rfl zf119 rfl rfl hst0 hst rfl (by first | (simp [uN_length]; omega) | simp) hlesum (by repeat (first | exact List.Sublist.slnil | exact List.Sublist.refl _ | apply List.Sublist.cons_cons | apply List.Sublist.cons)) ?_ ?_
                    · skip
                      clear hst
                      intro w8 hst
                      simp only [zL, splice, Nat.reduceAdd] at hst
                      refine stepT_d rfl rfl rfl rfl (does_assign rfl rfl) ?_
                      refine stepT_tail ?_
                      refine wpK_nil ?_
                      refine join_end (((na6, A6, n6, c6, nb6, B6, m6, d6), (getR a)⁻¹, n.natAbs)) ?_ ?_
                      · exact ⟨kint (by omega), rfl, trivial⟩
                      · exact ⟨_, hst, h6.to (by rw [Rat.div_def]; exact Rat.one_mul _), sa.inv, by omega, by unfold powR; rw [if_pos (by omega)]⟩
                    · skip
                      exact stepT_no
                  · skip
                    exact stepT_no
                · skip
                  exact stepT_no
              · skip
                refine stepT_do rfl rfl rfl rfl hst0 hst (Mem.le.refl _) (by repeat (first | exact List.Sublist.slnil | exact List.Sublist.refl _ | apply List.Sublist.cons_cons | apply List.Sublist.cons)) (does_load_ownN 0 rfl (by kernel_rfl) zf119 rfl rfl rfl) ?_ ?_
                · skip
                  refine stepT_call rfl rfl rfl rfl rfl rfl hst0 hst (Mem.le.refl _) (by repeat (first | exact List.Sublist.slnil | exact List.Sublist.refl _ | apply List.Sublist.cons_cons | apply List.Sublist.cons)) (snum_R hst.agree (x := 1) (by decide) (by decide)) ?_ ?_
                  · skip
                    clear hst
                    intro v9 g9 w9 hst hle9 hcs9 hp9
                    have hlesum := hle9
                    replace hx := hx.mono hle9
                    obtain ⟨na5, A5, n5, c5, nb5, B5, m5, d5, rfl, h5⟩ := hp9
                    refine stepT_call rfl rfl rfl rfl rfl rfl hst0 hst hlesum (by repeat (first | exact List.Sublist.slnil | exact List.Sublist.refl _ | apply List.Sublist.cons_cons | apply List.Sublist.cons)) (snum_RDiv hst.agree h5 hx ((int_sz (x := 1) (by decide) (by decide)).fitH (by decide)) fa) ?_ ?_
                    · skip
                      clear hst
                      intro v10 g10 w10 hst hle10 hcs10 hp10
                      replace hlesum := Mem.le.trans hlesum hle10
                      replace hx := hx.mono hle10
                      replace h5 := h5.mono hle10
                      obtain ⟨na6, A6, n6, c6, nb6, B6, m6, d6, rfl, h6⟩ := hp10
                      refine stepT_store 0 rfl rfl rfl rfl rfl rfl rfl zf119 rfl rfl hst0 hst rfl (by first | (simp [uN_length]; omega) | simp) hlesum (by repeat (first | exact List.Sublist.slnil | exact List.Sublist.refl _ | apply List.Sublist.cons_cons | apply List.Sublist.cons)) ?_ ?_
                      · skip
                        clear hst
                        intro w11 hst
                        simp only [zL, splice, Nat.reduceAdd] at hst
                        refine stepT_d rfl rfl rfl rfl (does_assign rfl rfl) ?_
                        refine stepT_tail ?_
                        refine wpK_nil ?_
                        refine join_end (((na6, A6, n6, c6, nb6, B6, m6, d6), (getR a)⁻¹, n.natAbs)) ?_ ?_
                        · exact ⟨kint (by omega), rfl, trivial⟩
                        · exact ⟨_, hst, h6.to (by rw [Rat.div_def]; exact Rat.one_mul _), sa.inv, by omega, by unfold powR; rw [if_pos (by omega)]⟩
                      · skip
                        exact stepT_no
                    · skip
                      exact stepT_no
                  · skip
                    exact stepT_no
                · skip
                  exact stepT_no
            · intro c25
              refine cp_skip ?_
              refine join_end (((na, A, ln, c, nb, B, m, d), getR a, n.natAbs)) ?_ ?_
              · exact ⟨kint (by omega), rfl, trivial⟩
              · exact ⟨_, hst, hx, sa, by omega, by unfold powR; rw [if_neg (by omega)]⟩
          case d5 =>
            clear hst
            rintro ⟨⟨na1, A1, n1, c1, nb1, B1, m1, d1⟩, ρ, e⟩ w2 ⟨g2, hst, hq, hs1, he, hpw⟩
            simp only
            have hke : (a.size + 1) * e ≤ 50000 * 1000 := Nat.mul_le_mul (by omega) (by omega)
            refine zsr ?_
            refine stepK_d rfl rfl rfl hst (does_load_ownN 0 rfl (by kernel_rfl) zf119 rfl rfl rfl) ?_
            refine zM rfl hst rfl ?_
            refine stepK_call rfl rfl rfl rfl rfl hst (sref_Power hst.agree hq hs1 (by omega) he) ?_
            clear hst
            intro v12 g12 w12 hst hle12 hcs12 hp12
            replace hq := hq.mono hle12
            obtain ⟨_, _, _, _, _, _, _, _, rfl, hq9⟩ := hp12
            replace hq9 := hq9.to hpw
            refine stepK_call rfl rfl rfl rfl rfl hst (snum_Text hst.agree hq9 (by rw [← hpw]; exact (pow_sz hs1 e).fitH (by omega))) ?_
            clear hst
            intro v13 g13 w13 hst hle13 hcs13 hp13
            replace hq := hq.mono hle13
            replace hq9 := hq9.mono hle13
            obtain rfl := hp13
            refine zA rfl hst rfl ?_
            refine zA rfl hst rfl ?_
            refine znt ?_
            refine cp_ret ?_
            refine ret2 rfl rfl rfl hst ?_
            first
            | rw [if_neg hno, decide_eq_false hno]
            | rw [if_pos hyes, decide_eq_true hyes]
      · intro s18
        have hyes : ((-1000 ≤ n ∧ n ≤ 1000) ∧ ¬ (n < 0 ∧ getR a = 0)) := ⟨hb1, fun h => s18 h.1⟩
        refine stepK_pass rfl rfl rfl rfl rfl rfl rfl ?_
        refine stepK_pass rfl rfl rfl rfl rfl rfl rfl ?_
        refine stepK_pass rfl rfl rfl rfl rfl rfl rfl ?_
        refine stepK_guard rfl rfl rfl rfl rfl rfl hst (does_pick_false rfl rfl rfl) ?_
        refine stepK_d rfl rfl rfl hst (does_pick_false rfl rfl rfl) ?_
        refine znt ?_
        refine cp_cond_false rfl ?_
        refine cp_skip ?_
        refine cp_then ?_
        refine cp_join (ι := (Bool × Option Addr × Nat × Nat × Bool × Option Addr × Nat × Nat) × Rat × Nat) (fun ((na1, A1, n1, c1, nb1, B1, m1, d1), ρ, e) => [(1, .int .i64 (e : Int)), (6, .pointer (some ⟨bx, 0, none⟩))]) (fun ((na1, A1, n1, c1, nb1, B1, m1, d1), ρ, e) w2 => ∃ g2, St w [] g g2 [(bx, .cells #[.bool na1, .slice A1 n1 c1, .bool nb1, .slice B1 m1 d1] 30 (0, 0))] w2 ∧ IsQ g2 na1 A1 n1 nb1 B1 m1 ρ ∧ Sz (a.size + 1) ρ ∧ e ≤ 1000 ∧ ρ ^ e = powR (getR a) n) ?c14 ?d14
        case c14 =>
          refine zsr ?_
          refine zM rfl hst rfl ?_
          refine stepK_d rfl rfl rfl hst (does_lss rfl rfl rfl) ?_
          refine znt ?_
          refine cp_if rfl ?_ ?_
          · intro c25
            refine cp_drawnT (by kernel_rfl) 7 (.d 3 (.d 4 (.e 0 (.e 1 (.e 2 (.e 5 (.d 6 .fin) .no) .no) .no) (.e 1 (.e 0 (.e 2 (.e 5 (.d 6 .fin) .no) .no) .no) .no)))) _ rfl (by kernel_rfl) (by kernel_rfl) (by kernel_rfl) (fun _ _ _ _ _ h => h) _ (hst.drew.without 0) ?_
            have hst0 := (hst.drew.without 0)
            have hst9 := hst.drew
            clear hst
            have hst := hst9
            clear hst9
            refine stepT_d rfl rfl rfl rfl (does_move rfl rfl) ?_
            refine stepT_d rfl rfl rfl rfl (Does.int (does_neg rfl rfl) (wrap_i64 (by omega) (by omega))) ?_
            refine stepT_call rfl rfl rfl rfl rfl rfl hst0 hst (Mem.le.refl _) (by repeat (first | exact List.Sublist.slnil | exact List.Sublist.refl _ | apply List.Sublist.cons_cons | apply List.Sublist.cons)) (snum_R hst.agree (x := 1) (by decide) (by decide)) ?_ ?_
            · skip
              clear hst
              intro v15 g15 w15 hst hle15 hcs15 hp15
              have hlesum := hle15
              replace hx := hx.mono hle15
              obtain ⟨na5, A5, n5, c5, nb5, B5, m5, d5, rfl, h5⟩ := hp15
              refine stepT_do rfl rfl rfl rfl hst0 hst hlesum (by repeat (first | exact List.Sublist.slnil | exact List.Sublist.refl _ | apply List.Sublist.cons_cons | apply List.Sublist.cons)) (does_load_ownN 0 rfl (by kernel_rfl) zf119 rfl rfl rfl) ?_ ?_
              · skip
                refine stepT_call rfl rfl rfl rfl rfl rfl hst0 hst hlesum (by repeat (first | exact List.Sublist.slnil | exact List.Sublist.refl _ | apply List.Sublist.cons_cons | apply List.Sublist.cons)) (snum_RDiv hst.agree h5 hx ((int_sz (x := 1) (by decide) (by decide)).fitH (by decide)) fa) ?_ ?_
                · skip
                  clear hst
                  intro v16 g16 w16 hst hle16 hcs16 hp16
                  replace hlesum := Mem.le.trans hlesum hle16
                  replace hx := hx.mono hle16
                  replace h5 := h5.mono hle16
                  obtain ⟨na6, A6, n6, c6, nb6, B6, m6, d6, rfl, h6⟩ := hp16
                  refine stepT_store 0 rfl rfl rfl rfl rfl rfl rfl zf119 rfl rfl hst0 hst rfl (by first | (simp [uN_length]; omega) | simp) hlesum (by repeat (first | exact List.Sublist.slnil | exact List.Sublist.refl _ | apply List.Sublist.cons_cons | apply List.Sublist.cons)) ?_ ?_
                  · skip
                    clear hst
                    intro w17 hst
                    simp only [zL, splice, Nat.reduceAdd] at hst
                    refine stepT_d rfl rfl rfl rfl (does_assign rfl rfl) ?_
                    refine stepT_tail ?_
                    refine wpK_nil ?_
                    refine join_end (((na6, A6, n6, c6, nb6, B6, m6, d6), (getR a)⁻¹, n.natAbs)) ?_ ?_
                    · exact ⟨kint (by omega), rfl, trivial⟩
                    · exact ⟨_, hst, h6.to (by rw [Rat.div_def]; exact Rat.one_mul _), sa.inv, by omega, by unfold powR; rw [if_pos (by omega)]⟩
                  · skip
                    exact stepT_no
                · skip
                  exact stepT_no
              · skip
                exact stepT_no
            · skip
              refine stepT_do rfl rfl rfl rfl hst0 hst (Mem.le.refl _) (by repeat (first | exact List.Sublist.slnil | exact List.Sublist.refl _ | apply List.Sublist.cons_cons | apply List.Sublist.cons)) (does_load_ownN 0 rfl (by kernel_rfl) zf119 rfl rfl rfl) ?_ ?_
              · skip
                refine stepT_call rfl rfl rfl rfl rfl rfl hst0 hst (Mem.le.refl _) (by repeat (first | exact List.Sublist.slnil | exact List.Sublist.refl _ | apply List.Sublist.cons_cons | apply List.Sublist.cons)) (snum_R hst.agree (x := 1) (by decide) (by decide)) ?_ ?_
                · skip
                  clear hst
                  intro v18 g18 w18 hst hle18 hcs18 hp18
                  have hlesum := hle18
                  replace hx := hx.mono hle18
                  obtain ⟨na5, A5, n5, c5, nb5, B5, m5, d5, rfl, h5⟩ := hp18
                  refine stepT_call rfl rfl rfl rfl rfl rfl hst0 hst hlesum (by repeat (first | exact List.Sublist.slnil | exact List.Sublist.refl _ | apply List.Sublist.cons_cons | apply List.Sublist.cons)) (snum_RDiv hst.agree h5 hx ((int_sz (x := 1) (by decide) (by decide)).fitH (by decide)) fa) ?_ ?_
                  · skip
                    clear hst
                    intro v19 g19 w19 hst hle19 hcs19 hp19
                    replace hlesum := Mem.le.trans hlesum hle19
                    replace hx := hx.mono hle19
                    replace h5 := h5.mono hle19
                    obtain ⟨na6, A6, n6, c6, nb6, B6, m6, d6, rfl, h6⟩ := hp19
                    refine stepT_store 0 rfl rfl rfl rfl rfl rfl rfl zf119 rfl rfl hst0 hst rfl (by first | (simp [uN_length]; omega) | simp) hlesum (by repeat (first | exact List.Sublist.slnil | exact List.Sublist.refl _ | apply List.Sublist.cons_cons | apply List.Sublist.cons)) ?_ ?_
                    · skip
                      clear hst
                      intro w20 hst
                      simp only [zL, splice, Nat.reduceAdd] at hst
                      refine stepT_d rfl rfl rfl rfl (does_assign rfl rfl) ?_
                      refine stepT_tail ?_
                      refine wpK_nil ?_
                      refine join_end (((na6, A6, n6, c6, nb6, B6, m6, d6), (getR a)⁻¹, n.natAbs)) ?_ ?_
                      · exact ⟨kint (by omega), rfl, trivial⟩
                      · exact ⟨_, hst, h6.to (by rw [Rat.div_def]; exact Rat.one_mul _), sa.inv, by omega, by unfold powR; rw [if_pos (by omega)]⟩
                    · skip
                      exact stepT_no
                  · skip
                    exact stepT_no
                · skip
                  exact stepT_no
              · skip
                exact stepT_no
          · intro c25
            refine cp_skip ?_
            refine join_end (((na, A, ln, c, nb, B, m, d), getR a, n.natAbs)) ?_ ?_
            · exact ⟨kint (by omega), rfl, trivial⟩
            · exact ⟨_, hst, hx, sa, by omega, by unfold powR; rw [if_neg (by omega)]⟩
        case d14 =>
          clear hst
          rintro ⟨⟨na1, A1, n1, c1, nb1, B1, m1, d1⟩, ρ, e⟩ w2 ⟨g2, hst, hq, hs1, he, hpw⟩
          simp only
          have hke : (a.size + 1) * e ≤ 50000 * 1000 := Nat.mul_le_mul (by omega) (by omega)
          refine zsr ?_
          refine stepK_d rfl rfl rfl hst (does_load_ownN 0 rfl (by kernel_rfl) zf119 rfl rfl rfl) ?_
          refine zM rfl hst rfl ?_
          refine stepK_call rfl rfl rfl rfl rfl hst (sref_Power hst.agree hq hs1 (by omega) he) ?_
          clear hst
          intro v21 g21 w21 hst hle21 hcs21 hp21
          replace hq := hq.mono hle21
          obtain ⟨_, _, _, _, _, _, _, _, rfl, hq9⟩ := hp21
          replace hq9 := hq9.to hpw
          refine stepK_call rfl rfl rfl rfl rfl hst (snum_Text hst.agree hq9 (by rw [← hpw]; exact (pow_sz hs1 e).fitH (by omega))) ?_
          clear hst
          intro v22 g22 w22 hst hle22 hcs22 hp22
          replace hq := hq.mono hle22
          replace hq9 := hq9.mono hle22
          obtain rfl := hp22
          refine zA rfl hst rfl ?_
          refine zA rfl hst rfl ?_
          refine znt ?_
          refine cp_ret ?_
          refine ret2 rfl rfl rfl hst ?_
          first
          | rw [if_neg hno, decide_eq_false hno]
          | rw [if_pos hyes, decide_eq_true hyes]

end Go.Proofs.YtbamjcfdlgnicaaGreatDoor

namespace Go.Proofs.YtbamjcfdlgnicaaGreatDoor
open Go Go.RowKit Go.Proofs.Vc
set_option linter.unusedVariables false
set_option linter.unusedSimpArgs false

set_option maxHeartbeats 1000000 in
theorem keep_Mod {g : Mem} {w : World} (hag : Agree g w) {a : Int} {b : Nat} (h1 : -9223372036854775808 ≤ a) (h2 : a ≤ 9223372036854775807) (hb : 0 < b) (hb2 : b ≤ 1000000000) :
    CallTo Tryz.prog 59 #[.int .i64 a, .int .i64 (b : Int)] w (Ret w g fun v g => v = .int .i64 (a % (b : Int))) := by
  refine CallTo.enter (vs := [.int .i64 a, .int .i64 (b : Int)]) (by kernel_rfl : Tryz.prog.funcs[59]? = some Tryz.f59) (by kernel_rfl) rfl rfl rfl ?_
  have hst := St.init hag
  have h5 := Int.emod_nonneg a (show (b : Int) ≠ 0 by omega)
  have h6 := Int.emod_lt_of_pos a (show (0 : Int) < b by omega)
  have ht : (a.tmod (b : Int) = a % (b : Int) ∧ 0 ≤ a.tmod b) ∨ (a.tmod (b : Int) = a % (b : Int) - b ∧ a.tmod b < 0) := by
    rw [Int.tmod_eq_emod]
    split
    · exact .inl ⟨by omega, by omega⟩
    · exact .inr ⟨by omega, by omega⟩
  refine zsr ?_
  refine zA rfl hst rfl ?_
  refine zn4 ?_
  refine zM rfl hst rfl ?_
  refine zM rfl hst rfl ?_
  refine stepK_d rfl rfl rfl hst (Does.int (b := a.tmod (b : Int)) (does_rem rfl rfl rfl (by omega)) (by rfl)) ?_
  refine zA rfl hst rfl ?_
  refine znq ?_
  refine zsr ?_
  refine zM rfl hst rfl ?_
  refine stepK_d rfl rfl rfl hst (does_lss rfl rfl rfl) ?_
  refine znt ?_
  refine cp_if rfl ?_ ?_
  · intro c10
    refine cp_region ?_
    refine zM rfl hst rfl ?_
    refine zM rfl hst rfl ?_
    refine stepK_d rfl rfl rfl hst (Does.int (does_add rfl rfl rfl) (wrap_i64 (by omega) (by omega))) ?_
    refine zA rfl hst rfl ?_
    refine zn4 ?_
    refine zM rfl hst rfl ?_
    refine zA rfl hst rfl ?_
    refine znt ?_
    refine cp_ret ?_
    refine ret1 rfl rfl hst ?_
    congr 1
    omega
  · intro c10
    refine zk4 ?_
    refine zM rfl hst rfl ?_
    refine zA rfl hst rfl ?_
    refine znt ?_
    refine cp_ret ?_
    refine ret1 rfl rfl hst ?_
    congr 1
    omega

end Go.Proofs.YtbamjcfdlgnicaaGreatDoor
