/- A helper of the claim: general lemmas and walks of functions, printed by a program of this session. Conditions: none. -/
import Derived.Test.YtbamjcfdlgnicaaGreatDoorFV
import Derived.Test.YtbamjcfdlgnicaaGreatDoorProg
import Derived.Test.YtbamjcfdlgnicaaGreatDoorF0
namespace Go.Proofs.YtbamjcfdlgnicaaGreatDoor
open Go Go.RowKit Go.Proofs.Vc
set_option linter.unusedVariables false
set_option linter.unusedSimpArgs false

set_option maxHeartbeats 1000000 in
theorem num_length {g : Mem} {w : World} (hag : Agree g w) {A : Option Addr} {n c N : Nat} (ha : IsNat g A n N) (hn : n ≤ 8796093022207) :
    CallTo Tryz.prog 168 #[.slice A n c] w (Ret w g fun v g => v = .int .i64 (bitLen N : Int)) := by
  refine CallTo.enter (vs := [.slice A n c]) zf156 (by kernel_rfl) rfl rfl rfl ?_
  have hst := St.init hag
  refine zsr ?_
  refine zA rfl hst rfl ?_
  refine znq ?_
  refine zsr ?_
  refine zM rfl hst rfl ?_
  refine stepK_d rfl rfl rfl hst (does_len_slice rfl zf1 rfl) ?_
  refine stepK_d rfl rfl rfl hst (does_eql rfl rfl rfl) ?_
  refine znt ?_
  refine cp_if rfl ?_ ?_
  intro c5
  refine zsr ?_
  refine zA rfl hst rfl ?_
  refine zn5 ?_
  refine ret1 rfl rfl hst ?_
  rw [ha.zero_iff.1 (by omega)]
  rfl
  intro c5
  refine cp_skip ?_
  refine cp_then ?_
  refine cp_seq ?_
  obtain ⟨xs, hxs, hxw, hxt, hxv⟩ := ha
  have hlx := hxs.1
  obtain ⟨b1, o1, rfl, hb1⟩ := hxs.some_ (by omega)
  obtain ⟨t, ht⟩ := get_of_lt (ws := xs) (j := n - 1) (by omega)
  have htl := hxw.get ht
  have ht0 := trimmed_last hxt hlx ht
  have hbl := bitLen_le64 htl
  refine cp_region ?_
  refine zM rfl hst rfl ?_
  refine stepK_d rfl rfl rfl hst (does_len_slice rfl zf1 rfl) ?_
  refine stepK_d rfl rfl rfl hst (Does.int (does_sub rfl rfl rfl) (wrap_i64 (by omega) (by omega))) ?_
  refine stepK_d rfl rfl rfl hst (Does.int (does_mul rfl rfl rfl) (show _ = ((64 * (n - 1) : Nat) : Int) by rw [wrap_i64 (by omega) (by omega)]; omega)) ?_
  refine zM rfl hst rfl ?_
  refine zM rfl hst rfl ?_
  refine stepK_d rfl rfl rfl hst (does_len_slice rfl zf1 rfl) ?_
  refine stepK_d rfl rfl rfl hst (Does.int (does_sub rfl rfl rfl) (wrap_i64 (by omega) (by omega))) ?_
  refine stepK_d rfl rfl rfl hst (does_indexAddr1 (j := (n - 1)) rfl zf1 (by kernel_rfl) rfl rfl (by omega) (by omega)) ?_
  refine stepK_d rfl rfl rfl hst (does_load_g1 rfl (by kernel_rfl) rfl (hb1.at_ _ _ ht)) ?_
  refine stepK_call rfl rfl rfl rfl rfl hst (bits_Len64 hst.agree htl) ?_
  clear hst
  intro v1 g1 w1 hst hle1 hcs1 hp1
  obtain rfl := hp1
  refine stepK_d rfl rfl rfl hst (Does.int (does_add rfl rfl rfl) (show _ = ((64 * (n - 1) + bitLen t : Nat) : Int) by rw [wrap_i64 (by omega) (by omega)]; omega)) ?_
  refine zA rfl hst rfl ?_
  refine znt ?_
  refine cp_ret ?_
  refine ret1 rfl rfl hst ?_
  rw [← hxv, bits_val hxw hlx (by omega) ht ht0]

set_option maxHeartbeats 1000000 in
theorem num_root {g : Mem} {w : World} (hag : Agree g w) {A : Option Addr} {n c N : Nat} (ha : IsNat g A n N) (hn : n ≤ 137438953472) :
    CallTo Tryz.prog 167 #[.slice A n c] w (Ret w g fun v g => ∃ A n c, v = .slice A n c ∧ IsNat g A n (isq N)) := by
  refine CallTo.enter (vs := [.slice A n c]) zf157 (by kernel_rfl) rfl rfl rfl ?_
  have hst := St.init hag
  refine zsr ?_
  refine zA rfl hst rfl ?_
  refine znq ?_
  refine zsr ?_
  refine zM rfl hst rfl ?_
  refine stepK_d rfl rfl rfl hst (does_len_slice rfl zf1 rfl) ?_
  refine stepK_d rfl rfl rfl hst (does_eql rfl rfl rfl) ?_
  refine znt ?_
  refine cp_if rfl ?_ ?_
  intro c9
  refine zsr ?_
  refine zA rfl hst rfl ?_
  refine zn5 ?_
  refine ret1 rfl rfl hst ?_
  refine ⟨_, _, _, rfl, ?_⟩
  rw [ha.zero_iff.1 (by omega)]
  exact IsNat.nil _
  intro c9
  have hx0 : 0 < N := Nat.pos_of_ne_zero fun e => by have := ha.zero_iff.2 e; omega
  have hbl : bitLen N ≤ 64 * n := bitLen_le_of (by rw [Nat.pow_mul]; exact ha.lt)
  refine zk4 ?_
  refine stepK_buildSlice rfl rfl rfl rfl zf1 zf2 rfl rfl (by decide) (by decide) (by decide) rfl rfl hst ?_
  clear hst
  intro b1 w1 hst
  obtain ⟨g1, hst, hle1, h1⟩ := hst.lit (x := 1) (by decide) (by decide)
  replace ha := ha.mono hle1
  refine zM rfl hst rfl ?_
  refine stepK_call rfl rfl rfl rfl rfl hst (num_length hst.agree ha (by omega)) ?_
  clear hst
  intro v2 g2 w2 hst hle2 hcs2 hp2
  replace ha := ha.mono hle2
  replace h1 := h1.mono hle2
  obtain rfl := hp2
  refine stepK_d rfl rfl rfl hst (Does.int (does_add rfl rfl rfl) (show _ = ((bitLen N + 1 : Nat) : Int) by rw [wrap_i64 (by omega) (by omega)]; omega)) ?_
  refine stepK_d rfl rfl rfl hst (does_quo_p (a := bitLen N + 1) (b := 2) rfl rfl rfl (by decide) (by omega)) ?_
  refine stepK_call rfl rfl rfl rfl rfl hst (num_left hst.agree h1 (by decide) (by omega)) ?_
  clear hst
  intro v3 g3 w3 hst hle3 hcs3 hp3
  replace ha := ha.mono hle3
  replace h1 := h1.mono hle3
  obtain ⟨A15, n15, c15, rfl, xs15, hxs15, hxw15, hxt15, hxv15⟩ := hp3
  obtain ⟨X0, hX0⟩ : ∃ X0, X0 = 2 ^ ((bitLen N + 1) / 2) := ⟨_, rfl⟩
  rw [Nat.one_mul, ← hX0] at hxv15
  have hX : IsNat _ A15 n15 X0 := ⟨xs15, hxs15, hxw15, hxt15, hxv15⟩
  have hXs : isq N ≤ X0 := by rw [hX0]; exact isq_start _
  have hXp : 0 < X0 := by rw [hX0]; exact Nat.pow_pos (by decide)
  have hXl : X0 < 18446744073709551616 ^ (n + 1) := by
    rw [hX0, show (18446744073709551616 : Nat) = 2 ^ 64 by decide, ← Nat.pow_mul]
    exact Nat.pow_lt_pow_right (by decide) (by omega)
  refine zA rfl hst rfl ?_
  refine znt ?_
  refine cp_block ?_
  refine cp_loop (ι := Option Addr × Nat × Nat × Nat) (fun (Ax, xn, xc, X) => [(0, .slice A n c), (3, .slice Ax xn xc)]) (fun (Ax, xn, xc, X) w1 => ∃ g1, St w [] g g1 [] w1 ∧ IsNat g1 A n N ∧ IsNat g1 Ax xn X ∧ isq N ≤ X ∧ 0 < X ∧ X < 18446744073709551616 ^ (n + 1)) (fun (Ax, xn, xc, X) => X) (A15, n15, c15, X0) ?k4 ?i4 ?r4
  case k4 => exact ⟨rfl, rfl, trivial⟩
  case i4 =>
    exact ⟨_, hst, ha, hX, hXs, hXp, hXl⟩
  case r4 =>
    clear hst
    clear hX hXs hXp hXl
    rintro ⟨Ax, xn, xc, X⟩ w1 ⟨g1, hst, ha, hX, hXs, hXp, hXl⟩
    have hxl := hX.len hXl
    refine cp_block ?_
    refine zsr ?_
    refine zM rfl hst rfl ?_
    refine zM rfl hst rfl ?_
    refine stepK_call rfl rfl rfl rfl rfl hst (num_divide hst.agree ha hX hXp (by omega) (by omega)) ?_
    clear hst
    intro v5 g5 w5 hst hle5 hcs5 hp5
    replace ha := ha.mono hle5
    replace hX := hX.mono hle5
    obtain ⟨Aq, qn, qc, Ar, rn, rc, rfl, hq, hr⟩ := hp5
    have hqn : qn ≤ n := hq.len (Nat.lt_of_le_of_lt (Nat.div_le_self _ _) ha.lt)
    refine zM rfl hst rfl ?_
    refine zE rfl hst rfl rfl ?_
    refine zE rfl hst rfl rfl ?_
    refine zA rfl hst rfl ?_
    refine zA rfl hst rfl ?_
    refine zn4 ?_
    refine zM rfl hst rfl ?_
    refine zM rfl hst rfl ?_
    refine stepK_call rfl rfl rfl rfl rfl hst (num_sum hst.agree hX hq (by omega) (by omega)) ?_
    clear hst
    intro v6 g6 w6 hst hle6 hcs6 hp6
    replace ha := ha.mono hle6
    replace hX := hX.mono hle6
    replace hq := hq.mono hle6
    replace hr := hr.mono hle6
    obtain ⟨As, sn, sc, rfl, hs⟩ := hp6
    have hsn : sn ≤ n + 2 := hs.len (by
      have h7 : N / X < 18446744073709551616 ^ (n + 1) := Nat.lt_of_le_of_lt (Nat.div_le_self _ _) (Nat.lt_trans ha.lt (Nat.pow_lt_pow_right (by decide) (by omega)))
      have h8 : 18446744073709551616 ^ (n + 2) = 18446744073709551616 ^ (n + 1) * 18446744073709551616 := Nat.pow_succ ..
      omega)
    refine stepK_call rfl rfl rfl rfl rfl hst (num_right (s := 1) hst.agree hs (by omega) (by decide)) ?_
    clear hst
    intro v7 g7 w7 hst hle7 hcs7 hp7
    replace ha := ha.mono hle7
    replace hX := hX.mono hle7
    replace hq := hq.mono hle7
    replace hr := hr.mono hle7
    replace hs := hs.mono hle7
    obtain ⟨Ay, yn, yc, rfl, hy⟩ := hp7
    rw [Nat.pow_one] at hy
    have hyn := hy.len (Nat.lt_of_le_of_lt (Nat.div_le_self _ _) (Nat.lt_of_lt_of_le hs.lt (Nat.pow_le_pow_right (by decide) hsn)))
    refine zA rfl hst rfl ?_
    refine znq ?_
    refine zsr ?_
    refine zM rfl hst rfl ?_
    refine zM rfl hst rfl ?_
    refine stepK_call rfl rfl rfl rfl rfl hst (num_compare hst.agree hy hX (by omega)) ?_
    clear hst
    intro v8 g8 w8 hst hle8 hcs8 hp8
    replace ha := ha.mono hle8
    replace hX := hX.mono hle8
    replace hq := hq.mono hle8
    replace hr := hr.mono hle8
    replace hs := hs.mono hle8
    replace hy := hy.mono hle8
    obtain rfl := hp8
    refine stepK_d rfl rfl rfl hst (does_geq rfl rfl rfl) ?_
    refine znt ?_
    refine cp_if rfl ?_ ?_
    intro c29
    refine zsr ?_
    refine zM rfl hst rfl ?_
    refine zA rfl hst rfl ?_
    refine zn5 ?_
    refine at_block_ret ?_
    refine at_then_ret ?_
    refine at_block_ret ?_
    refine ret1 rfl rfl hst ?_
    refine ⟨_, _, _, rfl, ?_⟩
    rw [newton_stop hXp hXs (cmpN_nonneg.1 c29)]
    exact hX
    intro c29
    refine cp_skip ?_
    refine cp_then ?_
    refine cp_region ?_
    refine zM rfl hst rfl ?_
    refine zA rfl hst rfl ?_
    refine wpK_nil ?_
    refine at_block_normal ?_
    have hlt : (X + N / X) / 2 < X := by
      rcases Nat.lt_or_ge ((X + N / X) / 2) X with h | h
      exact h
      exact absurd (cmpN_nonneg.2 h) c29
    refine round_end ((Ay, yn, yc, (X + N / X) / 2)) ?_ ?_ ?_
    exact ⟨rfl, rfl, trivial⟩
    exact ⟨_, hst, ha, hy, newton_ge hXp, Nat.lt_of_lt_of_le (isq_pos hx0) (newton_ge hXp), Nat.lt_trans hlt hXl⟩
    exact hlt

set_option maxHeartbeats 1000000 in
theorem Rat_Sqrt {g : Mem} {w : World} (hag : Agree g w) {p q : Int} {a : Option Addr} {r : Rat} (ha : IsRat g p q a r) {k : Nat} (hz : Sz k r) (hk : k ≤ 100000000) :
    CallTo Tryz.prog 128 #[.agg #[.int .i64 p, .int .i64 q, .pointer a]] w (Ret w g fun v g => ∃ p q a, v = .tuple #[.agg #[.int .i64 p, .int .i64 q, .pointer a], .bool (decide (SqR r))] ∧ IsRat g p q a (rootR r)) := by
  refine CallTo.enter (vs := [.agg #[.int .i64 p, .int .i64 q, .pointer a]]) zf158 (by kernel_rfl) rfl rfl rfl ?_
  have hst := St.init hag
  have hzn := hz.nat
  refine zsr ?_
  refine stepK_box rfl rfl rfl rfl rfl rfl hst ?_
  clear hst
  intro b1 w1 hst
  refine stepK_alloc rfl rfl rfl rfl zf29 rfl hst ?_
  clear hst
  intro b2 w2 hst
  refine zA rfl hst rfl ?_
  refine zn4 ?_
  refine stepK_d rfl rfl rfl hst (does_load_ownN 0 rfl (by kernel_rfl) zf31 rfl rfl rfl) ?_
  refine stepK_call rfl rfl rfl rfl rfl hst (Rat_parts hst.agree ha) ?_
  clear hst
  intro v3 g3 w3 hst hle3 hcs3 hp3
  replace ha := ha.mono hle3
  obtain ⟨A1, n1, c1, B1, m1, d1, rfl, hN1, hD1⟩ := hp3
  refine zM rfl hst rfl ?_
  refine zE rfl hst rfl rfl ?_
  refine zE rfl hst rfl rfl ?_
  refine zE rfl hst rfl rfl ?_
  refine zA rfl hst rfl ?_
  refine zA rfl hst rfl ?_
  refine zA rfl hst rfl ?_
  refine znq ?_
  refine cp_seq ?_
  have l1 := hN1.len hzn.1
  have l2 := hD1.len hzn.2
  refine cp_region ?_
  refine zM rfl hst rfl ?_
  refine znt ?_
  refine cp_cond rfl ?_ ?_
  intro c15
  have hno : ¬ SqR r := fun h => by have := of_decide_eq_true c15; have := h.1; omega
  refine zsr ?_
  refine stepK_d rfl rfl rfl hst (does_build rfl zf30 rfl rfl) ?_
  refine stepK_store 1 rfl rfl rfl rfl rfl rfl zf31 rfl rfl hst rfl (by first | (simp [uN_length]; omega) | simp) ?_
  clear hst
  intro w4 hst
  simp only [zL, splice, Nat.reduceAdd] at hst
  refine zA rfl hst rfl ?_
  refine zn5 ?_
  refine ret2c (k := 1) rfl rfl (by kernel_rfl) (by kernel_rfl) rfl rfl hst rfl ?_
  exact ⟨_, _, _, by rw [decide_eq_false hno], by unfold rootR; rw [if_neg hno]; exact IsRat.zero _⟩
  intro c15
  have hn0 : 0 ≤ r.num := by have := of_decide_eq_false c15; omega
  refine zk4 ?_
  refine zM rfl hst rfl ?_
  refine stepK_call rfl rfl rfl rfl rfl hst (num_root hst.agree hN1 (by omega)) ?_
  clear hst
  intro v5 g5 w5 hst hle5 hcs5 hp5
  replace ha := ha.mono hle5
  replace hN1 := hN1.mono hle5
  replace hD1 := hD1.mono hle5
  obtain ⟨A3, n3, c3, rfl, hX⟩ := hp5
  have l3 := hX.len (Nat.lt_of_le_of_lt (isq_le_self _) hzn.1)
  refine zM rfl hst rfl ?_
  refine stepK_call rfl rfl rfl rfl rfl hst (num_root hst.agree hD1 (by omega)) ?_
  clear hst
  intro v6 g6 w6 hst hle6 hcs6 hp6
  replace ha := ha.mono hle6
  replace hN1 := hN1.mono hle6
  replace hD1 := hD1.mono hle6
  replace hX := hX.mono hle6
  obtain ⟨A4, n4, c4, rfl, hY⟩ := hp6
  have l4 := hY.len (Nat.lt_of_le_of_lt (isq_le_self _) hzn.2)
  refine zA rfl hst rfl ?_
  refine zA rfl hst rfl ?_
  refine znq ?_
  refine zsr ?_
  refine zM rfl hst rfl ?_
  refine zM rfl hst rfl ?_
  refine stepK_call rfl rfl rfl rfl rfl hst (num_product hst.agree hX hX (by omega) (by omega)) ?_
  clear hst
  intro v7 g7 w7 hst hle7 hcs7 hp7
  replace ha := ha.mono hle7
  replace hN1 := hN1.mono hle7
  replace hD1 := hD1.mono hle7
  replace hX := hX.mono hle7
  replace hY := hY.mono hle7
  obtain ⟨A5, n5, c5, rfl, hXX⟩ := hp7
  have l5 := hXX.len (Nat.lt_of_le_of_lt (isq_spec _).1 hzn.1)
  refine zM rfl hst rfl ?_
  refine stepK_call rfl rfl rfl rfl rfl hst (num_compare hst.agree hXX hN1 (by omega)) ?_
  clear hst
  intro v8 g8 w8 hst hle8 hcs8 hp8
  replace ha := ha.mono hle8
  replace hN1 := hN1.mono hle8
  replace hD1 := hD1.mono hle8
  replace hX := hX.mono hle8
  replace hY := hY.mono hle8
  replace hXX := hXX.mono hle8
  obtain rfl := hp8
  refine stepK_d rfl rfl rfl hst (does_neq rfl rfl rfl) ?_
  refine zM rfl hst rfl ?_
  refine wpK_split (t := 27) rfl ?_ ?_
  intro s27
  have hno : ¬ SqR r := fun h => s27 (cmpN_zero.2 h.2.1)
  refine stepK_pass rfl rfl rfl rfl rfl rfl rfl ?_
  refine stepK_pass rfl rfl rfl rfl rfl rfl rfl ?_
  refine stepK_pass rfl rfl rfl rfl rfl rfl rfl ?_
  refine stepK_pass rfl rfl rfl rfl rfl rfl rfl ?_
  refine stepK_pass rfl rfl rfl rfl rfl rfl rfl ?_
  refine stepK_pass rfl rfl rfl rfl rfl rfl rfl ?_
  refine stepK_d rfl rfl rfl hst (does_pick_true rfl rfl rfl) ?_
  refine znt ?_
  refine cp_cond_true rfl ?_
  refine zsr ?_
  refine stepK_d rfl rfl rfl hst (does_build rfl zf30 rfl rfl) ?_
  refine stepK_store 1 rfl rfl rfl rfl rfl rfl zf31 rfl rfl hst rfl (by first | (simp [uN_length]; omega) | simp) ?_
  clear hst
  intro w9 hst
  simp only [zL, splice, Nat.reduceAdd] at hst
  refine zA rfl hst rfl ?_
  refine zn5 ?_
  refine ret2c (k := 1) rfl rfl (by kernel_rfl) (by kernel_rfl) rfl rfl hst rfl ?_
  exact ⟨_, _, _, by rw [decide_eq_false hno], by unfold rootR; rw [if_neg hno]; exact IsRat.zero _⟩
  intro s27
  have hs1 := cmpN_zero.1 (Decidable.not_not.1 s27)
  refine stepK_guard rfl rfl rfl rfl rfl rfl hst (does_move rfl rfl) ?_
  refine stepK_guard rfl rfl rfl rfl rfl rfl hst (does_move rfl rfl) ?_
  refine stepK_call_guard rfl rfl rfl rfl rfl rfl rfl rfl hst (num_product hst.agree hY hY (by omega) (by omega)) ?_
  clear hst
  intro v10 g10 w10 hst hle10 hcs10 hp10
  replace ha := ha.mono hle10
  replace hN1 := hN1.mono hle10
  replace hD1 := hD1.mono hle10
  replace hX := hX.mono hle10
  replace hY := hY.mono hle10
  replace hXX := hXX.mono hle10
  obtain ⟨A6, n6, c6, rfl, hYY⟩ := hp10
  have l6 := hYY.len (Nat.lt_of_le_of_lt (isq_spec _).1 hzn.2)
  refine stepK_guard rfl rfl rfl rfl rfl rfl hst (does_move rfl rfl) ?_
  refine stepK_call_guard rfl rfl rfl rfl rfl rfl rfl rfl hst (num_compare hst.agree hYY hD1 (by omega)) ?_
  clear hst
  intro v11 g11 w11 hst hle11 hcs11 hp11
  replace ha := ha.mono hle11
  replace hN1 := hN1.mono hle11
  replace hD1 := hD1.mono hle11
  replace hX := hX.mono hle11
  replace hY := hY.mono hle11
  replace hXX := hXX.mono hle11
  replace hYY := hYY.mono hle11
  obtain rfl := hp11
  refine stepK_guard rfl rfl rfl rfl rfl rfl hst (does_neq rfl rfl rfl) ?_
  refine stepK_d rfl rfl rfl hst (does_pick_false rfl rfl rfl) ?_
  refine znt ?_
  refine cp_if rfl ?_ ?_
  intro c34
  have hno : ¬ SqR r := fun h => c34 (cmpN_zero.2 h.2.2)
  refine zsr ?_
  refine stepK_d rfl rfl rfl hst (does_build rfl zf30 rfl rfl) ?_
  refine stepK_store 1 rfl rfl rfl rfl rfl rfl zf31 rfl rfl hst rfl (by first | (simp [uN_length]; omega) | simp) ?_
  clear hst
  intro w12 hst
  simp only [zL, splice, Nat.reduceAdd] at hst
  refine zA rfl hst rfl ?_
  refine zn5 ?_
  refine ret2c (k := 1) rfl rfl (by kernel_rfl) (by kernel_rfl) rfl rfl hst rfl ?_
  exact ⟨_, _, _, by rw [decide_eq_false hno], by unfold rootR; rw [if_neg hno]; exact IsRat.zero _⟩
  intro c34
  have hyes : SqR r := ⟨hn0, hs1, cmpN_zero.1 (Decidable.not_not.1 c34)⟩
  refine zk4 ?_
  refine zM rfl hst rfl ?_
  refine zM rfl hst rfl ?_
  refine stepK_call rfl rfl rfl rfl rfl hst (num_lowest (neg := false) hst.agree hX hY (isq_pos (Nat.pos_of_ne_zero r.den_nz)) (root_coprime hyes)) ?_
  clear hst
  intro v13 g13 w13 hst hle13 hcs13 hp13
  replace ha := ha.mono hle13
  replace hN1 := hN1.mono hle13
  replace hD1 := hD1.mono hle13
  replace hX := hX.mono hle13
  replace hY := hY.mono hle13
  replace hXX := hXX.mono hle13
  replace hYY := hYY.mono hle13
  obtain ⟨p9, q9, a9, rfl, hr9⟩ := hp13
  refine stepK_store 1 rfl rfl rfl rfl rfl rfl zf31 rfl rfl hst rfl (by first | (simp [uN_length]; omega) | simp) ?_
  clear hst
  intro w14 hst
  simp only [zL, splice, Nat.reduceAdd] at hst
  refine zA rfl hst rfl ?_
  refine znt ?_
  refine cp_ret ?_
  refine ret2c (k := 1) rfl rfl (by kernel_rfl) (by kernel_rfl) rfl rfl hst rfl ?_
  rw [root_sg hyes] at hr9
  exact ⟨_, _, _, by rw [decide_eq_true hyes], hr9⟩

set_option maxHeartbeats 1000000 in
theorem Rat_Bits {g : Mem} {w : World} (hag : Agree g w) {p q : Int} {a : Option Addr} {r : Rat} (ha : IsRat g p q a r) (hfa : Fit r) :
    CallTo Tryz.prog 132 #[.agg #[.int .i64 p, .int .i64 q, .pointer a]] w (Ret w g fun v g => v = .tuple #[.int .i64 (bitLen r.num.natAbs : Int), .int .i64 (bitLen r.den : Int)]) := by
  refine CallTo.enter (vs := [.agg #[.int .i64 p, .int .i64 q, .pointer a]]) zf159 (by kernel_rfl) rfl rfl rfl ?_
  have hst := St.init hag
  refine zsr ?_
  refine stepK_box rfl rfl rfl rfl rfl rfl hst ?_
  clear hst
  intro b1 w1 hst
  refine zA rfl hst rfl ?_
  refine zA rfl hst rfl ?_
  refine zn4 ?_
  refine stepK_d rfl rfl rfl hst (does_load_ownN 0 rfl (by kernel_rfl) zf31 rfl rfl rfl) ?_
  refine stepK_call rfl rfl rfl rfl rfl hst (Rat_parts hst.agree ha) ?_
  clear hst
  intro v2 g2 w2 hst hle2 hcs2 hp2
  replace ha := ha.mono hle2
  obtain ⟨A1, n1, c1, B1, m1, d1, rfl, hN1, hD1⟩ := hp2
  refine zM rfl hst rfl ?_
  refine zE rfl hst rfl rfl ?_
  refine zE rfl hst rfl rfl ?_
  refine zE rfl hst rfl rfl ?_
  refine zA rfl hst rfl ?_
  refine zA rfl hst rfl ?_
  refine zA rfl hst rfl ?_
  refine znq ?_
  have l1 := hN1.len hfa.1
  have l2 := hD1.len hfa.2
  refine cp_region ?_
  refine zM rfl hst rfl ?_
  refine stepK_call rfl rfl rfl rfl rfl hst (num_length hst.agree hN1 (by omega)) ?_
  clear hst
  intro v3 g3 w3 hst hle3 hcs3 hp3
  replace ha := ha.mono hle3
  replace hN1 := hN1.mono hle3
  replace hD1 := hD1.mono hle3
  obtain rfl := hp3
  refine zM rfl hst rfl ?_
  refine stepK_call rfl rfl rfl rfl rfl hst (num_length hst.agree hD1 (by omega)) ?_
  clear hst
  intro v4 g4 w4 hst hle4 hcs4 hp4
  replace ha := ha.mono hle4
  replace hN1 := hN1.mono hle4
  replace hD1 := hD1.mono hle4
  obtain rfl := hp4
  refine zA rfl hst rfl ?_
  refine zA rfl hst rfl ?_
  refine znt ?_
  refine cp_ret ?_
  refine ret2 rfl rfl rfl hst ?_
  rfl

set_option maxHeartbeats 1000000 in
theorem num_GCD {g : Mem} {w : World} (hag : Agree g w) {p q : Int} {a : Option Addr} {r : Rat} (ha : IsRat g p q a r) {s t : Int} {b : Option Addr} {x : Rat} (hb : IsRat g s t b x) (hfa : Fit r) (hfb : Fit x) :
    CallTo Tryz.prog 131 #[.agg #[.int .i64 p, .int .i64 q, .pointer a], .agg #[.int .i64 s, .int .i64 t, .pointer b]] w (Ret w g fun v g => ∃ p q a, v = .agg #[.int .i64 p, .int .i64 q, .pointer a] ∧ IsRat g p q a (gcdR r x)) := by
  refine CallTo.enter (vs := [.agg #[.int .i64 p, .int .i64 q, .pointer a], .agg #[.int .i64 s, .int .i64 t, .pointer b]]) zf160 (by kernel_rfl) rfl rfl rfl ?_
  have hst := St.init hag
  refine zsr ?_
  refine stepK_box rfl rfl rfl rfl rfl rfl hst ?_
  clear hst
  intro b1 w1 hst
  refine stepK_box rfl rfl rfl rfl rfl rfl hst ?_
  clear hst
  intro b2 w2 hst
  refine stepK_alloc rfl rfl rfl rfl zf29 rfl hst ?_
  clear hst
  intro b3 w3 hst
  refine zn4 ?_
  refine stepK_d rfl rfl rfl hst (does_load_ownN 0 rfl (by kernel_rfl) zf31 rfl rfl rfl) ?_
  refine stepK_call rfl rfl rfl rfl rfl hst (Rat_parts hst.agree ha) ?_
  clear hst
  intro v4 g4 w4 hst hle4 hcs4 hp4
  replace ha := ha.mono hle4
  replace hb := hb.mono hle4
  obtain ⟨A1, n1, c1, B1, m1, d1, rfl, hN1, hD1⟩ := hp4
  refine zM rfl hst rfl ?_
  refine zE rfl hst rfl rfl ?_
  refine zE rfl hst rfl rfl ?_
  refine zE rfl hst rfl rfl ?_
  refine zA rfl hst rfl ?_
  refine zA rfl hst rfl ?_
  refine zA rfl hst rfl ?_
  refine zn4 ?_
  refine stepK_d rfl rfl rfl hst (does_load_ownN 1 rfl (by kernel_rfl) zf31 rfl rfl rfl) ?_
  refine stepK_call rfl rfl rfl rfl rfl hst (Rat_parts hst.agree hb) ?_
  clear hst
  intro v5 g5 w5 hst hle5 hcs5 hp5
  replace ha := ha.mono hle5
  replace hb := hb.mono hle5
  replace hN1 := hN1.mono hle5
  replace hD1 := hD1.mono hle5
  obtain ⟨A2, n2, c2, B2, m2, d2, rfl, hN2, hD2⟩ := hp5
  refine zM rfl hst rfl ?_
  refine zE rfl hst rfl rfl ?_
  refine zE rfl hst rfl rfl ?_
  refine zE rfl hst rfl rfl ?_
  refine zA rfl hst rfl ?_
  refine zA rfl hst rfl ?_
  refine zA rfl hst rfl ?_
  refine znq ?_
  have l1 := hN1.len hfa.1
  have l2 := hD1.len hfa.2
  have l3 := hN2.len hfb.1
  have l4 := hD2.len hfb.2
  refine cp_region ?_
  refine zM rfl hst rfl ?_
  refine zM rfl hst rfl ?_
  refine stepK_call rfl rfl rfl rfl rfl hst (num_product hst.agree hN1 hD2 (by omega) (by omega)) ?_
  clear hst
  intro v6 g6 w6 hst hle6 hcs6 hp6
  replace ha := ha.mono hle6
  replace hb := hb.mono hle6
  replace hN1 := hN1.mono hle6
  replace hD1 := hD1.mono hle6
  replace hN2 := hN2.mono hle6
  replace hD2 := hD2.mono hle6
  obtain ⟨A3, n3, c3, rfl, hU⟩ := hp6
  have k1 := lenMul hU hfa.1 hfb.2
  refine zM rfl hst rfl ?_
  refine zM rfl hst rfl ?_
  refine stepK_call rfl rfl rfl rfl rfl hst (num_product hst.agree hN2 hD1 (by omega) (by omega)) ?_
  clear hst
  intro v7 g7 w7 hst hle7 hcs7 hp7
  replace ha := ha.mono hle7
  replace hb := hb.mono hle7
  replace hN1 := hN1.mono hle7
  replace hD1 := hD1.mono hle7
  replace hN2 := hN2.mono hle7
  replace hD2 := hD2.mono hle7
  replace hU := hU.mono hle7
  obtain ⟨A4, n4, c4, rfl, hV⟩ := hp7
  have k2 := lenMul hV hfb.1 hfa.2
  refine stepK_call rfl rfl rfl rfl rfl hst (num_divisor hst.agree hU hV (by omega) (by omega)) ?_
  clear hst
  intro v8 g8 w8 hst hle8 hcs8 hp8
  replace ha := ha.mono hle8
  replace hb := hb.mono hle8
  replace hN1 := hN1.mono hle8
  replace hD1 := hD1.mono hle8
  replace hN2 := hN2.mono hle8
  replace hD2 := hD2.mono hle8
  replace hU := hU.mono hle8
  replace hV := hV.mono hle8
  obtain ⟨A5, n5, c5, rfl, hG⟩ := hp8
  refine zM rfl hst rfl ?_
  refine zM rfl hst rfl ?_
  refine stepK_call rfl rfl rfl rfl rfl hst (num_product hst.agree hD1 hD2 (by omega) (by omega)) ?_
  clear hst
  intro v9 g9 w9 hst hle9 hcs9 hp9
  replace ha := ha.mono hle9
  replace hb := hb.mono hle9
  replace hN1 := hN1.mono hle9
  replace hD1 := hD1.mono hle9
  replace hN2 := hN2.mono hle9
  replace hD2 := hD2.mono hle9
  replace hU := hU.mono hle9
  replace hV := hV.mono hle9
  replace hG := hG.mono hle9
  obtain ⟨A6, n6, c6, rfl, hW⟩ := hp9
  have k3 := lenMul hW hfa.2 hfb.2
  have hWp : 0 < r.den * x.den := Nat.mul_pos (Nat.pos_of_ne_zero r.den_nz) (Nat.pos_of_ne_zero x.den_nz)
  have k4 : n5 ≤ 1099511627776 + 1099511627776 := by
    rcases Nat.eq_zero_or_pos (r.num.natAbs * x.den) with h0 | h0
    rw [h0, Nat.gcd_zero_left] at hG
    exact lenMul hG hfb.1 hfa.2
    exact lenLe hG (Nat.gcd_le_left _ h0) hfa.1 hfb.2
  refine stepK_call rfl rfl rfl rfl rfl hst (num_reduce (neg := false) hst.agree hG hW hWp (by omega) (by omega)) ?_
  clear hst
  intro v10 g10 w10 hst hle10 hcs10 hp10
  replace ha := ha.mono hle10
  replace hb := hb.mono hle10
  replace hN1 := hN1.mono hle10
  replace hD1 := hD1.mono hle10
  replace hN2 := hN2.mono hle10
  replace hD2 := hD2.mono hle10
  replace hU := hU.mono hle10
  replace hV := hV.mono hle10
  replace hG := hG.mono hle10
  replace hW := hW.mono hle10
  obtain ⟨p9, q9, a9, rfl, hr9⟩ := hp10
  refine stepK_store 2 rfl rfl rfl rfl rfl rfl zf31 rfl rfl hst rfl (by first | (simp [uN_length]; omega) | simp) ?_
  clear hst
  intro w11 hst
  simp only [zL, splice, Nat.reduceAdd] at hst
  refine znt ?_
  refine cp_ret ?_
  refine ret1c (k := 2) rfl rfl (by kernel_rfl) (by kernel_rfl) rfl hst rfl ?_
  exact ⟨_, _, _, rfl, hr9⟩

end Go.Proofs.YtbamjcfdlgnicaaGreatDoor

namespace Go.Proofs.YtbamjcfdlgnicaaGreatDoor
open Go Go.RowKit Go.Proofs.Vc
set_option linter.unusedVariables false
set_option linter.unusedSimpArgs false

set_option maxHeartbeats 1000000 in
theorem num_power {g : Mem} {w : World} (hag : Agree g w) {A : Option Addr} {n c N k e : Nat} (ha : IsNat g A n N) (hN : N < 10 ^ k) (hk : k ≤ 100000000) (he : e ≤ 1000) :
    CallTo Tryz.prog 166 #[.slice A n c, .int .i64 (e : Int)] w (Ret w g fun v g => ∃ A n c, v = .slice A n c ∧ IsNat g A n (N ^ e)) := by
  refine CallTo.enter (vs := [.slice A n c, .int .i64 (e : Int)]) zf161 (by kernel_rfl) rfl rfl rfl ?_
  have hst := St.init hag
  refine zsr ?_
  refine zA rfl hst rfl ?_
  refine zn4 ?_
  refine stepK_buildSlice rfl rfl rfl rfl zf1 zf2 rfl rfl (by decide) (by decide) (by decide) rfl rfl hst ?_
  clear hst
  intro bl w1 hst
  obtain ⟨g1, hst, hle1, h1⟩ := hst.lit (x := 1) (by decide) (by decide)
  replace ha := ha.mono hle1
  refine zA rfl hst rfl ?_
  refine znq ?_
  refine cp_block ?_
  refine cp_loop (ι := (Option Addr × Nat × Nat × Nat) × (Option Addr × Nat × Nat × Nat) × Nat) (fun ((A1, n1, c1, i), (B1, m1, d1, f), j) => [(0, .slice A1 n1 c1), (1, .int .i64 (j : Int)), (5, .slice B1 m1 d1)]) (fun ((A1, n1, c1, i), (B1, m1, d1, f), j) w1 => ∃ g1, St w [] g g1 [] w1 ∧ IsNat g1 A1 n1 (N ^ i) ∧ IsNat g1 B1 m1 (N ^ f) ∧ i * j + f = e ∧ j ≤ e ∧ 0 < i ∧ (0 < j → i ≤ e)) (fun ((A1, n1, c1, i), (B1, m1, d1, f), j) => j) ((A, n, c, 1), (some ⟨bl, 0, none⟩, 1, 1, 0), e) ?k2 ?i2 ?r2
  case k2 => exact ⟨rfl, rfl, rfl, trivial⟩
  case i2 =>
    exact ⟨_, hst, by rw [Nat.pow_one]; exact ha, by rw [Nat.pow_zero]; exact h1, by omega, Nat.le_refl _, by decide, fun h => h⟩
  case r2 =>
    clear hst
    rintro ⟨⟨A1, n1, c1, i⟩, ⟨B1, m1, d1, f⟩, j⟩ w1 ⟨g1, hst, hX, hO, hij, hje, hi0, hie⟩
    refine cp_seq ?_
    refine zsr ?_
    refine zM rfl hst rfl ?_
    refine stepK_d rfl rfl rfl hst (does_gtr rfl rfl rfl) ?_
    refine znt ?_
    refine cp_if rfl ?_ ?_
    intro c8
    have hj0 : 0 < j := by omega
    refine cp_skip ?_
    refine cp_then ?_
    refine cp_seq ?_
    refine cp_block ?_
    refine cp_seq ?_
    refine cp_seq ?_
    have lX := pow_len hX rfl hN (hie hj0)
    have lO := pow_len hO rfl hN (show f ≤ e by omega)
    have hke : k * e ≤ 100000000 * 1000 := Nat.mul_le_mul hk he
    refine cp_region ?_
    refine zM rfl hst rfl ?_
    refine stepK_d rfl rfl rfl hst (does_odd_i64 rfl rfl rfl (by omega)) ?_
    refine stepK_d rfl rfl rfl hst (does_eql rfl rfl rfl) ?_
    refine znt ?_
    refine cp_if rfl ?_ ?_
    intro c13
    have c13n : j % 2 = 1 := by omega
    refine cp_region ?_
    refine zM rfl hst rfl ?_
    refine zM rfl hst rfl ?_
    refine stepK_call rfl rfl rfl rfl rfl hst (num_product hst.agree hO hX (by omega) (by omega)) ?_
    clear hst
    intro v3 g3 w3 hst hle3 hcs3 hp3
    replace hX := hX.mono hle3
    replace hO := hO.mono hle3
    obtain ⟨A4, n4, c4, rfl, hOX⟩ := hp3
    refine zA rfl hst rfl ?_
    refine zn4 ?_
    refine zM rfl hst rfl ?_
    refine stepK_d rfl rfl rfl hst (does_gtr rfl rfl rfl) ?_
    refine znt ?_
    refine cp_if rfl ?_ ?_
    intro c18
    refine cp_region ?_
    refine zM rfl hst rfl ?_
    refine zM rfl hst rfl ?_
    refine stepK_call rfl rfl rfl rfl rfl hst (num_product hst.agree hX hX (by omega) (by omega)) ?_
    clear hst
    intro v4 g4 w4 hst hle4 hcs4 hp4
    replace hX := hX.mono hle4
    replace hO := hO.mono hle4
    replace hOX := hOX.mono hle4
    obtain ⟨A5, n5, c5, rfl, hXX⟩ := hp4
    refine zA rfl hst rfl ?_
    refine wpK_nil ?_
    refine at_block_normal ?_
    refine cp_then ?_
    refine cp_region ?_
    refine zM rfl hst rfl ?_
    refine stepK_d rfl rfl rfl hst (does_half_i64 rfl rfl rfl) ?_
    refine zA rfl hst rfl ?_
    refine wpK_nil ?_
    obtain ⟨hp1, hp2⟩ := half_odd hij c13n
    have hj2 : 1 < j := by omega
    refine round_end (((A5, n5, c5, i + i), (A4, n4, c4, f + i), j / 2)) ?_ ?_ ?_
    exact ⟨rfl, rfl, rfl, trivial⟩
    exact ⟨_, hst, by rw [Nat.pow_add]; exact hXX, by rw [Nat.pow_add]; exact hOX, by rw [Nat.add_mul]; omega, by omega, by omega, fun _ => by have := half_le hij hj2; omega⟩
    show j / 2 < j
    omega
    intro c18
    refine cp_skip ?_
    refine at_block_normal ?_
    refine cp_then ?_
    refine cp_region ?_
    refine zM rfl hst rfl ?_
    refine stepK_d rfl rfl rfl hst (does_half_i64 rfl rfl rfl) ?_
    refine zA rfl hst rfl ?_
    refine wpK_nil ?_
    obtain ⟨hp1, hp2⟩ := half_odd hij c13n
    have hj1 : j = 1 := by omega
    refine round_end (((A1, n1, c1, i), (A4, n4, c4, f + i), j / 2)) ?_ ?_ ?_
    exact ⟨rfl, rfl, rfl, trivial⟩
    subst hj1
    exact ⟨_, hst, hX, by rw [Nat.pow_add]; exact hOX, by simp; omega, by omega, hi0, fun h => by omega⟩
    show j / 2 < j
    omega
    intro c13
    have c13n : j % 2 = 0 := by omega
    refine zk4 ?_
    refine zM rfl hst rfl ?_
    refine stepK_d rfl rfl rfl hst (does_gtr rfl rfl rfl) ?_
    refine znt ?_
    refine cp_if rfl ?_ ?_
    intro c18
    refine cp_region ?_
    refine zM rfl hst rfl ?_
    refine zM rfl hst rfl ?_
    refine stepK_call rfl rfl rfl rfl rfl hst (num_product hst.agree hX hX (by omega) (by omega)) ?_
    clear hst
    intro v5 g5 w5 hst hle5 hcs5 hp5
    replace hX := hX.mono hle5
    replace hO := hO.mono hle5
    obtain ⟨A5, n5, c5, rfl, hXX⟩ := hp5
    refine zA rfl hst rfl ?_
    refine wpK_nil ?_
    refine at_block_normal ?_
    refine cp_then ?_
    refine cp_region ?_
    refine zM rfl hst rfl ?_
    refine stepK_d rfl rfl rfl hst (does_half_i64 rfl rfl rfl) ?_
    refine zA rfl hst rfl ?_
    refine wpK_nil ?_
    obtain ⟨hp1, hp2⟩ := half_even hij c13n
    have hj2 : 1 < j := by omega
    refine round_end (((A5, n5, c5, i + i), (B1, m1, d1, f), j / 2)) ?_ ?_ ?_
    exact ⟨rfl, rfl, rfl, trivial⟩
    exact ⟨_, hst, by rw [Nat.pow_add]; exact hXX, hO, by rw [Nat.add_mul]; omega, by omega, by omega, fun _ => by have := half_le hij hj2; omega⟩
    show j / 2 < j
    omega
    intro c18
    refine cp_skip ?_
    refine at_block_normal ?_
    refine cp_then ?_
    refine cp_region ?_
    refine zM rfl hst rfl ?_
    refine stepK_d rfl rfl rfl hst (does_half_i64 rfl rfl rfl) ?_
    refine zA rfl hst rfl ?_
    refine wpK_nil ?_
    exfalso
    omega
    intro c8
    refine cp_exit ?_
    refine at_then_exit ?_
    refine at_then_exit ?_
    refine cp_exit_here ?_
    refine cp_then ?_
    refine zsr ?_
    refine zM rfl hst rfl ?_
    refine zA rfl hst rfl ?_
    refine znt ?_
    refine cp_ret ?_
    refine ret1 rfl rfl hst ?_
    obtain rfl : j = 0 := by omega
    refine ⟨_, _, _, rfl, ?_⟩
    rw [← hij, Nat.mul_zero, Nat.zero_add]
    exact hO

set_option maxHeartbeats 1000000 in
theorem Rat_PowP {g : Mem} {w : World} (hag : Agree g w) {p q : Int} {a : Option Addr} {r : Rat} (ha : IsRat g p q a r) {e : Nat} {k : Nat} (hz : Sz k r) (hk : k ≤ 100000000) (he : e ≤ 1000) :
    CallTo Tryz.prog 120 #[.agg #[.int .i64 p, .int .i64 q, .pointer a], .int .i64 (e : Int)] w (Ret w g fun v g => ∃ p q a, v = .agg #[.int .i64 p, .int .i64 q, .pointer a] ∧ IsRat g p q a (r ^ e)) := by
  refine CallTo.enter (vs := [.agg #[.int .i64 p, .int .i64 q, .pointer a], .int .i64 (e : Int)]) zf162 (by kernel_rfl) rfl rfl rfl ?_
  have hst := St.init hag
  refine zsr ?_
  refine stepK_box rfl rfl rfl rfl rfl rfl hst ?_
  clear hst
  intro b1 w1 hst
  refine stepK_alloc rfl rfl rfl rfl zf29 rfl hst ?_
  clear hst
  intro b2 w2 hst
  refine znq ?_
  refine zsr ?_
  refine zM rfl hst rfl ?_
  refine stepK_d rfl rfl rfl hst (Does.no (does_lss rfl rfl rfl) (by omega)) ?_
  refine znt ?_
  refine cp_cond_false rfl ?_
  refine zk4 ?_
  refine stepK_d rfl rfl rfl hst (does_load_ownN 0 rfl (by kernel_rfl) zf31 rfl rfl rfl) ?_
  refine stepK_call rfl rfl rfl rfl rfl hst (Rat_parts hst.agree ha) ?_
  clear hst
  intro v3 g3 w3 hst hle3 hcs3 hp3
  replace ha := ha.mono hle3
  obtain ⟨A1, n1, c1, B1, m1, d1, rfl, hN1, hD1⟩ := hp3
  refine zM rfl hst rfl ?_
  refine zE rfl hst rfl rfl ?_
  refine zE rfl hst rfl rfl ?_
  refine zE rfl hst rfl rfl ?_
  refine zA rfl hst rfl ?_
  refine zA rfl hst rfl ?_
  refine zA rfl hst rfl ?_
  refine zn4 ?_
  refine zM rfl hst rfl ?_
  refine zM rfl hst rfl ?_
  refine wpK_splitb (t := 22) rfl ?_ ?_
  intro s22
  have hng : decide (r.num < 0) = true := s22
  refine stepK_guard rfl rfl rfl rfl rfl rfl hst (does_move rfl rfl) ?_
  refine stepK_guard rfl rfl rfl rfl rfl rfl hst (does_odd_i64 rfl rfl rfl (by omega)) ?_
  refine stepK_guard rfl rfl rfl rfl rfl rfl hst (does_eql rfl rfl rfl) ?_
  refine stepK_d rfl rfl rfl hst (does_pick_true rfl rfl rfl) ?_
  refine zM rfl hst rfl ?_
  refine zM rfl hst rfl ?_
  refine stepK_call rfl rfl rfl rfl rfl hst (num_power hst.agree hN1 hz.1 hk he) ?_
  clear hst
  intro v4 g4 w4 hst hle4 hcs4 hp4
  replace ha := ha.mono hle4
  replace hN1 := hN1.mono hle4
  replace hD1 := hD1.mono hle4
  obtain ⟨A3, n3, c3, rfl, hX⟩ := hp4
  refine zM rfl hst rfl ?_
  refine zM rfl hst rfl ?_
  refine stepK_call rfl rfl rfl rfl rfl hst (num_power hst.agree hD1 hz.2 hk he) ?_
  clear hst
  intro v5 g5 w5 hst hle5 hcs5 hp5
  replace ha := ha.mono hle5
  replace hN1 := hN1.mono hle5
  replace hD1 := hD1.mono hle5
  replace hX := hX.mono hle5
  obtain ⟨A4, n4, c4, rfl, hY⟩ := hp5
  refine stepK_call rfl rfl rfl rfl rfl hst (num_lowest (neg := decide (((e % 2 : Nat) : Int) = 1)) hst.agree hX hY (Nat.pow_pos (Nat.pos_of_ne_zero r.den_nz)) (Nat.Coprime.pow e e r.reduced)) ?_
  clear hst
  intro v6 g6 w6 hst hle6 hcs6 hp6
  replace ha := ha.mono hle6
  replace hN1 := hN1.mono hle6
  replace hD1 := hD1.mono hle6
  replace hX := hX.mono hle6
  replace hY := hY.mono hle6
  obtain ⟨p9, q9, a9, rfl, hr9⟩ := hp6
  refine stepK_store 1 rfl rfl rfl rfl rfl rfl zf31 rfl rfl hst rfl (by first | (simp [uN_length]; omega) | simp) ?_
  clear hst
  intro w7 hst
  simp only [zL, splice, Nat.reduceAdd] at hst
  refine znt ?_
  refine cp_ret ?_
  refine ret1c (k := 1) rfl rfl (by kernel_rfl) (by kernel_rfl) rfl hst rfl ?_
  rw [← rat_pow, hng, Bool.true_and]
  rw [show decide (((e % 2 : Nat) : Int) = 1) = decide (e % 2 = 1) from decide_eq_decide.2 (by omega)] at hr9
  exact ⟨_, _, _, rfl, hr9⟩
  intro s22
  have hng : decide (r.num < 0) = false := s22
  refine stepK_pass rfl rfl rfl rfl rfl rfl rfl ?_
  refine stepK_pass rfl rfl rfl rfl rfl rfl rfl ?_
  refine stepK_pass rfl rfl rfl rfl rfl rfl rfl ?_
  refine stepK_d rfl rfl rfl hst (does_pick_false rfl rfl rfl) ?_
  refine zM rfl hst rfl ?_
  refine zM rfl hst rfl ?_
  refine stepK_call rfl rfl rfl rfl rfl hst (num_power hst.agree hN1 hz.1 hk he) ?_
  clear hst
  intro v8 g8 w8 hst hle8 hcs8 hp8
  replace ha := ha.mono hle8
  replace hN1 := hN1.mono hle8
  replace hD1 := hD1.mono hle8
  obtain ⟨A3, n3, c3, rfl, hX⟩ := hp8
  refine zM rfl hst rfl ?_
  refine zM rfl hst rfl ?_
  refine stepK_call rfl rfl rfl rfl rfl hst (num_power hst.agree hD1 hz.2 hk he) ?_
  clear hst
  intro v9 g9 w9 hst hle9 hcs9 hp9
  replace ha := ha.mono hle9
  replace hN1 := hN1.mono hle9
  replace hD1 := hD1.mono hle9
  replace hX := hX.mono hle9
  obtain ⟨A4, n4, c4, rfl, hY⟩ := hp9
  refine stepK_call rfl rfl rfl rfl rfl hst (num_lowest (neg := false) hst.agree hX hY (Nat.pow_pos (Nat.pos_of_ne_zero r.den_nz)) (Nat.Coprime.pow e e r.reduced)) ?_
  clear hst
  intro v10 g10 w10 hst hle10 hcs10 hp10
  replace ha := ha.mono hle10
  replace hN1 := hN1.mono hle10
  replace hD1 := hD1.mono hle10
  replace hX := hX.mono hle10
  replace hY := hY.mono hle10
  obtain ⟨p9, q9, a9, rfl, hr9⟩ := hp10
  refine stepK_store 1 rfl rfl rfl rfl rfl rfl zf31 rfl rfl hst rfl (by first | (simp [uN_length]; omega) | simp) ?_
  clear hst
  intro w11 hst
  simp only [zL, splice, Nat.reduceAdd] at hst
  refine znt ?_
  refine cp_ret ?_
  refine ret1c (k := 1) rfl rfl (by kernel_rfl) (by kernel_rfl) rfl hst rfl ?_
  rw [← rat_pow, hng, Bool.false_and]
  exact ⟨_, _, _, rfl, hr9⟩

set_option maxHeartbeats 1000000 in
theorem Rat_PowN {g : Mem} {w : World} (hag : Agree g w) {p q : Int} {a : Option Addr} {r : Rat} (ha : IsRat g p q a r) {e : Nat} {k : Nat} (hz : Sz k r) (hk : k ≤ 100000000) (h0 : 0 < e) (he : e ≤ 1000) :
    CallTo Tryz.prog 120 #[.agg #[.int .i64 p, .int .i64 q, .pointer a], .int .i64 (-(e : Int))] w (Ret w g fun v g => ∃ p q a, v = .agg #[.int .i64 p, .int .i64 q, .pointer a] ∧ IsRat g p q a (r⁻¹ ^ e)) := by
  refine CallTo.enter (vs := [.agg #[.int .i64 p, .int .i64 q, .pointer a], .int .i64 (-(e : Int))]) zf162 (by kernel_rfl) rfl rfl rfl ?_
  have hst := St.init hag
  refine zsr ?_
  refine stepK_box rfl rfl rfl rfl rfl rfl hst ?_
  clear hst
  intro b1 w1 hst
  refine stepK_alloc rfl rfl rfl rfl zf29 rfl hst ?_
  clear hst
  intro b2 w2 hst
  refine znq ?_
  refine zsr ?_
  refine zM rfl hst rfl ?_
  refine stepK_d rfl rfl rfl hst (Does.yes (does_lss rfl rfl rfl) (by omega)) ?_
  refine znt ?_
  refine cp_cond_true rfl ?_
  refine zsr ?_
  refine stepK_d rfl rfl rfl hst (does_load_ownN 0 rfl (by kernel_rfl) zf31 rfl rfl rfl) ?_
  refine stepK_call rfl rfl rfl rfl rfl hst (Rat_Inv hst.agree ha) ?_
  clear hst
  intro v3 g3 w3 hst hle3 hcs3 hp3
  replace ha := ha.mono hle3
  obtain ⟨p8, q8, a8, rfl, h8⟩ := hp3
  refine zM rfl hst rfl ?_
  refine stepK_d rfl rfl rfl hst (Does.nat (b := e) (does_neg rfl rfl) (by rw [wrap_i64 (by omega) (by omega)]; omega)) ?_
  refine stepK_call rfl rfl rfl rfl rfl hst (Rat_PowP hst.agree h8 hz.inv hk he) ?_
  clear hst
  intro v4 g4 w4 hst hle4 hcs4 hp4
  replace ha := ha.mono hle4
  replace h8 := h8.mono hle4
  obtain ⟨p9, q9, a9, rfl, hr9⟩ := hp4
  refine stepK_store 1 rfl rfl rfl rfl rfl rfl zf31 rfl rfl hst rfl (by first | (simp [uN_length]; omega) | simp) ?_
  clear hst
  intro w5 hst
  simp only [zL, splice, Nat.reduceAdd] at hst
  refine zn5 ?_
  refine ret1c (k := 1) rfl rfl (by kernel_rfl) (by kernel_rfl) rfl hst rfl ?_
  exact ⟨_, _, _, rfl, hr9⟩

end Go.Proofs.YtbamjcfdlgnicaaGreatDoor

namespace Go.Proofs.YtbamjcfdlgnicaaGreatDoor
open Go Go.RowKit Go.Proofs.Vc
set_option linter.unusedVariables false
set_option linter.unusedSimpArgs false

set_option maxHeartbeats 1000000 in
theorem rational_Root {g : Mem} {w : World} (hag : Agree g w) (hT : TabG Tryz.prog g) {a : ByteArray} (ha : a.size < 50000000) :
    CallTo Tryz.prog 73 #[.string a] w (Ret w g fun v g => v = .tuple #[.string (if SqR (getR a) then ratS (rootR (getR a)) else ⟨#[]⟩), .bool (decide (SqR (getR a)))]) := by
  refine CallTo.enter (vs := [.string a]) zf163 (by kernel_rfl) rfl rfl rfl ?_
  have hst := St.init hag
  have sa := getR_sz a
  refine zsr ?_
  refine zA rfl hst rfl ?_
  refine zA rfl hst rfl ?_
  refine zn4 ?_
  refine zM rfl hst rfl ?_
  refine stepK_call rfl rfl rfl rfl rfl hst (num_Get hst.agree (by omega)) ?_
  clear hst
  intro v1 g1 w1 hst hle1 hcs1 hp1
  replace hT := hT.mono hle1
  obtain ⟨p1, q1, a1, rfl, h1⟩ := hp1
  refine stepK_call rfl rfl rfl rfl rfl hst (Rat_Sqrt hst.agree h1 sa (by omega)) ?_
  clear hst
  intro v2 g2 w2 hst hle2 hcs2 hp2
  replace hT := hT.mono hle2
  replace h1 := h1.mono hle2
  obtain ⟨p3, q3, a3, rfl, h3⟩ := hp2
  refine zM rfl hst rfl ?_
  refine zE rfl hst rfl rfl ?_
  refine zE rfl hst rfl rfl ?_
  refine stepK_alloc rfl rfl rfl rfl zf29 rfl hst ?_
  clear hst
  intro b3 w3 hst
  refine stepK_store 0 rfl rfl rfl rfl rfl rfl zf31 rfl rfl hst rfl (by first | (simp [uN_length]; omega) | simp) ?_
  clear hst
  intro w4 hst
  simp only [zL, splice, Nat.reduceAdd] at hst
  refine zA rfl hst rfl ?_
  refine znq ?_
  refine zsr ?_
  refine zM rfl hst rfl ?_
  refine stepK_d rfl rfl rfl hst (does_not rfl rfl) ?_
  refine znt ?_
  refine cp_cond rfl ?_ ?_
  intro c13
  have hno := dec_no c13
  refine zsr ?_
  refine zA rfl hst rfl ?_
  refine zA rfl hst rfl ?_
  refine zn5 ?_
  refine ret2 rfl rfl rfl hst ?_
  rw [if_neg hno, decide_eq_false hno]
  intro c13
  have hyes := dec_of c13
  refine zk4 ?_
  refine stepK_d rfl rfl rfl hst (does_load_ownN 0 rfl (by kernel_rfl) zf31 rfl rfl rfl) ?_
  refine stepK_call rfl rfl rfl rfl rfl hst (Rat_String hst.agree hT h3 ((rootR_sz sa).fit (by omega))) ?_
  clear hst
  intro v5 g5 w5 hst hle5 hcs5 hp5
  replace hT := hT.mono hle5
  replace h1 := h1.mono hle5
  replace h3 := h3.mono hle5
  obtain rfl := hp5
  refine zA rfl hst rfl ?_
  refine zA rfl hst rfl ?_
  refine znt ?_
  refine cp_ret ?_
  refine ret2 rfl rfl rfl hst ?_
  rw [if_pos hyes, decide_eq_true hyes]

set_option maxHeartbeats 1000000 in
theorem rational_GCD {g : Mem} {w : World} (hag : Agree g w) (hT : TabG Tryz.prog g) {a b : ByteArray} (ha : a.size < 50000000) (hb : b.size < 50000000) :
    CallTo Tryz.prog 79 #[.string a, .string b] w (Ret w g fun v g => v = .string (ratS (gcdR (getR a) (getR b)))) := by
  refine CallTo.enter (vs := [.string a, .string b]) zf164 (by kernel_rfl) rfl rfl rfl ?_
  have hst := St.init hag
  have sa := getR_sz a
  have sb := getR_sz b
  have fa := sa.fit (by omega)
  have fb := sb.fit (by omega)
  refine zsr ?_
  refine zA rfl hst rfl ?_
  refine zn4 ?_
  refine zM rfl hst rfl ?_
  refine stepK_call rfl rfl rfl rfl rfl hst (num_Get hst.agree (by omega)) ?_
  clear hst
  intro v1 g1 w1 hst hle1 hcs1 hp1
  replace hT := hT.mono hle1
  obtain ⟨p1, q1, a1, rfl, h1⟩ := hp1
  refine zM rfl hst rfl ?_
  refine stepK_call rfl rfl rfl rfl rfl hst (num_Get hst.agree (by omega)) ?_
  clear hst
  intro v2 g2 w2 hst hle2 hcs2 hp2
  replace hT := hT.mono hle2
  replace h1 := h1.mono hle2
  obtain ⟨p2, q2, a2, rfl, h2⟩ := hp2
  refine stepK_call rfl rfl rfl rfl rfl hst (num_GCD hst.agree h1 h2 fa fb) ?_
  clear hst
  intro v3 g3 w3 hst hle3 hcs3 hp3
  replace hT := hT.mono hle3
  replace h1 := h1.mono hle3
  replace h2 := h2.mono hle3
  obtain ⟨p3, q3, a3, rfl, h3⟩ := hp3
  refine stepK_call rfl rfl rfl rfl rfl hst (Rat_String hst.agree hT h3 ((gcdR_sz sa sb).fit (by omega))) ?_
  clear hst
  intro v4 g4 w4 hst hle4 hcs4 hp4
  replace hT := hT.mono hle4
  replace h1 := h1.mono hle4
  replace h2 := h2.mono hle4
  replace h3 := h3.mono hle4
  obtain rfl := hp4
  refine zA rfl hst rfl ?_
  refine znt ?_
  refine cp_ret ?_
  refine ret1 rfl rfl hst ?_
  rfl

set_option maxHeartbeats 1000000 in
theorem rational_Bits {g : Mem} {w : World} (hag : Agree g w) {a : ByteArray} (ha : a.size < 50000000) :
    CallTo Tryz.prog 81 #[.string a] w (Ret w g fun v g => v = .int .i64 ((bitLen (getR a).num.natAbs + bitLen (getR a).den : Nat) : Int)) := by
  refine CallTo.enter (vs := [.string a]) zf165 (by kernel_rfl) rfl rfl rfl ?_
  have hst := St.init hag
  have sa := getR_sz a
  have fa := sa.fit (by omega)
  have hb1 := bitLen_sz sa.1
  have hb2 := bitLen_sz sa.2
  refine zsr ?_
  refine zA rfl hst rfl ?_
  refine zn4 ?_
  refine zM rfl hst rfl ?_
  refine stepK_call rfl rfl rfl rfl rfl hst (num_Get hst.agree (by omega)) ?_
  clear hst
  intro v1 g1 w1 hst hle1 hcs1 hp1
  obtain ⟨p1, q1, a1, rfl, h1⟩ := hp1
  refine stepK_call rfl rfl rfl rfl rfl hst (Rat_Bits hst.agree h1 fa) ?_
  clear hst
  intro v2 g2 w2 hst hle2 hcs2 hp2
  replace h1 := h1.mono hle2
  obtain rfl := hp2
  refine zM rfl hst rfl ?_
  refine zE rfl hst rfl rfl ?_
  refine zE rfl hst rfl rfl ?_
  refine zA rfl hst rfl ?_
  refine zA rfl hst rfl ?_
  refine zn4 ?_
  refine zM rfl hst rfl ?_
  refine zM rfl hst rfl ?_
  refine stepK_d rfl rfl rfl hst (Does.int (does_add rfl rfl rfl) (show _ = ((bitLen (getR a).num.natAbs + bitLen (getR a).den : Nat) : Int) by rw [wrap_i64 (by omega) (by omega)]; omega)) ?_
  refine zA rfl hst rfl ?_
  refine znt ?_
  refine cp_ret ?_
  refine ret1 rfl rfl hst ?_
  rfl


theorem CallTo_pow {g : Mem} {w : World} {p q : Int} {a : Option Addr} {r : Rat} (h : IsRat g p q a r) {k : Nat} (hz : Sz k r) (hk : k ≤ 100000000) {n : Int} (hn : n.natAbs ≤ 1000) (hag : Agree g w) :
    CallTo Tryz.prog 120 #[.agg #[.int .i64 p, .int .i64 q, .pointer a], .int .i64 n] w (Ret w g fun v g => ∃ p q a, v = .agg #[.int .i64 p, .int .i64 q, .pointer a] ∧ IsRat g p q a (powR r n)) := by
  unfold powR
  rcases Int.lt_or_le n 0 with h0 | h0
  rw [if_pos h0]
  have := Rat_PowN hag h hz hk (e := n.natAbs) (by omega) hn
  rw [show -((n.natAbs : Nat) : Int) = n by omega] at this
  exact this
  rw [if_neg (by omega)]
  have := Rat_PowP hag h hz hk (e := n.natAbs) hn
  rw [show ((n.natAbs : Nat) : Int) = n by omega] at this
  exact this

set_option maxHeartbeats 1000000 in
theorem rational_Pow {g : Mem} {w : World} (hag : Agree g w) (hT : TabG Tryz.prog g) {a : ByteArray} (ha : a.size < 50000) {n : Int} :
    CallTo Tryz.prog 60 #[.string a, .int .i64 n] w (Ret w g fun v g => v = .tuple #[.string (if ((-1000 ≤ n ∧ n ≤ 1000) ∧ ¬ (n < 0 ∧ getR a = 0)) then ratS (powR (getR a) n) else ⟨#[]⟩), .bool (decide ((-1000 ≤ n ∧ n ≤ 1000) ∧ ¬ (n < 0 ∧ getR a = 0)))]) := by
  refine CallTo.enter (vs := [.string a, .int .i64 n]) zf166 (by kernel_rfl) rfl rfl rfl ?_
  have hst := St.init hag
  have sa := getR_sz a
  refine zsr ?_
  refine zA rfl hst rfl ?_
  refine zA rfl hst rfl ?_
  refine zn4 ?_
  refine zM rfl hst rfl ?_
  refine stepK_call rfl rfl rfl rfl rfl hst (num_Get hst.agree (by omega)) ?_
  clear hst
  intro v1 g1 w1 hst hle1 hcs1 hp1
  replace hT := hT.mono hle1
  obtain ⟨p1, q1, a1, rfl, h1⟩ := hp1
  refine stepK_alloc rfl rfl rfl rfl zf29 rfl hst ?_
  clear hst
  intro b2 w2 hst
  refine stepK_store 0 rfl rfl rfl rfl rfl rfl zf31 rfl rfl hst rfl (by first | (simp [uN_length]; omega) | simp) ?_
  clear hst
  intro w3 hst
  simp only [zL, splice, Nat.reduceAdd] at hst
  refine znq ?_
  refine zsr ?_
  refine zM rfl hst rfl ?_
  refine stepK_d rfl rfl rfl hst (does_lss rfl rfl rfl) ?_
  refine zM rfl hst rfl ?_
  refine wpK_split (t := 11) rfl ?_ ?_
  intro s11
  have hno : ¬ ((-1000 ≤ n ∧ n ≤ 1000) ∧ ¬ (n < 0 ∧ getR a = 0)) := fun h => by have := h.1; omega
  refine stepK_pass rfl rfl rfl rfl rfl rfl rfl ?_
  refine stepK_pass rfl rfl rfl rfl rfl rfl rfl ?_
  refine stepK_d rfl rfl rfl hst (does_pick_true rfl rfl rfl) ?_
  refine zM rfl hst rfl ?_
  refine stepK_pass rfl rfl rfl rfl rfl rfl rfl ?_
  refine stepK_pass rfl rfl rfl rfl rfl rfl rfl ?_
  refine stepK_pass rfl rfl rfl rfl rfl rfl rfl ?_
  refine stepK_passU rfl rfl rfl rfl rfl rfl ?_
  refine stepK_passU rfl rfl rfl rfl rfl rfl ?_
  refine stepK_pass rfl rfl rfl rfl rfl rfl rfl ?_
  refine stepK_d rfl rfl rfl hst (does_pick_true rfl rfl rfl) ?_
  refine znt ?_
  refine cp_cond_true rfl ?_
  refine zsr ?_
  refine zA rfl hst rfl ?_
  refine zA rfl hst rfl ?_
  refine zn5 ?_
  refine ret2 rfl rfl rfl hst ?_
  rw [if_neg hno, decide_eq_false hno]
  intro s11
  refine stepK_guard rfl rfl rfl rfl rfl rfl hst (does_move rfl rfl) ?_
  refine stepK_guard rfl rfl rfl rfl rfl rfl hst (does_gtr rfl rfl rfl) ?_
  refine stepK_d rfl rfl rfl hst (does_pick_false rfl rfl rfl) ?_
  refine zM rfl hst rfl ?_
  refine wpK_split (t := 15) rfl ?_ ?_
  intro s15
  have hno : ¬ ((-1000 ≤ n ∧ n ≤ 1000) ∧ ¬ (n < 0 ∧ getR a = 0)) := fun h => by have := h.1; omega
  refine stepK_pass rfl rfl rfl rfl rfl rfl rfl ?_
  refine stepK_pass rfl rfl rfl rfl rfl rfl rfl ?_
  refine stepK_pass rfl rfl rfl rfl rfl rfl rfl ?_
  refine stepK_passU rfl rfl rfl rfl rfl rfl ?_
  refine stepK_passU rfl rfl rfl rfl rfl rfl ?_
  refine stepK_pass rfl rfl rfl rfl rfl rfl rfl ?_
  refine stepK_d rfl rfl rfl hst (does_pick_true rfl rfl rfl) ?_
  refine znt ?_
  refine cp_cond_true rfl ?_
  refine zsr ?_
  refine zA rfl hst rfl ?_
  refine zA rfl hst rfl ?_
  refine zn5 ?_
  refine ret2 rfl rfl rfl hst ?_
  rw [if_neg hno, decide_eq_false hno]
  intro s15
  have hb1 : -1000 ≤ n ∧ n ≤ 1000 := by omega
  refine stepK_guard rfl rfl rfl rfl rfl rfl hst (does_load_ownN 0 rfl (by kernel_rfl) zf31 rfl rfl rfl) ?_
  refine stepK_call_guard rfl rfl rfl rfl rfl rfl rfl rfl hst (Rat_Zero hst.agree h1) ?_
  clear hst
  intro v4 g4 w4 hst hle4 hcs4 hp4
  replace hT := hT.mono hle4
  replace h1 := h1.mono hle4
  obtain rfl := hp4
  refine stepK_guard rfl rfl rfl rfl rfl rfl hst (does_move rfl rfl) ?_
  refine wpK_splitb (t := 18) rfl ?_ ?_
  intro s18
  refine stepK_guard rfl rfl rfl rfl rfl rfl hst (does_move rfl rfl) ?_
  refine stepK_guard rfl rfl rfl rfl rfl rfl hst (does_lss rfl rfl rfl) ?_
  refine stepK_guard rfl rfl rfl rfl rfl rfl hst (does_pick_true rfl rfl rfl) ?_
  refine stepK_d rfl rfl rfl hst (does_pick_false rfl rfl rfl) ?_
  refine znt ?_
  refine cp_if rfl ?_ ?_
  intro c22
  have hno : ¬ ((-1000 ≤ n ∧ n ≤ 1000) ∧ ¬ (n < 0 ∧ getR a = 0)) := fun h => h.2 ⟨c22, of_decide_eq_true s18⟩
  refine zsr ?_
  refine zA rfl hst rfl ?_
  refine zA rfl hst rfl ?_
  refine zn5 ?_
  refine ret2 rfl rfl rfl hst ?_
  rw [if_neg hno, decide_eq_false hno]
  intro c22
  refine zk4 ?_
  refine stepK_d rfl rfl rfl hst (does_load_ownN 0 rfl (by kernel_rfl) zf31 rfl rfl rfl) ?_
  refine zM rfl hst rfl ?_
  have hyes : ((-1000 ≤ n ∧ n ≤ 1000) ∧ ¬ (n < 0 ∧ getR a = 0)) := ⟨hb1, fun h => by first | exact c22 h.1 | exact of_decide_eq_false s18 h.2⟩
  obtain ⟨e, he⟩ : ∃ e, e = n.natAbs := ⟨_, rfl⟩
  have hsz := powR_sz sa n
  have hke : (a.size + 1) * n.natAbs ≤ 50000 * 1000 := Nat.mul_le_mul (by omega) (by omega)
  refine stepK_call rfl rfl rfl rfl rfl hst (CallTo_pow h1 sa (by omega) (by omega) hst.agree) ?_
  clear hst
  intro v5 g5 w5 hst hle5 hcs5 hp5
  replace hT := hT.mono hle5
  replace h1 := h1.mono hle5
  obtain ⟨p3, q3, a3, rfl, h3⟩ := hp5
  refine stepK_call rfl rfl rfl rfl rfl hst (Rat_String hst.agree hT h3 (hsz.fit (by omega))) ?_
  clear hst
  intro v6 g6 w6 hst hle6 hcs6 hp6
  replace hT := hT.mono hle6
  replace h1 := h1.mono hle6
  replace h3 := h3.mono hle6
  obtain rfl := hp6
  refine zA rfl hst rfl ?_
  refine zA rfl hst rfl ?_
  refine znt ?_
  refine cp_ret ?_
  refine ret2 rfl rfl rfl hst ?_
  rw [if_pos hyes, decide_eq_true hyes]
  intro s18
  refine stepK_pass rfl rfl rfl rfl rfl rfl rfl ?_
  refine stepK_pass rfl rfl rfl rfl rfl rfl rfl ?_
  refine stepK_guard rfl rfl rfl rfl rfl rfl hst (does_pick_false rfl rfl rfl) ?_
  refine stepK_d rfl rfl rfl hst (does_pick_false rfl rfl rfl) ?_
  refine znt ?_
  refine cp_cond_false rfl ?_
  refine zk4 ?_
  refine stepK_d rfl rfl rfl hst (does_load_ownN 0 rfl (by kernel_rfl) zf31 rfl rfl rfl) ?_
  refine zM rfl hst rfl ?_
  have hyes : ((-1000 ≤ n ∧ n ≤ 1000) ∧ ¬ (n < 0 ∧ getR a = 0)) := ⟨hb1, fun h => by first | exact c22 h.1 | exact of_decide_eq_false s18 h.2⟩
  obtain ⟨e, he⟩ : ∃ e, e = n.natAbs := ⟨_, rfl⟩
  have hsz := powR_sz sa n
  have hke : (a.size + 1) * n.natAbs ≤ 50000 * 1000 := Nat.mul_le_mul (by omega) (by omega)
  refine stepK_call rfl rfl rfl rfl rfl hst (CallTo_pow h1 sa (by omega) (by omega) hst.agree) ?_
  clear hst
  intro v7 g7 w7 hst hle7 hcs7 hp7
  replace hT := hT.mono hle7
  replace h1 := h1.mono hle7
  obtain ⟨p3, q3, a3, rfl, h3⟩ := hp7
  refine stepK_call rfl rfl rfl rfl rfl hst (Rat_String hst.agree hT h3 (hsz.fit (by omega))) ?_
  clear hst
  intro v8 g8 w8 hst hle8 hcs8 hp8
  replace hT := hT.mono hle8
  replace h1 := h1.mono hle8
  replace h3 := h3.mono hle8
  obtain rfl := hp8
  refine zA rfl hst rfl ?_
  refine zA rfl hst rfl ?_
  refine znt ?_
  refine cp_ret ?_
  refine ret2 rfl rfl rfl hst ?_
  rw [if_pos hyes, decide_eq_true hyes]

end Go.Proofs.YtbamjcfdlgnicaaGreatDoor
