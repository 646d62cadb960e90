/- The walks of functions, printed by a program of this session out of its specs. -/
import Derived.Test.YtcjhnkmoloiepaaDoorF5
import Derived.Test.YtcjhnkmoloiepaaDoorF6
import Derived.Test.YtcjhnkmoloiepaaDoorQX
import Derived.Test.YtcjhnkmoloiepaaDoorProg
import Derived.Test.YtcjhnkmoloiepaaDoorF0
namespace Go.Proofs.YtcjhnkmoloiepaaDoor
open Go Go.RowKit Go.Proofs.Vc
set_option linter.unusedVariables false
set_option linter.unusedSimpArgs false

set_option maxHeartbeats 1000000 in
theorem Rat_Num {g : Mem} {w : World} (hag : Agree g w) {p q : Int} {a : Option Addr} {r : Rat} (ha : IsRat g p q a r) :
    CallTo Tryd.prog 32 #[.agg #[.int .i64 p, .int .i64 q, .pointer a]] w (Ret w g fun v g => ∃ p q a, v = .agg #[.int .i64 p, .int .i64 q, .pointer a] ∧ IsRat g p q a ((r.num : Rat))) := by
  refine CallTo.enter (vs := [.agg #[.int .i64 p, .int .i64 q, .pointer a]]) zf76 (by kernel_rfl) rfl rfl rfl ?_
  have hst := St.init hag
  refine zsr ?_
  refine stepK_box rfl rfl rfl rfl rfl rfl hst ?_
  clear hst
  intro b1 w1 hst
  refine stepK_alloc rfl rfl rfl rfl zf29 rfl hst ?_
  clear hst
  intro b2 w2 hst
  refine zn4 ?_
  refine stepK_d rfl rfl rfl hst (does_load_ownN 0 rfl (by kernel_rfl) zf31 rfl rfl rfl) ?_
  refine stepK_call rfl rfl rfl rfl rfl hst (Rat_parts hst.agree ha) ?_
  clear hst
  intro v3 g3 w3 hst hle3 hcs3 hp3
  replace ha := ha.mono hle3
  obtain ⟨A1, n1, c1, B1, m1, d1, rfl, hN1, hD1⟩ := hp3
  refine zM rfl hst rfl ?_
  refine zE rfl hst rfl rfl ?_
  refine zE rfl hst rfl rfl ?_
  refine zE rfl hst rfl rfl ?_
  refine zA rfl hst rfl ?_
  refine zA rfl hst rfl ?_
  refine zA rfl hst rfl ?_
  refine zn4 ?_
  refine zM rfl hst rfl ?_
  refine zM rfl hst rfl ?_
  refine stepK_buildSlice rfl rfl rfl rfl zf1 zf2 rfl rfl (by decide) (by decide) (by decide) rfl rfl hst ?_
  clear hst
  intro b4 w4 hst
  obtain ⟨g4, hst, hle4, h1⟩ := hst.lit (x := 1) (by decide) (by decide)
  replace ha := ha.mono hle4
  replace hN1 := hN1.mono hle4
  replace hD1 := hD1.mono hle4
  refine stepK_call rfl rfl rfl rfl rfl hst (num_lowest hst.agree hN1 h1 (by decide) (Nat.gcd_one_right _)) ?_
  clear hst
  intro v5 g5 w5 hst hle5 hcs5 hp5
  replace ha := ha.mono hle5
  replace hN1 := hN1.mono hle5
  replace hD1 := hD1.mono hle5
  replace h1 := h1.mono hle5
  obtain ⟨p9, q9, a9, rfl, hr9⟩ := hp5
  refine stepK_store 1 rfl rfl rfl rfl rfl rfl zf31 rfl rfl hst rfl (by first | (simp [uN_length]; omega) | simp) ?_
  clear hst
  intro w6 hst
  simp only [zL, splice, Nat.reduceAdd] at hst
  refine znt ?_
  refine cp_ret ?_
  refine ret1c (k := 1) rfl rfl (by kernel_rfl) (by kernel_rfl) rfl hst rfl ?_
  rw [mkRat_one, sg_num] at hr9
  exact ⟨_, _, _, rfl, hr9⟩

set_option maxHeartbeats 1000000 in
theorem Rat_Den {g : Mem} {w : World} (hag : Agree g w) {p q : Int} {a : Option Addr} {r : Rat} (ha : IsRat g p q a r) :
    CallTo Tryd.prog 33 #[.agg #[.int .i64 p, .int .i64 q, .pointer a]] w (Ret w g fun v g => ∃ p q a, v = .agg #[.int .i64 p, .int .i64 q, .pointer a] ∧ IsRat g p q a (((r.den : Int) : Rat))) := by
  refine CallTo.enter (vs := [.agg #[.int .i64 p, .int .i64 q, .pointer a]]) zf77 (by kernel_rfl) rfl rfl rfl ?_
  have hst := St.init hag
  refine zsr ?_
  refine stepK_box rfl rfl rfl rfl rfl rfl hst ?_
  clear hst
  intro b1 w1 hst
  refine stepK_alloc rfl rfl rfl rfl zf29 rfl hst ?_
  clear hst
  intro b2 w2 hst
  refine zn4 ?_
  refine stepK_d rfl rfl rfl hst (does_load_ownN 0 rfl (by kernel_rfl) zf31 rfl rfl rfl) ?_
  refine stepK_call rfl rfl rfl rfl rfl hst (Rat_parts hst.agree ha) ?_
  clear hst
  intro v3 g3 w3 hst hle3 hcs3 hp3
  replace ha := ha.mono hle3
  obtain ⟨A1, n1, c1, B1, m1, d1, rfl, hN1, hD1⟩ := hp3
  refine zM rfl hst rfl ?_
  refine zE rfl hst rfl rfl ?_
  refine zE rfl hst rfl rfl ?_
  refine zE rfl hst rfl rfl ?_
  refine zA rfl hst rfl ?_
  refine zA rfl hst rfl ?_
  refine zA rfl hst rfl ?_
  refine zn4 ?_
  refine zM rfl hst rfl ?_
  refine stepK_buildSlice rfl rfl rfl rfl zf1 zf2 rfl rfl (by decide) (by decide) (by decide) rfl rfl hst ?_
  clear hst
  intro b4 w4 hst
  obtain ⟨g4, hst, hle4, h1⟩ := hst.lit (x := 1) (by decide) (by decide)
  replace ha := ha.mono hle4
  replace hN1 := hN1.mono hle4
  replace hD1 := hD1.mono hle4
  refine stepK_call rfl rfl rfl rfl rfl hst (num_lowest (neg := false) hst.agree hD1 h1 (by decide) (Nat.gcd_one_right _)) ?_
  clear hst
  intro v5 g5 w5 hst hle5 hcs5 hp5
  replace ha := ha.mono hle5
  replace hN1 := hN1.mono hle5
  replace hD1 := hD1.mono hle5
  replace h1 := h1.mono hle5
  obtain ⟨p9, q9, a9, rfl, hr9⟩ := hp5
  refine stepK_store 1 rfl rfl rfl rfl rfl rfl zf31 rfl rfl hst rfl (by first | (simp [uN_length]; omega) | simp) ?_
  clear hst
  intro w6 hst
  simp only [zL, splice, Nat.reduceAdd] at hst
  refine znt ?_
  refine cp_ret ?_
  refine ret1c (k := 1) rfl rfl (by kernel_rfl) (by kernel_rfl) rfl hst rfl ?_
  rw [mkRat_one] at hr9
  exact ⟨_, _, _, rfl, hr9⟩

set_option maxHeartbeats 1000000 in
theorem Rat_IsInt {g : Mem} {w : World} (hag : Agree g w) {p q : Int} {a : Option Addr} {r : Rat} (ha : IsRat g p q a r) (hfa : Fit r) :
    CallTo Tryd.prog 37 #[.agg #[.int .i64 p, .int .i64 q, .pointer a]] w (Ret w g fun v g => v = .bool (decide (r.den = 1))) := by
  refine CallTo.enter (vs := [.agg #[.int .i64 p, .int .i64 q, .pointer a]]) zf78 (by kernel_rfl) rfl rfl rfl ?_
  have hst := St.init hag
  refine zsr ?_
  refine stepK_box rfl rfl rfl rfl rfl rfl hst ?_
  clear hst
  intro b1 w1 hst
  refine zA rfl hst rfl ?_
  refine zn4 ?_
  refine stepK_d rfl rfl rfl hst (does_load_ownN 0 rfl (by kernel_rfl) zf31 rfl rfl rfl) ?_
  refine stepK_call rfl rfl rfl rfl rfl hst (Rat_parts hst.agree ha) ?_
  clear hst
  intro v2 g2 w2 hst hle2 hcs2 hp2
  replace ha := ha.mono hle2
  obtain ⟨A1, n1, c1, B1, m1, d1, rfl, hN1, hD1⟩ := hp2
  refine zM rfl hst rfl ?_
  refine zE rfl hst rfl rfl ?_
  refine zE rfl hst rfl rfl ?_
  refine zE rfl hst rfl rfl ?_
  refine zA rfl hst rfl ?_
  refine zA rfl hst rfl ?_
  refine zA rfl hst rfl ?_
  refine zn4 ?_
  refine zM rfl hst rfl ?_
  refine stepK_buildSlice rfl rfl rfl rfl zf1 zf2 rfl rfl (by decide) (by decide) (by decide) rfl rfl hst ?_
  clear hst
  intro b3 w3 hst
  obtain ⟨g3, hst, hle3, h1⟩ := hst.lit (x := 1) (by decide) (by decide)
  replace ha := ha.mono hle3
  replace hN1 := hN1.mono hle3
  replace hD1 := hD1.mono hle3
  have l1 := hD1.len hfa.2
  refine stepK_call rfl rfl rfl rfl rfl hst (num_compare hst.agree hD1 h1 (by omega)) ?_
  clear hst
  intro v4 g4 w4 hst hle4 hcs4 hp4
  replace ha := ha.mono hle4
  replace hN1 := hN1.mono hle4
  replace hD1 := hD1.mono hle4
  replace h1 := h1.mono hle4
  obtain rfl := hp4
  refine stepK_d rfl rfl rfl hst (does_eql rfl rfl rfl) ?_
  refine zA rfl hst rfl ?_
  refine znt ?_
  refine cp_ret ?_
  refine ret1 rfl rfl hst ?_
  congr 1
  exact decide_eq_decide.2 cmpN_zero

set_option maxHeartbeats 1000000 in
theorem Rat_Int64 {g : Mem} {w : World} (hag : Agree g w) {p q : Int} {a : Option Addr} {r : Rat} (ha : IsRat g p q a r) (hfa : Fit r) :
    CallTo Tryd.prog 22 #[.agg #[.int .i64 p, .int .i64 q, .pointer a]] w (Ret w g fun v g => v = .tuple #[.int .i64 (if I64 r then r.num else 0), .bool (decide (I64 r))]) := by
  refine CallTo.enter (vs := [.agg #[.int .i64 p, .int .i64 q, .pointer a]]) zf79 (by kernel_rfl) rfl rfl rfl ?_
  have hst := St.init hag
  refine zsr ?_
  refine stepK_box rfl rfl rfl rfl rfl rfl hst ?_
  clear hst
  intro b1 w1 hst
  refine zA rfl hst rfl ?_
  refine zA rfl hst rfl ?_
  refine znq ?_
  refine zsr ?_
  refine stepK_d rfl rfl rfl hst (does_load_ownN 0 rfl (by kernel_rfl) zf31 rfl rfl rfl) ?_
  refine stepK_call rfl rfl rfl rfl rfl hst (Rat_IsInt hst.agree ha hfa) ?_
  clear hst
  intro v2 g2 w2 hst hle2 hcs2 hp2
  replace ha := ha.mono hle2
  obtain rfl := hp2
  refine stepK_d rfl rfl rfl hst (does_not rfl rfl) ?_
  refine znt ?_
  refine cp_cond rfl ?_ ?_
  intro c9
  have hno : ¬ I64 r := fun h => dec_no c9 h.1
  refine zsr ?_
  refine zA rfl hst rfl ?_
  refine zA rfl hst rfl ?_
  refine zn5 ?_
  refine ret2 rfl rfl rfl hst ?_
  first
  | rw [if_neg hno, decide_eq_false hno]
  | rw [if_pos hyes, decide_eq_true hyes]
  intro c9
  have hd1 : r.den = 1 := dec_of c9
  refine zk4 ?_
  refine stepK_d rfl rfl rfl hst (does_load_ownN 0 rfl (by kernel_rfl) zf31 rfl rfl rfl) ?_
  refine stepK_call rfl rfl rfl rfl rfl hst (Rat_parts hst.agree ha) ?_
  clear hst
  intro v3 g3 w3 hst hle3 hcs3 hp3
  replace ha := ha.mono hle3
  obtain ⟨A1, n1, c1, B1, m1, d1, rfl, hN1, hD1⟩ := hp3
  refine zM rfl hst rfl ?_
  refine zE rfl hst rfl rfl ?_
  refine zE rfl hst rfl rfl ?_
  refine zE rfl hst rfl rfl ?_
  refine zA rfl hst rfl ?_
  refine zA rfl hst rfl ?_
  refine zA rfl hst rfl ?_
  refine znq ?_
  refine cp_block ?_
  refine zsr ?_
  refine zM rfl hst rfl ?_
  refine stepK_d rfl rfl rfl hst (does_len_slice rfl zf1 rfl) ?_
  refine stepK_d rfl rfl rfl hst (does_eql rfl rfl rfl) ?_
  refine zA rfl hst rfl ?_
  refine znt ?_
  refine cp_if rfl ?_ ?_
  intro c16
  have hz : r.num = 0 := by have := hN1.zero_iff; omega
  have hyes : I64 r := ⟨hd1, by omega, by omega⟩
  refine zsr ?_
  refine zA rfl hst rfl ?_
  refine zA rfl hst rfl ?_
  refine znt ?_
  refine cp_ret ?_
  refine at_block_ret ?_
  refine at_then_ret ?_
  refine ret2 rfl rfl rfl hst ?_
  rw [if_pos hyes, decide_eq_true hyes, hz]
  intro c16
  refine zsr ?_
  refine zM rfl hst rfl ?_
  refine stepK_d rfl rfl rfl hst (does_len_slice rfl zf1 rfl) ?_
  refine stepK_d rfl rfl rfl hst (does_gtr rfl rfl rfl) ?_
  refine zM rfl hst rfl ?_
  refine wpK_split (t := 24) rfl ?_ ?_
  intro s24
  have hno : ¬ I64 r := fun h => by
    have h9 := hN1.le (by omega)
    have h8 : (18446744073709551616 : Nat) ^ 1 ≤ 18446744073709551616 ^ (n1 - 1) := Nat.pow_le_pow_right (by decide) (by omega)
    have := h.2
    omega
  refine stepK_pass rfl rfl rfl rfl rfl rfl rfl ?_
  refine stepK_pass rfl rfl rfl rfl rfl rfl rfl ?_
  refine stepK_pass rfl rfl rfl rfl rfl rfl rfl ?_
  refine stepK_pass rfl rfl rfl rfl rfl rfl rfl ?_
  refine stepK_d rfl rfl rfl hst (does_pick_true rfl rfl rfl) ?_
  refine zM rfl hst rfl ?_
  refine stepK_pass rfl rfl rfl rfl rfl rfl rfl ?_
  refine stepK_pass rfl rfl rfl rfl rfl rfl rfl ?_
  refine stepK_pass rfl rfl rfl rfl rfl rfl rfl ?_
  refine stepK_pass rfl rfl rfl rfl rfl rfl rfl ?_
  refine stepK_pass rfl rfl rfl rfl rfl rfl rfl ?_
  refine stepK_passU rfl rfl rfl rfl rfl rfl ?_
  refine stepK_passU rfl rfl rfl rfl rfl rfl ?_
  refine stepK_pass rfl rfl rfl rfl rfl rfl rfl ?_
  refine stepK_d rfl rfl rfl hst (does_pick_true rfl rfl rfl) ?_
  refine zA rfl hst rfl ?_
  refine znt ?_
  refine cp_cond_true rfl ?_
  refine zsr ?_
  refine zA rfl hst rfl ?_
  refine zA rfl hst rfl ?_
  refine znt ?_
  refine cp_ret ?_
  refine at_block_ret ?_
  refine at_then_ret ?_
  refine ret2 rfl rfl rfl hst ?_
  first
  | rw [if_neg hno, decide_eq_false hno]
  | rw [if_pos hyes, decide_eq_true hyes]
  intro s24
  obtain rfl : n1 = 1 := by omega
  obtain ⟨b2, o2, rfl, hXl, hcX⟩ := hN1.word
  refine stepK_guard rfl rfl rfl rfl rfl rfl hst (does_move rfl rfl) ?_
  refine stepK_guard rfl rfl rfl rfl rfl rfl hst (does_indexAddr1 (j := 0) rfl zf1 (by kernel_rfl) rfl rfl (by omega) (by omega)) ?_
  refine stepK_guard rfl rfl rfl rfl rfl rfl hst (does_load_g1 rfl (by kernel_rfl) rfl hcX) ?_
  refine stepK_guard rfl rfl rfl rfl rfl rfl hst (does_gtr_n (b := 9223372036854775808) rfl rfl rfl) ?_
  refine stepK_d rfl rfl rfl hst (does_pick_false rfl rfl rfl) ?_
  refine zM rfl hst rfl ?_
  refine wpK_split (t := 30) rfl ?_ ?_
  intro s30
  have hno : ¬ I64 r := fun h => by have := h.2; omega
  refine stepK_pass rfl rfl rfl rfl rfl rfl rfl ?_
  refine stepK_pass rfl rfl rfl rfl rfl rfl rfl ?_
  refine stepK_pass rfl rfl rfl rfl rfl rfl rfl ?_
  refine stepK_pass rfl rfl rfl rfl rfl rfl rfl ?_
  refine stepK_pass rfl rfl rfl rfl rfl rfl rfl ?_
  refine stepK_passU rfl rfl rfl rfl rfl rfl ?_
  refine stepK_passU rfl rfl rfl rfl rfl rfl ?_
  refine stepK_pass rfl rfl rfl rfl rfl rfl rfl ?_
  refine stepK_d rfl rfl rfl hst (does_pick_true rfl rfl rfl) ?_
  refine zA rfl hst rfl ?_
  refine znt ?_
  refine cp_cond_true rfl ?_
  refine zsr ?_
  refine zA rfl hst rfl ?_
  refine zA rfl hst rfl ?_
  refine znt ?_
  refine cp_ret ?_
  refine at_block_ret ?_
  refine at_then_ret ?_
  refine ret2 rfl rfl rfl hst ?_
  first
  | rw [if_neg hno, decide_eq_false hno]
  | rw [if_pos hyes, decide_eq_true hyes]
  intro s30
  refine stepK_guard rfl rfl rfl rfl rfl rfl hst (does_move rfl rfl) ?_
  refine stepK_guard rfl rfl rfl rfl rfl rfl hst (does_indexAddr1 (j := 0) rfl zf1 (by kernel_rfl) rfl rfl (by omega) (by omega)) ?_
  refine stepK_guard rfl rfl rfl rfl rfl rfl hst (does_load_g1 rfl (by kernel_rfl) rfl hcX) ?_
  refine stepK_guard rfl rfl rfl rfl rfl rfl hst (does_eql_n (b := 9223372036854775808) rfl rfl rfl) ?_
  refine stepK_guard rfl rfl rfl rfl rfl rfl hst (does_move rfl rfl) ?_
  refine wpK_split (t := 35) rfl ?_ ?_
  intro s35
  refine stepK_guard rfl rfl rfl rfl rfl rfl hst (does_move rfl rfl) ?_
  refine stepK_guard rfl rfl rfl rfl rfl rfl hst (does_not rfl rfl) ?_
  refine stepK_guard rfl rfl rfl rfl rfl rfl hst (does_pick_true rfl rfl rfl) ?_
  refine stepK_d rfl rfl rfl hst (does_pick_false rfl rfl rfl) ?_
  refine zA rfl hst rfl ?_
  refine znt ?_
  refine cp_cond rfl ?_ ?_
  intro c20
  have hno : ¬ I64 r := fun h => by
    have := h.2
    have c9 : (!decide (r.num < 0)) = true := c20
    have := dec_no c9
    omega
  refine zsr ?_
  refine zA rfl hst rfl ?_
  refine zA rfl hst rfl ?_
  refine znt ?_
  refine cp_ret ?_
  refine at_block_ret ?_
  refine at_then_ret ?_
  refine ret2 rfl rfl rfl hst ?_
  first
  | rw [if_neg hno, decide_eq_false hno]
  | rw [if_pos hyes, decide_eq_true hyes]
  intro c20
  have hsm : r.num.natAbs < 9223372036854775808 ∨ (r.num.natAbs = 9223372036854775808 ∧ r.num < 0) := by
    first
    | exact .inl (by omega)
    | exact .inr ⟨by omega, dec_of c20⟩
  refine zsr ?_
  refine zM rfl hst rfl ?_
  refine zA rfl hst rfl ?_
  refine znt ?_
  refine cp_cond rfl ?_ ?_
  intro c40
  refine cp_seq ?_
  have hyes : I64 r := by have := of_decide_eq_true c40; exact ⟨hd1, by omega, by omega⟩
  refine cp_region ?_
  refine zM rfl hst rfl ?_
  refine stepK_d rfl rfl rfl hst (does_indexAddr1 (j := 0) rfl zf1 (by kernel_rfl) rfl rfl (by omega) (by omega)) ?_
  refine stepK_d rfl rfl rfl hst (does_load_g1 rfl (by kernel_rfl) rfl hcX) ?_
  refine stepK_d rfl rfl rfl hst (does_conv (k' := .i64) rfl (by kernel_rfl) (by kernel_rfl) rfl) ?_
  refine stepK_d rfl rfl rfl hst (Does.int (b := r.num) (does_neg rfl rfl) (by rw [i64_neg (by omega)]; have := of_decide_eq_true c40; omega)) ?_
  refine zA rfl hst rfl ?_
  refine zA rfl hst rfl ?_
  refine znt ?_
  refine cp_ret ?_
  refine at_block_ret ?_
  refine at_then_ret ?_
  refine ret2 rfl rfl rfl hst ?_
  first
  | rw [if_neg hno, decide_eq_false hno]
  | rw [if_pos hyes, decide_eq_true hyes]
  intro c40
  refine cp_skip ?_
  refine at_block_normal ?_
  refine cp_then ?_
  refine cp_seq ?_
  have hyes : I64 r := by have := of_decide_eq_false c40; exact ⟨hd1, by omega, by omega⟩
  refine cp_region ?_
  refine zM rfl hst rfl ?_
  refine stepK_d rfl rfl rfl hst (does_indexAddr1 (j := 0) rfl zf1 (by kernel_rfl) rfl rfl (by omega) (by omega)) ?_
  refine stepK_d rfl rfl rfl hst (does_load_g1 rfl (by kernel_rfl) rfl hcX) ?_
  refine stepK_d rfl rfl rfl hst (Does.int (b := r.num) (does_conv rfl (by kernel_rfl) (by kernel_rfl) rfl) (by have := of_decide_eq_false c40; rw [IntKind.wrap_i64]; omega)) ?_
  refine zA rfl hst rfl ?_
  refine zA rfl hst rfl ?_
  refine znt ?_
  refine cp_ret ?_
  refine ret2 rfl rfl rfl hst ?_
  first
  | rw [if_neg hno, decide_eq_false hno]
  | rw [if_pos hyes, decide_eq_true hyes]
  intro s35
  refine stepK_pass rfl rfl rfl rfl rfl rfl rfl ?_
  refine stepK_pass rfl rfl rfl rfl rfl rfl rfl ?_
  refine stepK_guard rfl rfl rfl rfl rfl rfl hst (does_pick_false rfl rfl rfl) ?_
  refine stepK_d rfl rfl rfl hst (does_pick_false rfl rfl rfl) ?_
  refine zA rfl hst rfl ?_
  refine znt ?_
  refine cp_cond_false rfl ?_
  refine zsr ?_
  refine zM rfl hst rfl ?_
  refine zA rfl hst rfl ?_
  refine znt ?_
  refine cp_cond rfl ?_ ?_
  intro c40
  refine cp_seq ?_
  have hyes : I64 r := by have := of_decide_eq_true c40; exact ⟨hd1, by omega, by omega⟩
  refine cp_region ?_
  refine zM rfl hst rfl ?_
  refine stepK_d rfl rfl rfl hst (does_indexAddr1 (j := 0) rfl zf1 (by kernel_rfl) rfl rfl (by omega) (by omega)) ?_
  refine stepK_d rfl rfl rfl hst (does_load_g1 rfl (by kernel_rfl) rfl hcX) ?_
  refine stepK_d rfl rfl rfl hst (does_conv (k' := .i64) rfl (by kernel_rfl) (by kernel_rfl) rfl) ?_
  refine stepK_d rfl rfl rfl hst (Does.int (b := r.num) (does_neg rfl rfl) (by rw [i64_neg (by omega)]; have := of_decide_eq_true c40; omega)) ?_
  refine zA rfl hst rfl ?_
  refine zA rfl hst rfl ?_
  refine znt ?_
  refine cp_ret ?_
  refine at_block_ret ?_
  refine at_then_ret ?_
  refine ret2 rfl rfl rfl hst ?_
  first
  | rw [if_neg hno, decide_eq_false hno]
  | rw [if_pos hyes, decide_eq_true hyes]
  intro c40
  refine cp_skip ?_
  refine at_block_normal ?_
  refine cp_then ?_
  refine cp_seq ?_
  have hyes : I64 r := by have := of_decide_eq_false c40; exact ⟨hd1, by omega, by omega⟩
  refine cp_region ?_
  refine zM rfl hst rfl ?_
  refine stepK_d rfl rfl rfl hst (does_indexAddr1 (j := 0) rfl zf1 (by kernel_rfl) rfl rfl (by omega) (by omega)) ?_
  refine stepK_d rfl rfl rfl hst (does_load_g1 rfl (by kernel_rfl) rfl hcX) ?_
  refine stepK_d rfl rfl rfl hst (Does.int (b := r.num) (does_conv rfl (by kernel_rfl) (by kernel_rfl) rfl) (by have := of_decide_eq_false c40; rw [IntKind.wrap_i64]; omega)) ?_
  refine zA rfl hst rfl ?_
  refine zA rfl hst rfl ?_
  refine znt ?_
  refine cp_ret ?_
  refine ret2 rfl rfl rfl hst ?_
  first
  | rw [if_neg hno, decide_eq_false hno]
  | rw [if_pos hyes, decide_eq_true hyes]

end Go.Proofs.YtcjhnkmoloiepaaDoor
