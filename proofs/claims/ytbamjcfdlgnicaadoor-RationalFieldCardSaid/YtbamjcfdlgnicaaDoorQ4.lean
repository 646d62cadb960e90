/- A helper of the claim: general lemmas and walks of functions, printed by a program of this session. Conditions: none. -/
import Derived.Test.YtbamjcfdlgnicaaDoorProg
import Derived.Test.YtbamjcfdlgnicaaDoorQ3
namespace Go.Proofs.YtbamjcfdlgnicaaDoor
open Go Go.RowKit Go.Proofs.Vc
set_option linter.unusedVariables false
set_option linter.unusedSimpArgs false

set_option maxHeartbeats 1000000 in
theorem Rat_Quo {g : Mem} {w : World} (hag : Agree g w) {p q : Int} {a : Option Addr} {r : Rat} (ha : IsRat g p q a r) {s t : Int} {b : Option Addr} {x : Rat} (hb : IsRat g s t b x) (hfa : Fit r) (hfb : Fit x) :
    CallTo Tryd.prog 24 #[.agg #[.int .i64 p, .int .i64 q, .pointer a], .agg #[.int .i64 s, .int .i64 t, .pointer b]] w (Ret w g fun v g => ∃ p q a, v = .agg #[.int .i64 p, .int .i64 q, .pointer a] ∧ IsRat g p q a (r / x)) := by
  refine CallTo.enter (vs := [.agg #[.int .i64 p, .int .i64 q, .pointer a], .agg #[.int .i64 s, .int .i64 t, .pointer b]]) (by kernel_rfl : Tryd.prog.funcs[24]? = some Tryd.f24) (by kernel_rfl) rfl rfl rfl ?_
  have hst := St.init hag
  refine cp_seq ?_
  refine cp_region ?_
  refine stepK_box rfl rfl rfl rfl rfl rfl hst ?_
  clear hst
  intro b1 w1 hst
  refine stepK_box rfl rfl rfl rfl rfl rfl hst ?_
  clear hst
  intro b2 w2 hst
  refine stepK_alloc rfl rfl rfl rfl (by kernel_rfl : zeroOf Tryd.prog 41 = some (.agg #[.int .i64 0, .int .i64 0, .pointer none])) rfl hst ?_
  clear hst
  intro b3 w3 hst
  refine wpK_nil ?_
  refine cp_then ?_
  refine cp_seq ?_
  refine cp_seq ?_
  refine cp_region ?_
  refine stepK_d rfl rfl rfl hst (does_load_ownN 1 rfl (by kernel_rfl) (by kernel_rfl : sizeB Tryd.prog 41 = some 3) rfl rfl rfl) ?_
  refine stepK_call rfl rfl rfl rfl rfl hst (Rat_Zero hst.agree hb) ?_
  clear hst
  intro v4 g4 w4 hst hle4 hcs4 hp4
  replace ha := ha.mono hle4
  replace hb := hb.mono hle4
  obtain rfl := hp4
  refine wpK_nil ?_
  refine cp_then ?_
  refine cp_if rfl ?_ ?_
  · intro c6
    refine cp_seq ?_
    refine cp_region ?_
    refine stepK_d rfl rfl rfl hst (does_build rfl (by kernel_rfl : layOf Tryd.prog 41 = some ([(0, 1), (1, 1), (2, 1)], [.int .i64 0, .int .i64 0, .pointer none])) rfl rfl) ?_
    refine stepK_store 2 rfl rfl rfl rfl rfl rfl (by kernel_rfl : sizeB Tryd.prog 41 = some 3) rfl rfl hst rfl (by first | (simp [uN_length]; omega) | simp) ?_
    clear hst
    intro w5 hst
    simp only [List.nil_append, List.cons_append, List.set_cons_zero, List.set_cons_succ, splice, List.toList_toArray, List.take_zero, List.take_succ_cons, List.take_nil, List.drop_zero, List.drop_succ_cons, List.drop_nil, List.length_cons, List.length_nil, Nat.zero_add, Nat.add_zero, Nat.reduceAdd, List.append_nil] at hst
    refine wpK_nil ?_
    refine cp_then ?_
    refine cp_ret ?_
    refine at_then_ret ?_
    refine ret1c (k := 2) rfl rfl (by kernel_rfl) (by kernel_rfl) rfl hst rfl ?_
    subst c6
    rw [Rat.div_def, Rat.inv_zero, Rat.mul_zero]
    exact ⟨_, _, _, rfl, IsRat.zero _⟩
  · intro c6
    refine cp_skip ?_
    refine cp_then ?_
    refine cp_seq ?_
    refine cp_drawn (by kernel_rfl) 4 [(0, true), (1, true), (2, false), (3, false)] _ rfl (by kernel_rfl) (by kernel_rfl) (by kernel_rfl) (fun _ _ _ _ _ h => h) _ (hst.drew) ?_
    have hst0 := hst.drew
    clear hst
    have hst := hst0
    refine stepD_d rfl rfl rfl rfl (does_load_ownN 0 rfl (by kernel_rfl) (by kernel_rfl : sizeB Tryd.prog 41 = some 3) rfl rfl rfl) ?_
    refine stepD_d rfl rfl rfl rfl (does_load_ownN 1 rfl (by kernel_rfl) (by kernel_rfl : sizeB Tryd.prog 41 = some 3) rfl rfl rfl) ?_
    refine stepD_call rfl rfl rfl rfl rfl rfl hst (Rat_Inv hst.agree hb) (fun _ _ h hle => St.older h hle (by simp) hst0.ext hst0.le) ?_
    clear hst
    intro v6 g6 w6 hst hle6 hcs6 hp6
    have hlesum := hle6
    replace ha := ha.mono hle6
    replace hb := hb.mono hle6
    obtain ⟨p8, q8, a8, rfl, h8⟩ := hp6
    refine stepD_call rfl rfl rfl rfl rfl rfl hst (Rat_Mul hst.agree ha h8 hfa hfb.inv) (fun _ _ h hle => St.older h (Mem.le.trans hlesum hle) (by simp) hst0.ext hst0.le) ?_
    clear hst
    intro v7 g7 w7 hst hle7 hcs7 hp7
    replace hlesum := Mem.le.trans hlesum hle7
    replace ha := ha.mono hle7
    replace hb := hb.mono hle7
    replace h8 := h8.mono hle7
    obtain ⟨p9, q9, a9, rfl, hr9⟩ := hp7
    refine stepD_tail ?_
    refine stepK_store 2 rfl rfl rfl rfl rfl rfl (by kernel_rfl : sizeB Tryd.prog 41 = some 3) rfl rfl hst rfl (by first | (simp [uN_length]; omega) | simp) ?_
    clear hst
    intro w8 hst
    simp only [List.nil_append, List.cons_append, List.set_cons_zero, List.set_cons_succ, splice, List.toList_toArray, List.take_zero, List.take_succ_cons, List.take_nil, List.drop_zero, List.drop_succ_cons, List.drop_nil, List.length_cons, List.length_nil, Nat.zero_add, Nat.add_zero, Nat.reduceAdd, List.append_nil] at hst
    refine wpK_nil ?_
    refine cp_then ?_
    refine cp_ret ?_
    refine ret1c (k := 2) rfl rfl (by kernel_rfl) (by kernel_rfl) rfl hst rfl ?_
    rw [Rat.div_def]
    exact ⟨_, _, _, rfl, hr9⟩

set_option maxHeartbeats 1000000 in
theorem Rat_Sub {g : Mem} {w : World} (hag : Agree g w) {p q : Int} {a : Option Addr} {r : Rat} (ha : IsRat g p q a r) {s t : Int} {b : Option Addr} {x : Rat} (hb : IsRat g s t b x) (hfa : Fit r) (hfb : Fit x) :
    CallTo Tryd.prog 31 #[.agg #[.int .i64 p, .int .i64 q, .pointer a], .agg #[.int .i64 s, .int .i64 t, .pointer b]] w (Ret w g fun v g => ∃ p q a, v = .agg #[.int .i64 p, .int .i64 q, .pointer a] ∧ IsRat g p q a (r - x)) := by
  refine CallTo.enter (vs := [.agg #[.int .i64 p, .int .i64 q, .pointer a], .agg #[.int .i64 s, .int .i64 t, .pointer b]]) (by kernel_rfl : Tryd.prog.funcs[31]? = some Tryd.f31) (by kernel_rfl) rfl rfl rfl ?_
  have hst := St.init hag
  refine cp_seq ?_
  refine cp_region ?_
  refine stepK_box rfl rfl rfl rfl rfl rfl hst ?_
  clear hst
  intro b1 w1 hst
  refine stepK_box rfl rfl rfl rfl rfl rfl hst ?_
  clear hst
  intro b2 w2 hst
  refine stepK_alloc rfl rfl rfl rfl (by kernel_rfl : zeroOf Tryd.prog 41 = some (.agg #[.int .i64 0, .int .i64 0, .pointer none])) rfl hst ?_
  clear hst
  intro b3 w3 hst
  refine wpK_nil ?_
  refine cp_then ?_
  refine cp_seq ?_
  refine cp_drawn (by kernel_rfl) 4 [(0, true), (1, true), (2, false), (3, false)] _ rfl (by kernel_rfl) (by kernel_rfl) (by kernel_rfl) (fun _ _ _ _ _ h => h) _ (hst.drew) ?_
  have hst0 := hst.drew
  clear hst
  have hst := hst0
  refine stepD_d rfl rfl rfl rfl (does_load_ownN 0 rfl (by kernel_rfl) (by kernel_rfl : sizeB Tryd.prog 41 = some 3) rfl rfl rfl) ?_
  refine stepD_d rfl rfl rfl rfl (does_load_ownN 1 rfl (by kernel_rfl) (by kernel_rfl : sizeB Tryd.prog 41 = some 3) rfl rfl rfl) ?_
  refine stepD_call rfl rfl rfl rfl rfl rfl hst (Rat_Neg hst.agree hb) (fun _ _ h hle => St.older h hle (by simp) hst0.ext hst0.le) ?_
  clear hst
  intro v4 g4 w4 hst hle4 hcs4 hp4
  have hlesum := hle4
  replace ha := ha.mono hle4
  replace hb := hb.mono hle4
  obtain ⟨p8, q8, a8, rfl, h8⟩ := hp4
  refine stepD_call rfl rfl rfl rfl rfl rfl hst (Rat_Add hst.agree ha h8 hfa hfb.neg) (fun _ _ h hle => St.older h (Mem.le.trans hlesum hle) (by simp) hst0.ext hst0.le) ?_
  clear hst
  intro v5 g5 w5 hst hle5 hcs5 hp5
  replace hlesum := Mem.le.trans hlesum hle5
  replace ha := ha.mono hle5
  replace hb := hb.mono hle5
  replace h8 := h8.mono hle5
  obtain ⟨p9, q9, a9, rfl, hr9⟩ := hp5
  refine stepD_tail ?_
  refine stepK_store 2 rfl rfl rfl rfl rfl rfl (by kernel_rfl : sizeB Tryd.prog 41 = some 3) rfl rfl hst rfl (by first | (simp [uN_length]; omega) | simp) ?_
  clear hst
  intro w6 hst
  simp only [List.nil_append, List.cons_append, List.set_cons_zero, List.set_cons_succ, splice, List.toList_toArray, List.take_zero, List.take_succ_cons, List.take_nil, List.drop_zero, List.drop_succ_cons, List.drop_nil, List.length_cons, List.length_nil, Nat.zero_add, Nat.add_zero, Nat.reduceAdd, List.append_nil] at hst
  refine wpK_nil ?_
  refine cp_then ?_
  refine cp_ret ?_
  refine ret1c (k := 2) rfl rfl (by kernel_rfl) (by kernel_rfl) rfl hst rfl ?_
  rw [Rat.sub_eq_add_neg]
  exact ⟨_, _, _, rfl, hr9⟩

set_option maxHeartbeats 1000000 in
theorem Rat_Cmp {g : Mem} {w : World} (hag : Agree g w) {p q : Int} {a : Option Addr} {r : Rat} (ha : IsRat g p q a r) {s t : Int} {b : Option Addr} {x : Rat} (hb : IsRat g s t b x) (hfa : Fit r) (hfb : Fit x) :
    CallTo Tryd.prog 32 #[.agg #[.int .i64 p, .int .i64 q, .pointer a], .agg #[.int .i64 s, .int .i64 t, .pointer b]] w (Ret w g fun v g => v = .int .i64 (r - x).num.sign) := by
  refine CallTo.enter (vs := [.agg #[.int .i64 p, .int .i64 q, .pointer a], .agg #[.int .i64 s, .int .i64 t, .pointer b]]) (by kernel_rfl : Tryd.prog.funcs[32]? = some Tryd.f32) (by kernel_rfl) rfl rfl rfl ?_
  have hst := St.init hag
  refine cp_seq ?_
  refine cp_region ?_
  refine stepK_box rfl rfl rfl rfl rfl rfl hst ?_
  clear hst
  intro b1 w1 hst
  refine stepK_box rfl rfl rfl rfl rfl rfl hst ?_
  clear hst
  intro b2 w2 hst
  refine stepK_d rfl rfl rfl hst (does_assign rfl rfl) ?_
  refine wpK_nil ?_
  refine cp_then ?_
  refine cp_seq ?_
  refine cp_region ?_
  refine stepK_d rfl rfl rfl hst (does_load_ownN 0 rfl (by kernel_rfl) (by kernel_rfl : sizeB Tryd.prog 41 = some 3) rfl rfl rfl) ?_
  refine stepK_d rfl rfl rfl hst (does_load_ownN 1 rfl (by kernel_rfl) (by kernel_rfl : sizeB Tryd.prog 41 = some 3) rfl rfl rfl) ?_
  refine stepK_call rfl rfl rfl rfl rfl hst (Rat_Sub hst.agree ha hb hfa hfb) ?_
  clear hst
  intro v3 g3 w3 hst hle3 hcs3 hp3
  replace ha := ha.mono hle3
  replace hb := hb.mono hle3
  obtain ⟨p8, q8, a8, rfl, h8⟩ := hp3
  refine stepK_call rfl rfl rfl rfl rfl hst (Rat_Sign hst.agree h8) ?_
  clear hst
  intro v4 g4 w4 hst hle4 hcs4 hp4
  replace ha := ha.mono hle4
  replace hb := hb.mono hle4
  replace h8 := h8.mono hle4
  obtain rfl := hp4
  refine stepK_d rfl rfl rfl hst (does_assign rfl rfl) ?_
  refine wpK_nil ?_
  refine cp_then ?_
  refine cp_ret ?_
  refine ret1 rfl rfl hst ?_
  rfl

set_option maxHeartbeats 1000000 in
theorem Rat_Floor {g : Mem} {w : World} (hag : Agree g w) {p q : Int} {a : Option Addr} {r : Rat} (ha : IsRat g p q a r) (hfa : Fit r) :
    CallTo Tryd.prog 35 #[.agg #[.int .i64 p, .int .i64 q, .pointer a]] w (Ret w g fun v g => ∃ p q a, v = .agg #[.int .i64 p, .int .i64 q, .pointer a] ∧ IsRat g p q a ((r.floor : Rat))) := by
  refine CallTo.enter (vs := [.agg #[.int .i64 p, .int .i64 q, .pointer a]]) (by kernel_rfl : Tryd.prog.funcs[35]? = some Tryd.f35) (by kernel_rfl) rfl rfl rfl ?_
  have hst := St.init hag
  refine cp_seq ?_
  refine cp_region ?_
  refine stepK_box rfl rfl rfl rfl rfl rfl hst ?_
  clear hst
  intro bx w1 hst
  refine stepK_alloc rfl rfl rfl rfl (by kernel_rfl : zeroOf Tryd.prog 41 = some (.agg #[.int .i64 0, .int .i64 0, .pointer none])) rfl hst ?_
  clear hst
  intro r0 w2 hst
  refine wpK_nil ?_
  refine cp_then ?_
  refine cp_seq ?_
  refine cp_region ?_
  refine stepK_d rfl rfl rfl hst (does_load_ownN 0 rfl (by kernel_rfl) (by kernel_rfl : sizeB Tryd.prog 41 = some 3) rfl rfl rfl) ?_
  refine stepK_call rfl rfl rfl rfl rfl hst (Rat_parts hst.agree ha) ?_
  clear hst
  intro v3 g3 w3 hst hle3 hcs3 hp3
  replace ha := ha.mono hle3
  obtain ⟨A1, n1, c1, B1, m1, d1, rfl, hN1, hD1⟩ := hp3
  refine stepK_d rfl rfl rfl hst (does_move rfl rfl) ?_
  refine stepK_d rfl rfl rfl hst (does_extract rfl rfl rfl) ?_
  refine stepK_d rfl rfl rfl hst (does_extract rfl rfl rfl) ?_
  refine stepK_d rfl rfl rfl hst (does_extract rfl rfl rfl) ?_
  refine stepK_d rfl rfl rfl hst (does_assign rfl rfl) ?_
  refine stepK_d rfl rfl rfl hst (does_assign rfl rfl) ?_
  refine stepK_d rfl rfl rfl hst (does_assign rfl rfl) ?_
  refine wpK_nil ?_
  refine cp_then ?_
  refine cp_seq ?_
  have l1 := hN1.len hfa.1
  have l2 := hD1.len hfa.2
  have hD0 : 0 < r.den := Nat.pos_of_ne_zero r.den_nz
  generalize hng : decide (r.num < 0) = ng
  refine cp_region ?_
  refine stepK_d rfl rfl rfl hst (does_move rfl rfl) ?_
  refine stepK_d rfl rfl rfl hst (does_move rfl rfl) ?_
  refine stepK_call rfl rfl rfl rfl rfl hst (num_divide hst.agree hN1 hD1 hD0 (by omega) (by omega)) ?_
  clear hst
  intro v4 g4 w4 hst hle4 hcs4 hp4
  replace ha := ha.mono hle4
  replace hN1 := hN1.mono hle4
  replace hD1 := hD1.mono hle4
  obtain ⟨A2, n2, c2, B2, m2, d2, rfl, hQ, hR⟩ := hp4
  have l3 := hQ.len (Nat.lt_of_le_of_lt (Nat.div_le_self _ _) hfa.1)
  have hRz := hR.zero_iff
  refine stepK_d rfl rfl rfl hst (does_move rfl rfl) ?_
  refine stepK_d rfl rfl rfl hst (does_extract rfl rfl rfl) ?_
  refine stepK_d rfl rfl rfl hst (does_extract rfl rfl rfl) ?_
  refine stepK_d rfl rfl rfl hst (does_assign rfl rfl) ?_
  refine stepK_d rfl rfl rfl hst (does_assign rfl rfl) ?_
  refine wpK_nil ?_
  refine cp_then ?_
  refine cp_join (ι := Option Addr × Nat × Nat × Nat) (fun (A3, n3, c3, Q) => [(2, .pointer (some ⟨r0, 0, none⟩)), (3, .bool ng), (6, .slice A3 n3 c3)]) (fun (A3, n3, c3, Q) w2 => ∃ g2, St w [] g g2 [(bx, .cells #[.int .i64 p, .int .i64 q, .pointer a] 41 (0, 0)), (r0, .cells #[.int .i64 0, .int .i64 0, .pointer none] 41 (0, 0))] w2 ∧ IsNat g2 A3 n3 Q ∧ sg ng Q = r.floor) ?c5 ?d5
  case c5 =>
    refine cp_seq ?_
    refine cp_region ?_
    refine stepK_d rfl rfl rfl hst (does_move rfl rfl) ?_
    refine stepK_d rfl rfl rfl hst (does_move rfl rfl) ?_
    refine wpK_splitb (t := 21) rfl ?_ ?_
    · intro s21
      refine stepK_guard rfl rfl rfl rfl rfl rfl hst (does_move rfl rfl) ?_
      refine stepK_guard rfl rfl rfl rfl rfl rfl hst (does_len_slice rfl (by kernel_rfl : Program.underlying Tryd.prog 64 = some (.slice 66)) rfl) ?_
      refine stepK_guard rfl rfl rfl rfl rfl rfl hst (does_gtr rfl rfl rfl) ?_
      refine stepK_d rfl rfl rfl hst (does_pick_true rfl rfl rfl) ?_
      refine wpK_nil ?_
      refine cp_then ?_
      refine cp_if rfl ?_ ?_
      · intro c25
        refine cp_region ?_
        refine stepK_d rfl rfl rfl hst (does_move rfl rfl) ?_
        refine stepK_buildSlice rfl rfl rfl rfl (by kernel_rfl : Program.underlying Tryd.prog 64 = some (.slice 66)) (by kernel_rfl : elemInfo Tryd.prog 66 = some ((.int .u64 0), 1, 8)) rfl rfl (by decide) (by decide) (by decide) rfl rfl hst ?_
        clear hst
        intro b6 w6 hst
        obtain ⟨g6, hst, hle6, h1⟩ := hst.lit (x := 1) (by decide) (by decide)
        replace ha := ha.mono hle6
        replace hN1 := hN1.mono hle6
        replace hD1 := hD1.mono hle6
        replace hQ := hQ.mono hle6
        replace hR := hR.mono hle6
        refine stepK_call rfl rfl rfl rfl rfl hst (num_sum hst.agree hQ h1 (by omega) (by omega)) ?_
        clear hst
        intro v7 g7 w7 hst hle7 hcs7 hp7
        replace ha := ha.mono hle7
        replace hN1 := hN1.mono hle7
        replace hD1 := hD1.mono hle7
        replace hQ := hQ.mono hle7
        replace hR := hR.mono hle7
        replace h1 := h1.mono hle7
        obtain ⟨A4, n4, c4, rfl, hQ4⟩ := hp7
        refine stepK_d rfl rfl rfl hst (does_assign rfl rfl) ?_
        refine wpK_nil ?_
        have hlt : r.num < 0 := by simpa using hng.trans s21
        refine join_end ((A4, n4, c4, r.num.natAbs / r.den + 1)) ?_ ?_
        · exact ⟨rfl, rfl, rfl, trivial⟩
        · rw [s21]
          exact ⟨_, hst, hQ4, floor_neg hlt (by rw [if_neg (fun e => by have := hRz.2 e; omega)])⟩
      · intro c25
        refine cp_skip ?_
        have hlt : r.num < 0 := by simpa using hng.trans s21
        refine join_end ((A2, n2, c2, r.num.natAbs / r.den)) ?_ ?_
        · exact ⟨rfl, rfl, rfl, trivial⟩
        · rw [s21]
          exact ⟨_, hst, hQ, floor_neg hlt (by rw [if_pos (hRz.1 (by omega))])⟩
    · intro s21
      refine stepK_pass rfl rfl rfl rfl rfl rfl rfl ?_
      refine stepK_pass rfl rfl rfl rfl rfl rfl rfl ?_
      refine stepK_pass rfl rfl rfl rfl rfl rfl rfl ?_
      refine stepK_d rfl rfl rfl hst (does_pick_false rfl rfl rfl) ?_
      refine wpK_nil ?_
      refine cp_then ?_
      refine cp_cond_false rfl ?_
      refine cp_skip ?_
      have hlt : ¬ r.num < 0 := by simpa using hng.trans s21
      refine join_end ((A2, n2, c2, r.num.natAbs / r.den)) ?_ ?_
      · exact ⟨rfl, rfl, rfl, trivial⟩
      · rw [s21]
        exact ⟨_, hst, hQ, floor_pos hlt rfl⟩
  case d5 =>
    clear hst
    rintro ⟨A3, n3, c3, Q⟩ w2 ⟨g2, hst, hQ3, hfl⟩
    refine cp_seq ?_
    refine cp_region ?_
    refine stepK_d rfl rfl rfl hst (does_move rfl rfl) ?_
    refine stepK_d rfl rfl rfl hst (does_move rfl rfl) ?_
    refine stepK_buildSlice rfl rfl rfl rfl (by kernel_rfl : Program.underlying Tryd.prog 64 = some (.slice 66)) (by kernel_rfl : elemInfo Tryd.prog 66 = some ((.int .u64 0), 1, 8)) rfl rfl (by decide) (by decide) (by decide) rfl rfl hst ?_
    clear hst
    intro b8 w8 hst
    obtain ⟨g8, hst, hle8, h1⟩ := hst.lit (x := 1) (by decide) (by decide)
    replace hQ3 := hQ3.mono hle8
    refine stepK_call rfl rfl rfl rfl rfl hst (num_lowest hst.agree hQ3 h1 (by decide) (Nat.gcd_one_right _)) ?_
    clear hst
    intro v9 g9 w9 hst hle9 hcs9 hp9
    replace hQ3 := hQ3.mono hle9
    replace h1 := h1.mono hle9
    obtain ⟨p9, q9, a9, rfl, hr9⟩ := hp9
    refine stepK_store 1 rfl rfl rfl rfl rfl rfl (by kernel_rfl : sizeB Tryd.prog 41 = some 3) rfl rfl hst rfl (by first | (simp [uN_length]; omega) | simp) ?_
    clear hst
    intro w10 hst
    simp only [List.nil_append, List.cons_append, List.set_cons_zero, List.set_cons_succ, splice, List.toList_toArray, List.take_zero, List.take_succ_cons, List.take_nil, List.drop_zero, List.drop_succ_cons, List.drop_nil, List.length_cons, List.length_nil, Nat.zero_add, Nat.add_zero, Nat.reduceAdd, List.append_nil] at hst
    refine wpK_nil ?_
    refine cp_then ?_
    refine cp_ret ?_
    refine ret1c (k := 1) rfl rfl (by kernel_rfl) (by kernel_rfl) rfl hst rfl ?_
    rw [mkRat_one, hfl] at hr9
    exact ⟨_, _, _, rfl, hr9⟩

set_option maxHeartbeats 1000000 in
theorem num_Int {g : Mem} {w : World} (hag : Agree g w) {n : Int} (h1 : -9223372036854775808 ≤ n) (h2 : n ≤ 9223372036854775807) :
    CallTo Tryd.prog 25 #[.int .i64 n] w (Ret w g fun v g => ∃ p q a, v = .agg #[.int .i64 p, .int .i64 q, .pointer a] ∧ IsRat g p q a ((n : Rat))) := by
  refine CallTo.enter (vs := [.int .i64 n]) (by kernel_rfl : Tryd.prog.funcs[25]? = some Tryd.f25) (by kernel_rfl) rfl rfl rfl ?_
  have hst := St.init hag
  refine cp_seq ?_
  refine cp_region ?_
  refine stepK_alloc rfl rfl rfl rfl (by kernel_rfl : zeroOf Tryd.prog 41 = some (.agg #[.int .i64 0, .int .i64 0, .pointer none])) rfl hst ?_
  clear hst
  intro b1 w1 hst
  refine wpK_nil ?_
  refine cp_then ?_
  refine cp_seq ?_
  refine cp_seq ?_
  refine cp_region ?_
  refine stepK_d rfl rfl rfl hst (does_move rfl rfl) ?_
  refine stepK_d rfl rfl rfl hst (does_gtr rfl rfl rfl) ?_
  refine stepK_d rfl rfl rfl hst (does_move rfl rfl) ?_
  refine wpK_split (t := 5) rfl ?_ ?_
  · intro s5
    refine stepK_guard rfl rfl rfl rfl rfl rfl hst (does_move rfl rfl) ?_
    refine stepK_guard rfl rfl rfl rfl rfl rfl hst (does_lss rfl rfl rfl) ?_
    refine stepK_d rfl rfl rfl hst (does_pick_true rfl rfl rfl) ?_
    refine wpK_nil ?_
    refine cp_then ?_
    refine cp_if rfl ?_ ?_
    · intro c8
      refine cp_seq ?_
      refine cp_region ?_
      refine stepK_d rfl rfl rfl hst (does_move rfl rfl) ?_
      refine stepK_d rfl rfl rfl hst (does_build rfl (by kernel_rfl : layOf Tryd.prog 41 = some ([(0, 1), (1, 1), (2, 1)], [.int .i64 0, .int .i64 0, .pointer none])) rfl rfl) ?_
      refine stepK_store 0 rfl rfl rfl rfl rfl rfl (by kernel_rfl : sizeB Tryd.prog 41 = some 3) rfl rfl hst rfl (by first | (simp [uN_length]; omega) | simp) ?_
      clear hst
      intro w2 hst
      simp only [List.nil_append, List.cons_append, List.set_cons_zero, List.set_cons_succ, splice, List.toList_toArray, List.take_zero, List.take_succ_cons, List.take_nil, List.drop_zero, List.drop_succ_cons, List.drop_nil, List.length_cons, List.length_nil, Nat.zero_add, Nat.add_zero, Nat.reduceAdd, List.append_nil] at hst
      refine wpK_nil ?_
      refine cp_then ?_
      refine cp_ret ?_
      refine at_then_ret ?_
      refine ret1c (k := 0) rfl rfl (by kernel_rfl) (by kernel_rfl) rfl hst rfl ?_
      exact ⟨_, _, _, rfl, .of_low (LowR.int (by omega) (by omega))⟩
    · intro c8
      refine cp_skip ?_
      refine cp_then ?_
      refine cp_seq ?_
      refine cp_region ?_
      refine stepK_d rfl rfl rfl hst (does_move rfl rfl) ?_
      refine stepK_d rfl rfl rfl hst (does_lss rfl rfl rfl) ?_
      refine stepK_d rfl rfl rfl hst (does_move rfl rfl) ?_
      refine stepK_call rfl rfl rfl rfl rfl hst (num_magnitude hst.agree h1 h2) ?_
      clear hst
      intro v3 g3 w3 hst hle3 hcs3 hp3
      obtain rfl := hp3
      refine stepK_call rfl rfl rfl rfl rfl hst (num_word hst.agree (by omega)) ?_
      clear hst
      intro v4 g4 w4 hst hle4 hcs4 hp4
      obtain ⟨A1, n1, c1, rfl, hN⟩ := hp4
      have l1 := hN.len (k := 1) (by rw [Nat.pow_one]; omega)
      refine stepK_buildSlice rfl rfl rfl rfl (by kernel_rfl : Program.underlying Tryd.prog 64 = some (.slice 66)) (by kernel_rfl : elemInfo Tryd.prog 66 = some ((.int .u64 0), 1, 8)) rfl rfl (by decide) (by decide) (by decide) rfl rfl hst ?_
      clear hst
      intro b5 w5 hst
      obtain ⟨g5, hst, hle5, h9⟩ := hst.lit (x := 1) (by decide) (by decide)
      replace hN := hN.mono hle5
      refine stepK_call rfl rfl rfl rfl rfl hst (num_reduce hst.agree hN h9 (by decide) (by omega) (by decide)) ?_
      clear hst
      intro v6 g6 w6 hst hle6 hcs6 hp6
      replace hN := hN.mono hle6
      replace h9 := h9.mono hle6
      obtain ⟨p9, q9, a9, rfl, hr9⟩ := hp6
      refine stepK_store 0 rfl rfl rfl rfl rfl rfl (by kernel_rfl : sizeB Tryd.prog 41 = some 3) rfl rfl hst rfl (by first | (simp [uN_length]; omega) | simp) ?_
      clear hst
      intro w7 hst
      simp only [List.nil_append, List.cons_append, List.set_cons_zero, List.set_cons_succ, splice, List.toList_toArray, List.take_zero, List.take_succ_cons, List.take_nil, List.drop_zero, List.drop_succ_cons, List.drop_nil, List.length_cons, List.length_nil, Nat.zero_add, Nat.add_zero, Nat.reduceAdd, List.append_nil] at hst
      refine wpK_nil ?_
      refine cp_then ?_
      refine cp_ret ?_
      refine ret1c (k := 0) rfl rfl (by kernel_rfl) (by kernel_rfl) rfl hst rfl ?_
      rw [sg_int, mkRat_one] at hr9
      exact ⟨_, _, _, rfl, hr9⟩
  · intro s5
    refine stepK_pass rfl rfl rfl rfl rfl rfl rfl ?_
    refine stepK_pass rfl rfl rfl rfl rfl rfl rfl ?_
    refine stepK_d rfl rfl rfl hst (does_pick_false rfl rfl rfl) ?_
    refine wpK_nil ?_
    refine cp_then ?_
    refine cp_cond_false rfl ?_
    refine cp_skip ?_
    refine cp_then ?_
    refine cp_seq ?_
    refine cp_region ?_
    refine stepK_d rfl rfl rfl hst (does_move rfl rfl) ?_
    refine stepK_d rfl rfl rfl hst (does_lss rfl rfl rfl) ?_
    refine stepK_d rfl rfl rfl hst (does_move rfl rfl) ?_
    refine stepK_call rfl rfl rfl rfl rfl hst (num_magnitude hst.agree h1 h2) ?_
    clear hst
    intro v8 g8 w8 hst hle8 hcs8 hp8
    obtain rfl := hp8
    refine stepK_call rfl rfl rfl rfl rfl hst (num_word hst.agree (by omega)) ?_
    clear hst
    intro v9 g9 w9 hst hle9 hcs9 hp9
    obtain ⟨A1, n1, c1, rfl, hN⟩ := hp9
    have l1 := hN.len (k := 1) (by rw [Nat.pow_one]; omega)
    refine stepK_buildSlice rfl rfl rfl rfl (by kernel_rfl : Program.underlying Tryd.prog 64 = some (.slice 66)) (by kernel_rfl : elemInfo Tryd.prog 66 = some ((.int .u64 0), 1, 8)) rfl rfl (by decide) (by decide) (by decide) rfl rfl hst ?_
    clear hst
    intro b10 w10 hst
    obtain ⟨g10, hst, hle10, h9⟩ := hst.lit (x := 1) (by decide) (by decide)
    replace hN := hN.mono hle10
    refine stepK_call rfl rfl rfl rfl rfl hst (num_reduce hst.agree hN h9 (by decide) (by omega) (by decide)) ?_
    clear hst
    intro v11 g11 w11 hst hle11 hcs11 hp11
    replace hN := hN.mono hle11
    replace h9 := h9.mono hle11
    obtain ⟨p9, q9, a9, rfl, hr9⟩ := hp11
    refine stepK_store 0 rfl rfl rfl rfl rfl rfl (by kernel_rfl : sizeB Tryd.prog 41 = some 3) rfl rfl hst rfl (by first | (simp [uN_length]; omega) | simp) ?_
    clear hst
    intro w12 hst
    simp only [List.nil_append, List.cons_append, List.set_cons_zero, List.set_cons_succ, splice, List.toList_toArray, List.take_zero, List.take_succ_cons, List.take_nil, List.drop_zero, List.drop_succ_cons, List.drop_nil, List.length_cons, List.length_nil, Nat.zero_add, Nat.add_zero, Nat.reduceAdd, List.append_nil] at hst
    refine wpK_nil ?_
    refine cp_then ?_
    refine cp_ret ?_
    refine ret1c (k := 0) rfl rfl (by kernel_rfl) (by kernel_rfl) rfl hst rfl ?_
    rw [sg_int, mkRat_one] at hr9
    exact ⟨_, _, _, rfl, hr9⟩

end Go.Proofs.YtbamjcfdlgnicaaDoor

namespace Go.Proofs.YtbamjcfdlgnicaaDoor
open Go Go.RowKit Go.Proofs.Vc
set_option linter.unusedVariables false
set_option linter.unusedSimpArgs false


theorem IndexAny_awake {g : Mem} {w : World} (hag : Agree g w) : CallTo Tryd.prog 20 #[.string ⟨#[48, 54, 47, 52]⟩, .string ⟨#[47, 46]⟩] w (Ret w g fun v g' => v = .int .i64 2) :=
  .inl ⟨enters (by kernel_rfl : Tryd.prog.funcs[20]? = some Tryd.f20) (by kernel_rfl) rfl _ _, (Tryd.strings_IndexAny_laid ⟨#[48, 54, 47, 52]⟩ ⟨#[47, 46]⟩ w (by decide) (by decide) (fun j b h => (by decide : ∀ b ∈ ([48, 54, 47, 52] : List UInt8), b.toNat < 128) b (List.mem_of_getElem? h)) (fun j b h => (by decide : ∀ b ∈ ([47, 46] : List UInt8), b.toNat < 128) b (List.mem_of_getElem? h))).mono fun e w' ⟨he, hb⟩ => ⟨_, g, he, St.of_below hag hb, congrArg (Value.int .i64) (show (Lib.indexAny [48, 54, 47, 52] [47, 46] : Int) = 2 by decide)⟩⟩

set_option maxHeartbeats 1000000 in
theorem Parse_awake {g : Mem} {w : World} (hag : Agree g w) (hT : TabG Tryd.prog g) :
    CallTo Tryd.prog 7 #[.string ⟨#[45, 48, 54, 47, 52]⟩] w (Ret w g fun v g => v = .tuple #[.string ⟨#[45, 51, 47, 50]⟩, .int .i64 0]) := by
  refine CallTo.enter (vs := [.string ⟨#[45, 48, 54, 47, 52]⟩]) (by kernel_rfl : Tryd.prog.funcs[7]? = some Tryd.f7) (by kernel_rfl) rfl rfl rfl ?_
  have hst := St.init hag
  have f6 : Fit 6 := fit_of (k := 1) (by decide +kernel) (by decide +kernel) (by decide)
  have f4 : Fit 4 := fit_of (k := 1) (by decide +kernel) (by decide +kernel) (by decide)
  have f64 : Fit (6 / 4) := fit_of (k := 1) (by decide +kernel) (by decide +kernel) (by decide)
  refine cp_seq ?_
  refine cp_region ?_
  refine stepK_d rfl rfl rfl hst (does_assign rfl rfl) ?_
  refine stepK_d rfl rfl rfl hst (does_assign rfl rfl) ?_
  refine wpK_nil ?_
  refine cp_then ?_
  refine cp_seq ?_
  refine cp_seq ?_
  refine cp_region ?_
  refine stepK_d rfl rfl rfl hst (does_move rfl rfl) ?_
  refine stepK_d rfl rfl rfl hst (does_len_string rfl (by kernel_rfl) rfl) ?_
  refine stepK_d rfl rfl rfl hst (does_gtr rfl rfl rfl) ?_
  refine wpK_nil ?_
  refine cp_then ?_
  refine cp_if rfl ?_ ?_
  · intro c15
    exact absurd c15 (by decide)
  · intro c15
    refine cp_skip ?_
    refine cp_then ?_
    refine cp_seq ?_
    refine cp_region ?_
    refine stepK_d rfl rfl rfl hst (does_move rfl rfl) ?_
    refine stepK_call rfl rfl rfl rfl rfl hst (CutPrefix1 hst.agree (c := 45) (by decide)) ?_
    clear hst
    intro v1 g1 w1 hst hle1 hcs1 hp1
    replace hT := hT.mono hle1
    obtain ⟨s, ok, rfl, hc⟩ := hp1
    obtain ⟨rfl, _, rfl⟩ : ok = true ∧ True ∧ s = ⟨[48, 54, 47, 52].toArray⟩ := by
      rcases hc with ⟨h1, _, h2⟩ | ⟨_, h1, _⟩
      · exact ⟨h1, trivial, h2.trans (by decide)⟩
      · exact absurd (by decide) h1
    refine stepK_d rfl rfl rfl hst (does_move rfl rfl) ?_
    refine stepK_d rfl rfl rfl hst (does_extract rfl rfl rfl) ?_
    refine stepK_d rfl rfl rfl hst (does_extract rfl rfl rfl) ?_
    refine stepK_d rfl rfl rfl hst (does_assign rfl rfl) ?_
    refine stepK_d rfl rfl rfl hst (does_assign rfl rfl) ?_
    refine wpK_nil ?_
    refine cp_then ?_
    refine cp_seq ?_
    refine cp_region ?_
    refine stepK_d rfl rfl rfl hst (does_move rfl rfl) ?_
    refine stepK_call rfl rfl rfl rfl rfl hst (IndexAny_awake hst.agree) ?_
    clear hst
    intro v2 g2 w2 hst hle2 hcs2 hp2
    replace hT := hT.mono hle2
    obtain rfl := hp2
    refine stepK_d rfl rfl rfl hst (does_assign rfl rfl) ?_
    refine wpK_nil ?_
    refine cp_then ?_
    refine cp_seq ?_
    refine cp_seq ?_
    refine cp_region ?_
    refine stepK_d rfl rfl rfl hst (does_move rfl rfl) ?_
    refine stepK_d rfl rfl rfl hst (does_lss rfl rfl rfl) ?_
    refine wpK_nil ?_
    refine cp_then ?_
    refine cp_if rfl ?_ ?_
    · intro c24
      exact absurd c24 (by decide)
    · intro c24
      refine cp_skip ?_
      refine cp_then ?_
      refine cp_seq ?_
      refine cp_region ?_
      refine stepK_d rfl rfl rfl hst (does_move rfl rfl) ?_
      refine stepK_d rfl rfl rfl hst (does_move rfl rfl) ?_
      refine stepK_d rfl rfl rfl hst (Does.str (b := ⟨#[48, 54]⟩) (does_slice_string (l := 0) (h := 2) rfl (by kernel_rfl) rfl rfl ⟨_, _, rfl, rfl⟩ (by decide) (by decide)) (by decide)) ?_
      refine stepK_call rfl rfl rfl rfl rfl hst (num_Digits hst.agree (by decide)) ?_
      clear hst
      intro v3 g3 w3 hst hle3 hcs3 hp3
      replace hT := hT.mono hle3
      obtain ⟨p1, q1, a1, rfl, h1⟩ := hp3
      rw [show decide (0 < (⟨[48, 54].toArray⟩ : ByteArray).size ∧ AllDig ⟨[48, 54].toArray⟩) = true by decide]
      rw [if_pos (by decide), show ((dvL (Lb ⟨[48, 54].toArray⟩) : Nat) : Rat) = 6 by decide +kernel] at h1
      refine stepK_d rfl rfl rfl hst (does_move rfl rfl) ?_
      refine stepK_d rfl rfl rfl hst (does_extract rfl rfl rfl) ?_
      refine stepK_d rfl rfl rfl hst (does_extract rfl rfl rfl) ?_
      refine stepK_alloc rfl rfl rfl rfl (by kernel_rfl : zeroOf Tryd.prog 41 = some (.agg #[.int .i64 0, .int .i64 0, .pointer none])) rfl hst ?_
      clear hst
      intro b4 w4 hst
      refine stepK_store 0 rfl rfl rfl rfl rfl rfl (by kernel_rfl : sizeB Tryd.prog 41 = some 3) rfl rfl hst rfl (by first | (simp [uN_length]; omega) | simp) ?_
      clear hst
      intro w5 hst
      simp only [List.nil_append, List.cons_append, List.set_cons_zero, List.set_cons_succ, splice, List.toList_toArray, List.take_zero, List.take_succ_cons, List.take_nil, List.drop_zero, List.drop_succ_cons, List.drop_nil, List.length_cons, List.length_nil, Nat.zero_add, Nat.add_zero, Nat.reduceAdd, List.append_nil] at hst
      refine stepK_d rfl rfl rfl hst (does_assign rfl rfl) ?_
      refine wpK_nil ?_
      refine cp_then ?_
      refine cp_seq ?_
      refine cp_region ?_
      refine stepK_d rfl rfl rfl hst (does_move rfl rfl) ?_
      refine stepK_d rfl rfl rfl hst (does_move rfl rfl) ?_
      refine stepK_d rfl rfl rfl hst (Does.int (does_add rfl rfl rfl) (wrap_i64 (by omega) (by omega))) ?_
      refine stepK_d rfl rfl rfl hst (Does.str (b := ⟨#[52]⟩) (does_slice_string (l := 3) (h := 4) rfl (by kernel_rfl) rfl ⟨_, _, rfl, rfl⟩ rfl (by decide) (by decide)) (by decide)) ?_
      refine stepK_call rfl rfl rfl rfl rfl hst (num_Digits hst.agree (by decide)) ?_
      clear hst
      intro v6 g6 w6 hst hle6 hcs6 hp6
      replace hT := hT.mono hle6
      replace h1 := h1.mono hle6
      obtain ⟨p2, q2, a2, rfl, h2⟩ := hp6
      rw [show decide (0 < (⟨[52].toArray⟩ : ByteArray).size ∧ AllDig ⟨[52].toArray⟩) = true by decide]
      rw [if_pos (by decide), show ((dvL (Lb ⟨[52].toArray⟩) : Nat) : Rat) = 4 by decide +kernel] at h2
      refine stepK_d rfl rfl rfl hst (does_move rfl rfl) ?_
      refine stepK_d rfl rfl rfl hst (does_extract rfl rfl rfl) ?_
      refine stepK_d rfl rfl rfl hst (does_extract rfl rfl rfl) ?_
      refine stepK_alloc rfl rfl rfl rfl (by kernel_rfl : zeroOf Tryd.prog 41 = some (.agg #[.int .i64 0, .int .i64 0, .pointer none])) rfl hst ?_
      clear hst
      intro b7 w7 hst
      refine stepK_store 1 rfl rfl rfl rfl rfl rfl (by kernel_rfl : sizeB Tryd.prog 41 = some 3) rfl rfl hst rfl (by first | (simp [uN_length]; omega) | simp) ?_
      clear hst
      intro w8 hst
      simp only [List.nil_append, List.cons_append, List.set_cons_zero, List.set_cons_succ, splice, List.toList_toArray, List.take_zero, List.take_succ_cons, List.take_nil, List.drop_zero, List.drop_succ_cons, List.drop_nil, List.length_cons, List.length_nil, Nat.zero_add, Nat.add_zero, Nat.reduceAdd, List.append_nil] at hst
      refine stepK_d rfl rfl rfl hst (does_assign rfl rfl) ?_
      refine wpK_nil ?_
      refine cp_then ?_
      refine cp_seq ?_
      refine cp_block ?_
      refine cp_seq ?_
      refine cp_region ?_
      refine stepK_d rfl rfl rfl hst (does_move rfl rfl) ?_
      refine stepK_d rfl rfl rfl hst (does_not rfl rfl) ?_
      refine stepK_d rfl rfl rfl hst (does_move rfl rfl) ?_
      refine wpK_splitb (t := 53) rfl ?_ ?_
      · intro s53
        exact absurd s53 (by decide)
      · intro s53
        refine stepK_guard rfl rfl rfl rfl rfl rfl hst (does_move rfl rfl) ?_
        refine stepK_guard rfl rfl rfl rfl rfl rfl hst (does_not rfl rfl) ?_
        refine stepK_d rfl rfl rfl hst (does_pick_false rfl rfl rfl) ?_
        refine stepK_d rfl rfl rfl hst (does_assign rfl rfl) ?_
        refine wpK_nil ?_
        refine cp_then ?_
        refine cp_cond rfl ?_ ?_
        · intro c50
          exact absurd c50 (by decide)
        · intro c50
          refine cp_seq ?_
          refine cp_region ?_
          refine stepK_d rfl rfl rfl hst (does_move rfl rfl) ?_
          refine stepK_d rfl rfl rfl hst (does_move rfl rfl) ?_
          refine stepK_d rfl rfl rfl hst (does_index_bt (j := 2) rfl (by kernel_rfl) rfl rfl (by omega) (by decide)) ?_
          refine stepK_d rfl rfl rfl hst (does_eql_n (b := 46) rfl rfl rfl) ?_
          refine stepK_d rfl rfl rfl hst (does_assign rfl rfl) ?_
          refine wpK_nil ?_
          refine cp_then ?_
          refine cp_if rfl ?_ ?_
          · intro c57
            exact absurd c57 (by decide)
          · intro c57
            refine cp_seq ?_
            refine cp_region ?_
            refine stepK_d rfl rfl rfl hst (does_load_ownN 1 rfl (by kernel_rfl) (by kernel_rfl : sizeB Tryd.prog 41 = some 3) rfl rfl rfl) ?_
            refine stepK_call rfl rfl rfl rfl rfl hst (Rat_Zero hst.agree h2) ?_
            clear hst
            intro v9 g9 w9 hst hle9 hcs9 hp9
            replace hT := hT.mono hle9
            replace h1 := h1.mono hle9
            replace h2 := h2.mono hle9
            obtain rfl := hp9
            refine stepK_d rfl rfl rfl hst (does_assign rfl rfl) ?_
            refine wpK_nil ?_
            refine cp_then ?_
            refine cp_if rfl ?_ ?_
            · intro c75
              exact absurd c75 (by decide +kernel)
            · intro c75
              refine cp_skip ?_
              refine at_block_normal ?_
              refine cp_then ?_
              refine cp_seq ?_
              refine cp_region ?_
              refine stepK_d rfl rfl rfl hst (does_load_ownN 0 rfl (by kernel_rfl) (by kernel_rfl : sizeB Tryd.prog 41 = some 3) rfl rfl rfl) ?_
              refine stepK_d rfl rfl rfl hst (does_load_ownN 1 rfl (by kernel_rfl) (by kernel_rfl : sizeB Tryd.prog 41 = some 3) rfl rfl rfl) ?_
              refine stepK_call rfl rfl rfl rfl rfl hst (Rat_Quo hst.agree h1 h2 f6 f4) ?_
              clear hst
              intro v10 g10 w10 hst hle10 hcs10 hp10
              replace hT := hT.mono hle10
              replace h1 := h1.mono hle10
              replace h2 := h2.mono hle10
              obtain ⟨p3, q3, a3, rfl, h3⟩ := hp10
              refine stepK_d rfl rfl rfl hst (does_move rfl rfl) ?_
              refine stepK_call rfl rfl rfl rfl rfl hst (rational_signed hst.agree hT h3 f64) ?_
              clear hst
              intro v11 g11 w11 hst hle11 hcs11 hp11
              replace hT := hT.mono hle11
              replace h1 := h1.mono hle11
              replace h2 := h2.mono hle11
              replace h3 := h3.mono hle11
              obtain rfl := hp11
              refine stepK_d rfl rfl rfl hst (does_assign rfl rfl) ?_
              refine stepK_d rfl rfl rfl hst (does_assign rfl rfl) ?_
              refine wpK_nil ?_
              refine cp_then ?_
              refine cp_ret ?_
              refine ret2 rfl rfl rfl hst ?_
              rw [if_pos rfl, tm3_2]

end Go.Proofs.YtbamjcfdlgnicaaDoor

namespace Go.Proofs.YtbamjcfdlgnicaaDoor
open Go Go.RowKit Go.Proofs.Vc
set_option linter.unusedVariables false
set_option linter.unusedSimpArgs false

set_option maxHeartbeats 1000000 in
theorem num_plain {g : Mem} {w : World} (hag : Agree g w) {s : ByteArray} (hs : s.size ≤ 1099511627776) :
    CallTo Tryd.prog 70 #[.string s] w (Ret w g fun v g => ∃ b : Bool, v = .bool b ∧ (b = true ↔ PlainL (Lb s))) := by
  refine CallTo.enter (vs := [.string s]) (by kernel_rfl : Tryd.prog.funcs[70]? = some Tryd.f70) (by kernel_rfl) rfl rfl rfl ?_
  have hst := St.init hag
  refine cp_seq ?_
  refine cp_region ?_
  refine stepK_d rfl rfl rfl hst (does_assign rfl rfl) ?_
  refine wpK_nil ?_
  refine cp_then ?_
  refine cp_seq ?_
  refine cp_seq ?_
  refine cp_region ?_
  refine stepK_d rfl rfl rfl hst (does_move rfl rfl) ?_
  refine stepK_d rfl rfl rfl hst (does_eql_string rfl rfl rfl) ?_
  refine stepK_d rfl rfl rfl hst (does_move rfl rfl) ?_
  refine wpK_split (t := 6) rfl ?_ ?_
  · intro s6
    refine stepK_pass rfl rfl rfl rfl rfl rfl rfl ?_
    refine stepK_pass rfl rfl rfl rfl rfl rfl rfl ?_
    refine stepK_pass rfl rfl rfl rfl rfl rfl rfl ?_
    refine stepK_pass rfl rfl rfl rfl rfl rfl rfl ?_
    refine stepK_passU rfl rfl rfl rfl rfl rfl ?_
    refine stepK_passU rfl rfl rfl rfl rfl rfl ?_
    refine stepK_passU rfl rfl rfl rfl rfl rfl ?_
    refine stepK_pass rfl rfl rfl rfl rfl rfl rfl ?_
    refine stepK_d rfl rfl rfl hst (does_pick_true rfl rfl rfl) ?_
    refine wpK_nil ?_
    refine cp_then ?_
    refine cp_cond_true rfl ?_
    refine cp_seq ?_
    refine cp_region ?_
    refine stepK_d rfl rfl rfl hst (does_assign rfl rfl) ?_
    refine wpK_nil ?_
    refine cp_then ?_
    refine cp_ret ?_
    refine at_then_ret ?_
    refine ret1 rfl rfl hst ?_
    exact ⟨_, rfl, no_plain (fun h => by have := h.pos; rw [s6] at this; exact absurd this (by decide))⟩
  · intro s6
    refine stepK_guard rfl rfl rfl rfl rfl rfl hst (does_move rfl rfl) ?_
    have h0 := size_pos_of_ne s6
    refine stepK_guard rfl rfl rfl rfl rfl rfl hst (does_index_bt rfl (by kernel_rfl) rfl rfl rfl (by omega)) ?_
    refine stepK_guard rfl rfl rfl rfl rfl rfl hst (does_eql_n (b := 48) rfl rfl rfl) ?_
    refine stepK_guard rfl rfl rfl rfl rfl rfl hst (does_move rfl rfl) ?_
    refine wpK_split (t := 10) rfl ?_ ?_
    · intro s10
      refine stepK_guard rfl rfl rfl rfl rfl rfl hst (does_move rfl rfl) ?_
      refine stepK_guard rfl rfl rfl rfl rfl rfl hst (does_len_string rfl (by kernel_rfl) rfl) ?_
      refine stepK_guard rfl rfl rfl rfl rfl rfl hst (does_gtr rfl rfl rfl) ?_
      refine stepK_guard rfl rfl rfl rfl rfl rfl hst (does_pick_true rfl rfl rfl) ?_
      refine stepK_d rfl rfl rfl hst (does_pick_false rfl rfl rfl) ?_
      refine wpK_nil ?_
      refine cp_then ?_
      refine cp_if rfl ?_ ?_
      · intro c15
        refine cp_seq ?_
        refine cp_region ?_
        refine stepK_d rfl rfl rfl hst (does_assign rfl rfl) ?_
        refine wpK_nil ?_
        refine cp_then ?_
        refine cp_ret ?_
        refine at_then_ret ?_
        refine ret1 rfl rfl hst ?_
        exact ⟨_, rfl, no_plain (fun h => by have := h.lead0 (by omega); omega)⟩
      · intro c15
        refine cp_skip ?_
        refine cp_then ?_
        refine cp_seq ?_
        refine cp_seq ?_
        refine cp_region ?_
        refine stepK_d rfl rfl rfl hst (does_move rfl rfl) ?_
        refine stepK_d rfl rfl rfl hst (does_len_string rfl (by kernel_rfl) rfl) ?_
        refine stepK_d rfl rfl rfl hst (does_move rfl rfl) ?_
        refine wpK_nil ?_
        refine cp_then ?_
        refine cp_block ?_
        refine cp_loop (ι := Nat) (fun k => [(0, .string s), (17, .int .i64 (s.size : Int)), (18, .int .i64 (k : Int))]) (fun k w1 => St w [] g g [] w1 ∧ k ≤ s.size ∧ ∀ j, j < k → 48 ≤ bt s j ∧ bt s j ≤ 57) (fun k => s.size - k) 0 ?k1 ?i1 ?r1
        case k1 => exact ⟨rfl, rfl, rfl, trivial⟩
        case i1 =>
          exact ⟨hst, Nat.zero_le _, fun j h => absurd h (Nat.not_lt_zero _)⟩
        case r1 =>
          clear hst
          rintro k w1 ⟨hst, hk, hd⟩
          refine cp_seq ?_
          refine cp_region ?_
          refine stepK_d rfl rfl rfl hst (does_lss rfl rfl rfl) ?_
          refine wpK_nil ?_
          refine cp_then ?_
          refine cp_seq ?_
          refine cp_if rfl ?_ ?_
          · intro c19
            refine cp_skip ?_
            refine cp_then ?_
            refine cp_seq ?_
            refine cp_block ?_
            refine cp_seq ?_
            refine cp_region ?_
            refine stepK_d rfl rfl rfl hst (does_move rfl rfl) ?_
            refine stepK_d rfl rfl rfl hst (does_assign rfl rfl) ?_
            refine wpK_nil ?_
            refine cp_then ?_
            refine cp_seq ?_
            refine cp_region ?_
            refine stepK_d rfl rfl rfl hst (does_move rfl rfl) ?_
            refine stepK_d rfl rfl rfl hst (does_move rfl rfl) ?_
            refine stepK_d rfl rfl rfl hst (does_index_bt rfl (by kernel_rfl) rfl rfl rfl (by omega)) ?_
            refine stepK_d rfl rfl rfl hst (does_lss_n (b := 48) rfl rfl rfl) ?_
            refine stepK_d rfl rfl rfl hst (does_move rfl rfl) ?_
            refine wpK_split (t := 25) rfl ?_ ?_
            · intro s25
              refine stepK_pass rfl rfl rfl rfl rfl rfl rfl ?_
              refine stepK_pass rfl rfl rfl rfl rfl rfl rfl ?_
              refine stepK_pass rfl rfl rfl rfl rfl rfl rfl ?_
              refine stepK_pass rfl rfl rfl rfl rfl rfl rfl ?_
              refine stepK_d rfl rfl rfl hst (does_pick_true rfl rfl rfl) ?_
              refine wpK_nil ?_
              refine cp_then ?_
              refine cp_cond_true rfl ?_
              refine cp_seq ?_
              refine cp_region ?_
              refine stepK_d rfl rfl rfl hst (does_assign rfl rfl) ?_
              refine wpK_nil ?_
              refine cp_then ?_
              refine cp_ret ?_
              refine at_block_ret ?_
              refine at_then_ret ?_
              refine at_then_ret ?_
              refine at_block_ret ?_
              refine at_then_ret ?_
              refine ret1 rfl rfl hst ?_
              exact ⟨_, rfl, no_plain (fun h => by have := h.all k (by omega); omega)⟩
            · intro s25
              refine stepK_guard rfl rfl rfl rfl rfl rfl hst (does_move rfl rfl) ?_
              refine stepK_guard rfl rfl rfl rfl rfl rfl hst (does_move rfl rfl) ?_
              refine stepK_guard rfl rfl rfl rfl rfl rfl hst (does_index_bt rfl (by kernel_rfl) rfl rfl rfl (by omega)) ?_
              refine stepK_guard rfl rfl rfl rfl rfl rfl hst (does_gtr_n (b := 57) rfl rfl rfl) ?_
              refine stepK_d rfl rfl rfl hst (does_pick_false rfl rfl rfl) ?_
              refine wpK_nil ?_
              refine cp_then ?_
              refine cp_if rfl ?_ ?_
              · intro c30
                refine cp_seq ?_
                refine cp_region ?_
                refine stepK_d rfl rfl rfl hst (does_assign rfl rfl) ?_
                refine wpK_nil ?_
                refine cp_then ?_
                refine cp_ret ?_
                refine at_block_ret ?_
                refine at_then_ret ?_
                refine at_then_ret ?_
                refine at_block_ret ?_
                refine at_then_ret ?_
                refine ret1 rfl rfl hst ?_
                exact ⟨_, rfl, no_plain (fun h => by have := h.all k (by omega); omega)⟩
              · intro c30
                refine cp_skip ?_
                refine at_block_normal ?_
                refine cp_then ?_
                refine cp_region ?_
                refine stepK_d rfl rfl rfl hst (Does.int (does_add rfl rfl rfl) (wrap_i64 (by omega) (by omega))) ?_
                refine stepK_d rfl rfl rfl hst (does_move rfl rfl) ?_
                refine wpK_nil ?_
                refine round_end (k + 1) ?_ ?_ ?_
                · exact ⟨rfl, rfl, rfl, trivial⟩
                · exact ⟨hst, by omega, fun j h => by
                    rcases Nat.lt_or_ge j k with h9 | h9
                    · exact hd j h9
                    · obtain rfl : j = k := by omega
                      omega⟩
                · omega
          · intro c19
            refine cp_exit ?_
            refine at_then_exit ?_
            refine at_then_exit ?_
            refine cp_exit_here ?_
            refine cp_then ?_
            refine cp_seq ?_
            refine cp_region ?_
            refine stepK_d rfl rfl rfl hst (does_assign rfl rfl) ?_
            refine wpK_nil ?_
            refine cp_then ?_
            refine cp_ret ?_
            refine ret1 rfl rfl hst ?_
            obtain rfl : k = s.size := by omega
            exact ⟨_, rfl, yes_plain (plain_of (s := s) h0 (fun (h : bt s 0 = 48) => by omega) hd)⟩
    · intro s10
      refine stepK_pass rfl rfl rfl rfl rfl rfl rfl ?_
      refine stepK_pass rfl rfl rfl rfl rfl rfl rfl ?_
      refine stepK_pass rfl rfl rfl rfl rfl rfl rfl ?_
      refine stepK_guard rfl rfl rfl rfl rfl rfl hst (does_pick_false rfl rfl rfl) ?_
      refine stepK_d rfl rfl rfl hst (does_pick_false rfl rfl rfl) ?_
      refine wpK_nil ?_
      refine cp_then ?_
      refine cp_cond_false rfl ?_
      refine cp_skip ?_
      refine cp_then ?_
      refine cp_seq ?_
      refine cp_seq ?_
      refine cp_region ?_
      refine stepK_d rfl rfl rfl hst (does_move rfl rfl) ?_
      refine stepK_d rfl rfl rfl hst (does_len_string rfl (by kernel_rfl) rfl) ?_
      refine stepK_d rfl rfl rfl hst (does_move rfl rfl) ?_
      refine wpK_nil ?_
      refine cp_then ?_
      refine cp_block ?_
      refine cp_loop (ι := Nat) (fun k => [(0, .string s), (17, .int .i64 (s.size : Int)), (18, .int .i64 (k : Int))]) (fun k w1 => St w [] g g [] w1 ∧ k ≤ s.size ∧ ∀ j, j < k → 48 ≤ bt s j ∧ bt s j ≤ 57) (fun k => s.size - k) 0 ?k2 ?i2 ?r2
      case k2 => exact ⟨rfl, rfl, rfl, trivial⟩
      case i2 =>
        exact ⟨hst, Nat.zero_le _, fun j h => absurd h (Nat.not_lt_zero _)⟩
      case r2 =>
        clear hst
        rintro k w1 ⟨hst, hk, hd⟩
        refine cp_seq ?_
        refine cp_region ?_
        refine stepK_d rfl rfl rfl hst (does_lss rfl rfl rfl) ?_
        refine wpK_nil ?_
        refine cp_then ?_
        refine cp_seq ?_
        refine cp_if rfl ?_ ?_
        · intro c19
          refine cp_skip ?_
          refine cp_then ?_
          refine cp_seq ?_
          refine cp_block ?_
          refine cp_seq ?_
          refine cp_region ?_
          refine stepK_d rfl rfl rfl hst (does_move rfl rfl) ?_
          refine stepK_d rfl rfl rfl hst (does_assign rfl rfl) ?_
          refine wpK_nil ?_
          refine cp_then ?_
          refine cp_seq ?_
          refine cp_region ?_
          refine stepK_d rfl rfl rfl hst (does_move rfl rfl) ?_
          refine stepK_d rfl rfl rfl hst (does_move rfl rfl) ?_
          refine stepK_d rfl rfl rfl hst (does_index_bt rfl (by kernel_rfl) rfl rfl rfl (by omega)) ?_
          refine stepK_d rfl rfl rfl hst (does_lss_n (b := 48) rfl rfl rfl) ?_
          refine stepK_d rfl rfl rfl hst (does_move rfl rfl) ?_
          refine wpK_split (t := 25) rfl ?_ ?_
          · intro s25
            refine stepK_pass rfl rfl rfl rfl rfl rfl rfl ?_
            refine stepK_pass rfl rfl rfl rfl rfl rfl rfl ?_
            refine stepK_pass rfl rfl rfl rfl rfl rfl rfl ?_
            refine stepK_pass rfl rfl rfl rfl rfl rfl rfl ?_
            refine stepK_d rfl rfl rfl hst (does_pick_true rfl rfl rfl) ?_
            refine wpK_nil ?_
            refine cp_then ?_
            refine cp_cond_true rfl ?_
            refine cp_seq ?_
            refine cp_region ?_
            refine stepK_d rfl rfl rfl hst (does_assign rfl rfl) ?_
            refine wpK_nil ?_
            refine cp_then ?_
            refine cp_ret ?_
            refine at_block_ret ?_
            refine at_then_ret ?_
            refine at_then_ret ?_
            refine at_block_ret ?_
            refine at_then_ret ?_
            refine ret1 rfl rfl hst ?_
            exact ⟨_, rfl, no_plain (fun h => by have := h.all k (by omega); omega)⟩
          · intro s25
            refine stepK_guard rfl rfl rfl rfl rfl rfl hst (does_move rfl rfl) ?_
            refine stepK_guard rfl rfl rfl rfl rfl rfl hst (does_move rfl rfl) ?_
            refine stepK_guard rfl rfl rfl rfl rfl rfl hst (does_index_bt rfl (by kernel_rfl) rfl rfl rfl (by omega)) ?_
            refine stepK_guard rfl rfl rfl rfl rfl rfl hst (does_gtr_n (b := 57) rfl rfl rfl) ?_
            refine stepK_d rfl rfl rfl hst (does_pick_false rfl rfl rfl) ?_
            refine wpK_nil ?_
            refine cp_then ?_
            refine cp_if rfl ?_ ?_
            · intro c30
              refine cp_seq ?_
              refine cp_region ?_
              refine stepK_d rfl rfl rfl hst (does_assign rfl rfl) ?_
              refine wpK_nil ?_
              refine cp_then ?_
              refine cp_ret ?_
              refine at_block_ret ?_
              refine at_then_ret ?_
              refine at_then_ret ?_
              refine at_block_ret ?_
              refine at_then_ret ?_
              refine ret1 rfl rfl hst ?_
              exact ⟨_, rfl, no_plain (fun h => by have := h.all k (by omega); omega)⟩
            · intro c30
              refine cp_skip ?_
              refine at_block_normal ?_
              refine cp_then ?_
              refine cp_region ?_
              refine stepK_d rfl rfl rfl hst (Does.int (does_add rfl rfl rfl) (wrap_i64 (by omega) (by omega))) ?_
              refine stepK_d rfl rfl rfl hst (does_move rfl rfl) ?_
              refine wpK_nil ?_
              refine round_end (k + 1) ?_ ?_ ?_
              · exact ⟨rfl, rfl, rfl, trivial⟩
              · exact ⟨hst, by omega, fun j h => by
                  rcases Nat.lt_or_ge j k with h9 | h9
                  · exact hd j h9
                  · obtain rfl : j = k := by omega
                    omega⟩
              · omega
        · intro c19
          refine cp_exit ?_
          refine at_then_exit ?_
          refine at_then_exit ?_
          refine cp_exit_here ?_
          refine cp_then ?_
          refine cp_seq ?_
          refine cp_region ?_
          refine stepK_d rfl rfl rfl hst (does_assign rfl rfl) ?_
          refine wpK_nil ?_
          refine cp_then ?_
          refine cp_ret ?_
          refine ret1 rfl rfl hst ?_
          obtain rfl : k = s.size := by omega
          exact ⟨_, rfl, yes_plain (plain_of (s := s) h0 (fun h => absurd h s10) hd)⟩

end Go.Proofs.YtbamjcfdlgnicaaDoor

namespace Go.Proofs.YtbamjcfdlgnicaaDoor
open Go Go.RowKit Go.Proofs.Vc
set_option linter.unusedVariables false
set_option linter.unusedSimpArgs false

set_option maxHeartbeats 4000000 in
theorem num_Of {g : Mem} {w : World} (hag : Agree g w) {s : ByteArray} (hs : s.size < 1099511627776) :
    CallTo Tryd.prog 56 #[.string s] w (Ret w g fun v g => ∃ p q a, v = .tuple #[.agg #[.int .i64 p, .int .i64 q, .pointer a], .bool (readR s).isSome] ∧ IsRat g p q a (getR s)) := by
  refine CallTo.enter (vs := [.string s]) (by kernel_rfl : Tryd.prog.funcs[56]? = some Tryd.f56) (by kernel_rfl) rfl rfl rfl ?_
  have hst := St.init hag
  unfold getR
  refine cp_seq ?_
  refine cp_region ?_
  refine stepK_alloc rfl rfl rfl rfl (by kernel_rfl : zeroOf Tryd.prog 41 = some (.agg #[.int .i64 0, .int .i64 0, .pointer none])) rfl hst ?_
  clear hst
  intro r0 w1 hst
  refine stepK_d rfl rfl rfl hst (does_assign rfl rfl) ?_
  refine wpK_nil ?_
  refine cp_then ?_
  refine cp_seq ?_
  refine cp_region ?_
  refine stepK_d rfl rfl rfl hst (does_move rfl rfl) ?_
  refine stepK_d rfl rfl rfl hst (does_assign rfl rfl) ?_
  refine stepK_d rfl rfl rfl hst (does_assign rfl rfl) ?_
  refine wpK_nil ?_
  refine cp_then ?_
  refine cp_join (ι := Bool × ByteArray) (fun (neg, t) => [(2, .pointer (some ⟨r0, 0, none⟩)), (4, .string t), (5, .bool neg)]) (fun (neg, t) w1 => St w [] g g [(r0, .cells #[.int .i64 0, .int .i64 0, .pointer none] 41 (0, 0))] w1 ∧ Lb s = (if neg then [45] else []) ++ Lb t ∧ (neg = false → (Lb t).head? ≠ some 45) ∧ t.size ≤ s.size) ?c2 ?d2
  case c2 =>
    refine cp_seq ?_
    refine cp_region ?_
    refine stepK_d rfl rfl rfl hst (does_move rfl rfl) ?_
    refine stepK_d rfl rfl rfl hst (does_len_string rfl (by kernel_rfl) rfl) ?_
    refine stepK_d rfl rfl rfl hst (does_gtr rfl rfl rfl) ?_
    refine stepK_d rfl rfl rfl hst (does_move rfl rfl) ?_
    refine wpK_split (t := 16) rfl ?_ ?_
    · intro s16
      refine stepK_guard rfl rfl rfl rfl rfl rfl hst (does_move rfl rfl) ?_
      refine stepK_guard rfl rfl rfl rfl rfl rfl hst (does_index_bt (j := 0) rfl (by kernel_rfl) rfl rfl (by omega) (by omega)) ?_
      refine stepK_guard rfl rfl rfl rfl rfl rfl hst (does_eql_n (b := 45) rfl rfl rfl) ?_
      refine stepK_d rfl rfl rfl hst (does_pick_true rfl rfl rfl) ?_
      refine wpK_nil ?_
      refine cp_then ?_
      refine cp_if rfl ?_ ?_
      · intro c20
        refine cp_region ?_
        refine stepK_d rfl rfl rfl hst (does_move rfl rfl) ?_
        refine stepK_d rfl rfl rfl hst (does_slice_string (l := 1) (h := s.size) rfl (by kernel_rfl) rfl ⟨_, _, rfl, rfl⟩ rfl (by omega) (Nat.le_refl _)) ?_
        refine stepK_d rfl rfl rfl hst (does_assign rfl rfl) ?_
        refine stepK_d rfl rfl rfl hst (does_assign rfl rfl) ?_
        refine wpK_nil ?_
        refine join_end ((true, s.extract 1 s.size)) ?_ ?_
        · exact ⟨rfl, rfl, rfl, trivial⟩
        · exact ⟨hst, Lb_cut1 (c := 45) (by omega) c20, fun e => Bool.noConfusion e, by rw [size_tail]; omega⟩
      · intro c20
        refine cp_skip ?_
        refine join_end ((false, s)) ?_ ?_
        · exact ⟨rfl, rfl, rfl, trivial⟩
        · exact ⟨hst, rfl, fun _ => Lb_head_ne (fun _ => c20), Nat.le_refl _⟩
    · intro s16
      refine stepK_pass rfl rfl rfl rfl rfl rfl rfl ?_
      refine stepK_pass rfl rfl rfl rfl rfl rfl rfl ?_
      refine stepK_pass rfl rfl rfl rfl rfl rfl rfl ?_
      refine stepK_d rfl rfl rfl hst (does_pick_false rfl rfl rfl) ?_
      refine wpK_nil ?_
      refine cp_then ?_
      refine cp_cond_false rfl ?_
      refine cp_skip ?_
      refine join_end ((false, s)) ?_ ?_
      · exact ⟨rfl, rfl, rfl, trivial⟩
      · exact ⟨hst, rfl, fun _ => Lb_head_ne (fun h => by omega), Nat.le_refl _⟩
  case d2 =>
    clear hst
    rintro ⟨neg, t⟩ w1 ⟨hst, hL, hneg, hts⟩
    refine cp_seq ?_
    refine cp_region ?_
    refine stepK_d rfl rfl rfl hst (does_move rfl rfl) ?_
    refine stepK_d rfl rfl rfl hst (does_assign rfl rfl) ?_
    refine stepK_d rfl rfl rfl hst (does_assign rfl rfl) ?_
    refine stepK_d rfl rfl rfl hst (does_assign rfl rfl) ?_
    refine wpK_nil ?_
    refine cp_then ?_
    refine cp_join (ι := ByteArray × ByteArray × Bool) (fun (top, bottom, found) => [(2, .pointer (some ⟨r0, 0, none⟩)), (5, .bool neg), (6, .string top), (7, .string bottom), (8, .bool found)]) (fun (top, bottom, found) w2 => St w [] g g [(r0, .cells #[.int .i64 0, .int .i64 0, .pointer none] 41 (0, 0))] w2 ∧ Lb t = Lb top ++ (if found then 47 :: Lb bottom else []) ∧ (47 : UInt8) ∉ Lb top ∧ (found = false → Lb bottom = [49]) ∧ top.size ≤ t.size ∧ bottom.size ≤ t.size + 1) ?c3 ?d3
    case c3 =>
      refine cp_seq ?_
      refine cp_region ?_
      refine stepK_d rfl rfl rfl hst (does_move rfl rfl) ?_
      refine stepK_d rfl rfl rfl hst (does_len_string rfl (by kernel_rfl) rfl) ?_
      refine stepK_d rfl rfl rfl hst (does_move rfl rfl) ?_
      refine wpK_nil ?_
      refine cp_then ?_
      refine cp_block ?_
      refine cp_loop (ι := Nat) (fun k => [(2, .pointer (some ⟨r0, 0, none⟩)), (4, .string t), (5, .bool neg), (6, .string t), (7, .string ⟨#[49]⟩), (8, .bool false), (25, .int .i64 (t.size : Int)), (26, .int .i64 (k : Int))]) (fun k w3 => St w [] g g [(r0, .cells #[.int .i64 0, .int .i64 0, .pointer none] 41 (0, 0))] w3 ∧ k ≤ t.size ∧ ∀ j, j < k → bt t j ≠ 47) (fun k => t.size - k) 0 ?k4 ?i4 ?r4
      case k4 => exact ⟨rfl, rfl, rfl, rfl, rfl, rfl, rfl, rfl, trivial⟩
      case i4 =>
        exact ⟨hst, Nat.zero_le _, fun j h => absurd h (Nat.not_lt_zero _)⟩
      case r4 =>
        clear hst
        rintro k w3 ⟨hst, hk, hk47⟩
        refine cp_seq ?_
        refine cp_region ?_
        refine stepK_d rfl rfl rfl hst (does_lss rfl rfl rfl) ?_
        refine wpK_nil ?_
        refine cp_then ?_
        refine cp_seq ?_
        refine cp_if rfl ?_ ?_
        · intro c27
          refine cp_skip ?_
          refine cp_then ?_
          refine cp_seq ?_
          refine cp_block ?_
          refine cp_seq ?_
          refine cp_region ?_
          refine stepK_d rfl rfl rfl hst (does_move rfl rfl) ?_
          refine stepK_d rfl rfl rfl hst (does_assign rfl rfl) ?_
          refine wpK_nil ?_
          refine cp_then ?_
          refine cp_seq ?_
          refine cp_region ?_
          refine stepK_d rfl rfl rfl hst (does_move rfl rfl) ?_
          refine stepK_d rfl rfl rfl hst (does_move rfl rfl) ?_
          refine stepK_d rfl rfl rfl hst (does_index_bt rfl (by kernel_rfl) rfl rfl rfl (by omega)) ?_
          refine stepK_d rfl rfl rfl hst (does_eql_n (b := 47) rfl rfl rfl) ?_
          refine wpK_nil ?_
          refine cp_then ?_
          refine cp_if rfl ?_ ?_
          · intro c32
            refine cp_seq ?_
            refine cp_drawn (by kernel_rfl) 10 [(0, true), (1, true), (2, true), (3, true), (4, true), (5, true), (6, true), (7, true), (8, true), (9, true)] _ rfl (by kernel_rfl) (by kernel_rfl) (by kernel_rfl) (fun _ _ _ _ _ h => h) _ (hst.drew) ?_
            have hst0 := hst.drew
            clear hst
            have hst := hst0
            refine stepD_d rfl rfl rfl rfl (does_move rfl rfl) ?_
            refine stepD_d rfl rfl rfl rfl (does_move rfl rfl) ?_
            refine stepD_d rfl rfl rfl rfl (does_slice_string (l := 0) (h := k) rfl (by kernel_rfl) rfl rfl ⟨_, _, rfl, rfl⟩ (Nat.zero_le _) (by omega)) ?_
            refine stepD_d rfl rfl rfl rfl (does_move rfl rfl) ?_
            refine stepD_d rfl rfl rfl rfl (does_move rfl rfl) ?_
            refine stepD_d rfl rfl rfl rfl (Does.int (does_add rfl rfl rfl) (wrap_i64 (by omega) (by omega))) ?_
            refine stepD_d rfl rfl rfl rfl (does_slice_string (l := k + 1) (h := t.size) rfl (by kernel_rfl) rfl ⟨_, _, rfl, by omega⟩ rfl (by omega) (Nat.le_refl _)) ?_
            refine stepD_d rfl rfl rfl rfl (does_assign rfl rfl) ?_
            refine stepD_d rfl rfl rfl rfl (does_assign rfl rfl) ?_
            refine stepD_d rfl rfl rfl rfl (does_assign rfl rfl) ?_
            refine stepD_tail ?_
            refine wpK_nil ?_
            refine cp_then ?_
            refine cp_exit ?_
            refine cp_exit_on (by decide) ?_
            refine at_then_exit ?_
            refine at_then_exit ?_
            refine cp_exit_here ?_
            refine join_end ((t.extract 0 k, t.extract (k + 1) t.size, true)) ?_ ?_
            · exact ⟨rfl, rfl, rfl, rfl, rfl, trivial⟩
            · exact ⟨hst, Lb_cutk (c := 47) (by omega) c32, not_mem_take (c := 47) hk hk47, fun e => Bool.noConfusion e, by rw [ByteArray.size_extract]; omega, by rw [size_tail]; omega⟩
          · intro c32
            refine cp_skip ?_
            refine at_block_normal ?_
            refine cp_then ?_
            refine cp_region ?_
            refine stepK_d rfl rfl rfl hst (Does.int (does_add rfl rfl rfl) (wrap_i64 (by omega) (by omega))) ?_
            refine stepK_d rfl rfl rfl hst (does_move rfl rfl) ?_
            refine wpK_nil ?_
            refine round_end (k + 1) ?_ ?_ ?_
            · exact ⟨rfl, rfl, rfl, rfl, rfl, rfl, rfl, rfl, trivial⟩
            · exact ⟨hst, by omega, fun j h => by
                rcases Nat.lt_or_ge j k with h9 | h9
                · exact hk47 j h9
                · obtain rfl : j = k := by omega
                  exact c32⟩
            · show t.size - (k + 1) < t.size - k
              omega
        · intro c27
          refine cp_exit ?_
          refine at_then_exit ?_
          refine at_then_exit ?_
          refine cp_exit_here ?_
          obtain rfl : k = t.size := by omega
          refine join_end ((t, ⟨#[49]⟩, false)) ?_ ?_
          · exact ⟨rfl, rfl, rfl, rfl, rfl, trivial⟩
          · refine ⟨hst, by simp, ?_, fun _ => rfl, Nat.le_refl _, by show 1 ≤ _; omega⟩
            have h9 := not_mem_take (c := 47) hk hk47
            rw [ByteArray.extract_zero_size] at h9
            exact h9
    case d3 =>
      clear hst
      rintro ⟨top, bottom, found⟩ w2 ⟨hst, hL2, h47, hone, hts2, hbs2⟩
      have hcut : Cut (Lb s) neg (Lb top) (Lb bottom) found := ⟨by rw [hL, hL2], fun e => by rw [← hL2]; exact hneg e, h47, hone⟩
      refine cp_join (ι := Unit) (fun () => [(2, .pointer (some ⟨r0, 0, none⟩)), (5, .bool neg), (6, .string top), (7, .string bottom), (8, .bool found)]) (fun () w4 => ∃ g4, St w [] g g4 [(r0, .cells #[.int .i64 0, .int .i64 0, .pointer none] 41 (0, 0))] w4 ∧ Okay0 neg (Lb top) (Lb bottom) found) ?c5 ?d5
      case c5 =>
        refine cp_seq ?_
        refine cp_region ?_
        refine stepK_d rfl rfl rfl hst (does_move rfl rfl) ?_
        refine stepK_call rfl rfl rfl rfl rfl hst (num_plain hst.agree (by omega)) ?_
        clear hst
        intro v6 g6 w6 hst hle6 hcs6 hp6
        obtain ⟨pt, rfl, hpt⟩ := hp6
        refine stepK_d rfl rfl rfl hst (does_not rfl rfl) ?_
        refine stepK_d rfl rfl rfl hst (does_move rfl rfl) ?_
        refine wpK_splitb (t := 44) rfl ?_ ?_
        · intro s44
          refine stepK_pass rfl rfl rfl rfl rfl rfl rfl ?_
          refine stepK_pass rfl rfl rfl rfl rfl rfl rfl ?_
          refine stepK_pass rfl rfl rfl rfl rfl rfl rfl ?_
          refine stepK_d rfl rfl rfl hst (does_pick_true rfl rfl rfl) ?_
          refine stepK_d rfl rfl rfl hst (does_move rfl rfl) ?_
          refine stepK_pass rfl rfl rfl rfl rfl rfl rfl ?_
          refine stepK_pass rfl rfl rfl rfl rfl rfl rfl ?_
          refine stepK_passU rfl rfl rfl rfl rfl rfl ?_
          refine stepK_passU rfl rfl rfl rfl rfl rfl ?_
          refine stepK_pass rfl rfl rfl rfl rfl rfl rfl ?_
          refine stepK_d rfl rfl rfl hst (does_pick_true rfl rfl rfl) ?_
          refine stepK_d rfl rfl rfl hst (does_move rfl rfl) ?_
          refine stepK_pass rfl rfl rfl rfl rfl rfl rfl ?_
          refine stepK_pass rfl rfl rfl rfl rfl rfl rfl ?_
          refine stepK_passU rfl rfl rfl rfl rfl rfl ?_
          refine stepK_passU rfl rfl rfl rfl rfl rfl ?_
          refine stepK_passU rfl rfl rfl rfl rfl rfl ?_
          refine stepK_passU rfl rfl rfl rfl rfl rfl ?_
          refine stepK_passU rfl rfl rfl rfl rfl rfl ?_
          refine stepK_passU rfl rfl rfl rfl rfl rfl ?_
          refine stepK_pass rfl rfl rfl rfl rfl rfl rfl ?_
          refine stepK_d rfl rfl rfl hst (does_pick_true rfl rfl rfl) ?_
          refine wpK_nil ?_
          refine cp_then ?_
          refine cp_cond_true rfl ?_
          refine cp_seq ?_
          refine cp_region ?_
          refine stepK_d rfl rfl rfl hst (does_build rfl (by kernel_rfl : layOf Tryd.prog 41 = some ([(0, 1), (1, 1), (2, 1)], [.int .i64 0, .int .i64 0, .pointer none])) rfl rfl) ?_
          refine stepK_store 0 rfl rfl rfl rfl rfl rfl (by kernel_rfl : sizeB Tryd.prog 41 = some 3) rfl rfl hst rfl (by first | (simp [uN_length]; omega) | simp) ?_
          clear hst
          intro w7 hst
          simp only [List.nil_append, List.cons_append, List.set_cons_zero, List.set_cons_succ, splice, List.toList_toArray, List.take_zero, List.take_succ_cons, List.take_nil, List.drop_zero, List.drop_succ_cons, List.drop_nil, List.length_cons, List.length_nil, Nat.zero_add, Nat.add_zero, Nat.reduceAdd, List.append_nil] at hst
          refine stepK_d rfl rfl rfl hst (does_assign rfl rfl) ?_
          refine wpK_nil ?_
          refine cp_then ?_
          refine cp_ret ?_
          refine at_then_ret ?_
          refine ret2c (k := 0) rfl rfl (by kernel_rfl) (by kernel_rfl) rfl rfl hst rfl ?_
          first
          | (rw [hrn]; exact ⟨_, _, _, rfl, IsRat.zero _⟩)
          | (rw [hrs]; exact ⟨_, _, _, rfl, hr9⟩)
          | (have hrn : readR s = none := reject0 hcut (fun ho => by
               first
               | (have h9 := hpt.2 ho.ptop; simp_all; done)
               | (have h9 := hpb.2 ho.pbot; simp_all; done)
               | exact ho.nzero ⟨by assumption, by rw [show top = _ by assumption]; rfl⟩
               | exact ho.nb ⟨by assumption, .inl (by rw [show bottom = _ by assumption]; rfl)⟩
               | exact ho.nb ⟨by assumption, .inr (by rw [show bottom = _ by assumption]; rfl)⟩)
             rw [hrn]
             exact ⟨_, _, _, rfl, IsRat.zero _⟩)
        · intro s44
          refine stepK_guard rfl rfl rfl rfl rfl rfl hst (does_move rfl rfl) ?_
          refine stepK_call_guard rfl rfl rfl rfl rfl rfl rfl rfl hst (num_plain hst.agree (by omega)) ?_
          clear hst
          intro v8 g8 w8 hst hle8 hcs8 hp8
          obtain ⟨pb, rfl, hpb⟩ := hp8
          refine stepK_guard rfl rfl rfl rfl rfl rfl hst (does_not rfl rfl) ?_
          refine stepK_d rfl rfl rfl hst (does_pick_false rfl rfl rfl) ?_
          refine stepK_d rfl rfl rfl hst (does_move rfl rfl) ?_
          refine wpK_splitb (t := 49) rfl ?_ ?_
          · intro s49
            refine stepK_pass rfl rfl rfl rfl rfl rfl rfl ?_
            refine stepK_pass rfl rfl rfl rfl rfl rfl rfl ?_
            refine stepK_passU rfl rfl rfl rfl rfl rfl ?_
            refine stepK_passU rfl rfl rfl rfl rfl rfl ?_
            refine stepK_pass rfl rfl rfl rfl rfl rfl rfl ?_
            refine stepK_d rfl rfl rfl hst (does_pick_true rfl rfl rfl) ?_
            refine stepK_d rfl rfl rfl hst (does_move rfl rfl) ?_
            refine stepK_pass rfl rfl rfl rfl rfl rfl rfl ?_
            refine stepK_pass rfl rfl rfl rfl rfl rfl rfl ?_
            refine stepK_passU rfl rfl rfl rfl rfl rfl ?_
            refine stepK_passU rfl rfl rfl rfl rfl rfl ?_
            refine stepK_passU rfl rfl rfl rfl rfl rfl ?_
            refine stepK_passU rfl rfl rfl rfl rfl rfl ?_
            refine stepK_passU rfl rfl rfl rfl rfl rfl ?_
            refine stepK_passU rfl rfl rfl rfl rfl rfl ?_
            refine stepK_pass rfl rfl rfl rfl rfl rfl rfl ?_
            refine stepK_d rfl rfl rfl hst (does_pick_true rfl rfl rfl) ?_
            refine wpK_nil ?_
            refine cp_then ?_
            refine cp_cond_true rfl ?_
            refine cp_seq ?_
            refine cp_region ?_
            refine stepK_d rfl rfl rfl hst (does_build rfl (by kernel_rfl : layOf Tryd.prog 41 = some ([(0, 1), (1, 1), (2, 1)], [.int .i64 0, .int .i64 0, .pointer none])) rfl rfl) ?_
            refine stepK_store 0 rfl rfl rfl rfl rfl rfl (by kernel_rfl : sizeB Tryd.prog 41 = some 3) rfl rfl hst rfl (by first | (simp [uN_length]; omega) | simp) ?_
            clear hst
            intro w9 hst
            simp only [List.nil_append, List.cons_append, List.set_cons_zero, List.set_cons_succ, splice, List.toList_toArray, List.take_zero, List.take_succ_cons, List.take_nil, List.drop_zero, List.drop_succ_cons, List.drop_nil, List.length_cons, List.length_nil, Nat.zero_add, Nat.add_zero, Nat.reduceAdd, List.append_nil] at hst
            refine stepK_d rfl rfl rfl hst (does_assign rfl rfl) ?_
            refine wpK_nil ?_
            refine cp_then ?_
            refine cp_ret ?_
            refine at_then_ret ?_
            refine ret2c (k := 0) rfl rfl (by kernel_rfl) (by kernel_rfl) rfl rfl hst rfl ?_
            first
            | (rw [hrn]; exact ⟨_, _, _, rfl, IsRat.zero _⟩)
            | (rw [hrs]; exact ⟨_, _, _, rfl, hr9⟩)
            | (have hrn : readR s = none := reject0 hcut (fun ho => by
                 first
                 | (have h9 := hpt.2 ho.ptop; simp_all; done)
                 | (have h9 := hpb.2 ho.pbot; simp_all; done)
                 | exact ho.nzero ⟨by assumption, by rw [show top = _ by assumption]; rfl⟩
                 | exact ho.nb ⟨by assumption, .inl (by rw [show bottom = _ by assumption]; rfl)⟩
                 | exact ho.nb ⟨by assumption, .inr (by rw [show bottom = _ by assumption]; rfl)⟩)
               rw [hrn]
               exact ⟨_, _, _, rfl, IsRat.zero _⟩)
          · intro s49
            refine stepK_guard rfl rfl rfl rfl rfl rfl hst (does_move rfl rfl) ?_
            refine stepK_guard rfl rfl rfl rfl rfl rfl hst (does_move rfl rfl) ?_
            refine wpK_splitb (t := 51) rfl ?_ ?_
            · intro s51
              refine stepK_guard rfl rfl rfl rfl rfl rfl hst (does_move rfl rfl) ?_
              refine stepK_guard rfl rfl rfl rfl rfl rfl hst (does_eql_string rfl rfl rfl) ?_
              refine stepK_guard rfl rfl rfl rfl rfl rfl hst (does_pick_true rfl rfl rfl) ?_
              refine stepK_d rfl rfl rfl hst (does_pick_false rfl rfl rfl) ?_
              refine stepK_d rfl rfl rfl hst (does_move rfl rfl) ?_
              refine wpK_split (t := 56) rfl ?_ ?_
              · intro s56
                refine stepK_pass rfl rfl rfl rfl rfl rfl rfl ?_
                refine stepK_pass rfl rfl rfl rfl rfl rfl rfl ?_
                refine stepK_passU rfl rfl rfl rfl rfl rfl ?_
                refine stepK_passU rfl rfl rfl rfl rfl rfl ?_
                refine stepK_passU rfl rfl rfl rfl rfl rfl ?_
                refine stepK_passU rfl rfl rfl rfl rfl rfl ?_
                refine stepK_passU rfl rfl rfl rfl rfl rfl ?_
                refine stepK_passU rfl rfl rfl rfl rfl rfl ?_
                refine stepK_pass rfl rfl rfl rfl rfl rfl rfl ?_
                refine stepK_d rfl rfl rfl hst (does_pick_true rfl rfl rfl) ?_
                refine wpK_nil ?_
                refine cp_then ?_
                refine cp_cond_true rfl ?_
                refine cp_seq ?_
                refine cp_region ?_
                refine stepK_d rfl rfl rfl hst (does_build rfl (by kernel_rfl : layOf Tryd.prog 41 = some ([(0, 1), (1, 1), (2, 1)], [.int .i64 0, .int .i64 0, .pointer none])) rfl rfl) ?_
                refine stepK_store 0 rfl rfl rfl rfl rfl rfl (by kernel_rfl : sizeB Tryd.prog 41 = some 3) rfl rfl hst rfl (by first | (simp [uN_length]; omega) | simp) ?_
                clear hst
                intro w10 hst
                simp only [List.nil_append, List.cons_append, List.set_cons_zero, List.set_cons_succ, splice, List.toList_toArray, List.take_zero, List.take_succ_cons, List.take_nil, List.drop_zero, List.drop_succ_cons, List.drop_nil, List.length_cons, List.length_nil, Nat.zero_add, Nat.add_zero, Nat.reduceAdd, List.append_nil] at hst
                refine stepK_d rfl rfl rfl hst (does_assign rfl rfl) ?_
                refine wpK_nil ?_
                refine cp_then ?_
                refine cp_ret ?_
                refine at_then_ret ?_
                refine ret2c (k := 0) rfl rfl (by kernel_rfl) (by kernel_rfl) rfl rfl hst rfl ?_
                first
                | (rw [hrn]; exact ⟨_, _, _, rfl, IsRat.zero _⟩)
                | (rw [hrs]; exact ⟨_, _, _, rfl, hr9⟩)
                | (have hrn : readR s = none := reject0 hcut (fun ho => by
                     first
                     | (have h9 := hpt.2 ho.ptop; simp_all; done)
                     | (have h9 := hpb.2 ho.pbot; simp_all; done)
                     | exact ho.nzero ⟨by assumption, by rw [show top = _ by assumption]; rfl⟩
                     | exact ho.nb ⟨by assumption, .inl (by rw [show bottom = _ by assumption]; rfl)⟩
                     | exact ho.nb ⟨by assumption, .inr (by rw [show bottom = _ by assumption]; rfl)⟩)
                   rw [hrn]
                   exact ⟨_, _, _, rfl, IsRat.zero _⟩)
              · intro s56
                refine stepK_guard rfl rfl rfl rfl rfl rfl hst (does_move rfl rfl) ?_
                refine stepK_guard rfl rfl rfl rfl rfl rfl hst (does_move rfl rfl) ?_
                refine wpK_splitb (t := 58) rfl ?_ ?_
                · intro s58
                  refine stepK_guard rfl rfl rfl rfl rfl rfl hst (does_move rfl rfl) ?_
                  refine stepK_guard rfl rfl rfl rfl rfl rfl hst (does_eql_string rfl rfl rfl) ?_
                  refine stepK_guard rfl rfl rfl rfl rfl rfl hst (does_move rfl rfl) ?_
                  refine wpK_split (t := 61) rfl ?_ ?_
                  · intro s61
                    refine stepK_pass rfl rfl rfl rfl rfl rfl rfl ?_
                    refine stepK_pass rfl rfl rfl rfl rfl rfl rfl ?_
                    refine stepK_guard rfl rfl rfl rfl rfl rfl hst (does_pick_true rfl rfl rfl) ?_
                    refine stepK_guard rfl rfl rfl rfl rfl rfl hst (does_pick_true rfl rfl rfl) ?_
                    refine stepK_d rfl rfl rfl hst (does_pick_false rfl rfl rfl) ?_
                    refine wpK_nil ?_
                    refine cp_then ?_
                    refine cp_cond_true rfl ?_
                    refine cp_seq ?_
                    refine cp_region ?_
                    refine stepK_d rfl rfl rfl hst (does_build rfl (by kernel_rfl : layOf Tryd.prog 41 = some ([(0, 1), (1, 1), (2, 1)], [.int .i64 0, .int .i64 0, .pointer none])) rfl rfl) ?_
                    refine stepK_store 0 rfl rfl rfl rfl rfl rfl (by kernel_rfl : sizeB Tryd.prog 41 = some 3) rfl rfl hst rfl (by first | (simp [uN_length]; omega) | simp) ?_
                    clear hst
                    intro w11 hst
                    simp only [List.nil_append, List.cons_append, List.set_cons_zero, List.set_cons_succ, splice, List.toList_toArray, List.take_zero, List.take_succ_cons, List.take_nil, List.drop_zero, List.drop_succ_cons, List.drop_nil, List.length_cons, List.length_nil, Nat.zero_add, Nat.add_zero, Nat.reduceAdd, List.append_nil] at hst
                    refine stepK_d rfl rfl rfl hst (does_assign rfl rfl) ?_
                    refine wpK_nil ?_
                    refine cp_then ?_
                    refine cp_ret ?_
                    refine at_then_ret ?_
                    refine ret2c (k := 0) rfl rfl (by kernel_rfl) (by kernel_rfl) rfl rfl hst rfl ?_
                    first
                    | (rw [hrn]; exact ⟨_, _, _, rfl, IsRat.zero _⟩)
                    | (rw [hrs]; exact ⟨_, _, _, rfl, hr9⟩)
                    | (have hrn : readR s = none := reject0 hcut (fun ho => by
                         first
                         | (have h9 := hpt.2 ho.ptop; simp_all; done)
                         | (have h9 := hpb.2 ho.pbot; simp_all; done)
                         | exact ho.nzero ⟨by assumption, by rw [show top = _ by assumption]; rfl⟩
                         | exact ho.nb ⟨by assumption, .inl (by rw [show bottom = _ by assumption]; rfl)⟩
                         | exact ho.nb ⟨by assumption, .inr (by rw [show bottom = _ by assumption]; rfl)⟩)
                       rw [hrn]
                       exact ⟨_, _, _, rfl, IsRat.zero _⟩)
                  · intro s61
                    refine stepK_guard rfl rfl rfl rfl rfl rfl hst (does_move rfl rfl) ?_
                    refine stepK_guard rfl rfl rfl rfl rfl rfl hst (does_eql_string rfl rfl rfl) ?_
                    refine stepK_guard rfl rfl rfl rfl rfl rfl hst (does_pick_false rfl rfl rfl) ?_
                    refine stepK_guard rfl rfl rfl rfl rfl rfl hst (does_pick_true rfl rfl rfl) ?_
                    refine stepK_d rfl rfl rfl hst (does_pick_false rfl rfl rfl) ?_
                    refine wpK_nil ?_
                    refine cp_then ?_
                    refine cp_if rfl ?_ ?_
                    · intro c66
                      refine cp_seq ?_
                      refine cp_region ?_
                      refine stepK_d rfl rfl rfl hst (does_build rfl (by kernel_rfl : layOf Tryd.prog 41 = some ([(0, 1), (1, 1), (2, 1)], [.int .i64 0, .int .i64 0, .pointer none])) rfl rfl) ?_
                      refine stepK_store 0 rfl rfl rfl rfl rfl rfl (by kernel_rfl : sizeB Tryd.prog 41 = some 3) rfl rfl hst rfl (by first | (simp [uN_length]; omega) | simp) ?_
                      clear hst
                      intro w12 hst
                      simp only [List.nil_append, List.cons_append, List.set_cons_zero, List.set_cons_succ, splice, List.toList_toArray, List.take_zero, List.take_succ_cons, List.take_nil, List.drop_zero, List.drop_succ_cons, List.drop_nil, List.length_cons, List.length_nil, Nat.zero_add, Nat.add_zero, Nat.reduceAdd, List.append_nil] at hst
                      refine stepK_d rfl rfl rfl hst (does_assign rfl rfl) ?_
                      refine wpK_nil ?_
                      refine cp_then ?_
                      refine cp_ret ?_
                      refine at_then_ret ?_
                      refine ret2c (k := 0) rfl rfl (by kernel_rfl) (by kernel_rfl) rfl rfl hst rfl ?_
                      first
                      | (rw [hrn]; exact ⟨_, _, _, rfl, IsRat.zero _⟩)
                      | (rw [hrs]; exact ⟨_, _, _, rfl, hr9⟩)
                      | (have hrn : readR s = none := reject0 hcut (fun ho => by
                           first
                           | (have h9 := hpt.2 ho.ptop; simp_all; done)
                           | (have h9 := hpb.2 ho.pbot; simp_all; done)
                           | exact ho.nzero ⟨by assumption, by rw [show top = _ by assumption]; rfl⟩
                           | exact ho.nb ⟨by assumption, .inl (by rw [show bottom = _ by assumption]; rfl)⟩
                           | exact ho.nb ⟨by assumption, .inr (by rw [show bottom = _ by assumption]; rfl)⟩)
                         rw [hrn]
                         exact ⟨_, _, _, rfl, IsRat.zero _⟩)
                    · intro c66
                      refine cp_skip ?_
                      refine join_end (()) ?_ ?_
                      · exact ⟨rfl, rfl, rfl, rfl, rfl, trivial⟩
                      · exact ⟨_, hst, ⟨hpt.1 (by simpa using s44), hpb.1 (by simpa using s49), by
                          rintro ⟨e1, e2⟩
                          first
                          | exact absurd (Lb_ext (a := top) (b := ⟨#[48]⟩) e2) (by assumption)
                          | (rw [s51] at e1; cases e1), by
                          rintro ⟨e1, e2⟩
                          first
                          | (rw [s58] at e1; cases e1; done)
                          | (rcases e2 with e2 | e2
                             · exact absurd (Lb_ext (a := bottom) (b := ⟨#[48]⟩) e2) (by assumption)
                             · exact absurd (Lb_ext (a := bottom) (b := ⟨#[49]⟩) e2) (by assumption))⟩⟩
                · intro s58
                  refine stepK_pass rfl rfl rfl rfl rfl rfl rfl ?_
                  refine stepK_pass rfl rfl rfl rfl rfl rfl rfl ?_
                  refine stepK_pass rfl rfl rfl rfl rfl rfl rfl ?_
                  refine stepK_passU rfl rfl rfl rfl rfl rfl ?_
                  refine stepK_passU rfl rfl rfl rfl rfl rfl ?_
                  refine stepK_pass rfl rfl rfl rfl rfl rfl rfl ?_
                  refine stepK_guard rfl rfl rfl rfl rfl rfl hst (does_pick_false rfl rfl rfl) ?_
                  refine stepK_d rfl rfl rfl hst (does_pick_false rfl rfl rfl) ?_
                  refine wpK_nil ?_
                  refine cp_then ?_
                  refine cp_cond_false rfl ?_
                  refine cp_skip ?_
                  refine join_end (()) ?_ ?_
                  · exact ⟨rfl, rfl, rfl, rfl, rfl, trivial⟩
                  · exact ⟨_, hst, ⟨hpt.1 (by simpa using s44), hpb.1 (by simpa using s49), by
                      rintro ⟨e1, e2⟩
                      first
                      | exact absurd (Lb_ext (a := top) (b := ⟨#[48]⟩) e2) (by assumption)
                      | (rw [s51] at e1; cases e1), by
                      rintro ⟨e1, e2⟩
                      first
                      | (rw [s58] at e1; cases e1; done)
                      | (rcases e2 with e2 | e2
                         · exact absurd (Lb_ext (a := bottom) (b := ⟨#[48]⟩) e2) (by assumption)
                         · exact absurd (Lb_ext (a := bottom) (b := ⟨#[49]⟩) e2) (by assumption))⟩⟩
            · intro s51
              refine stepK_pass rfl rfl rfl rfl rfl rfl rfl ?_
              refine stepK_pass rfl rfl rfl rfl rfl rfl rfl ?_
              refine stepK_guard rfl rfl rfl rfl rfl rfl hst (does_pick_false rfl rfl rfl) ?_
              refine stepK_d rfl rfl rfl hst (does_pick_false rfl rfl rfl) ?_
              refine stepK_d rfl rfl rfl hst (does_move rfl rfl) ?_
              refine stepK_guard rfl rfl rfl rfl rfl rfl hst (does_move rfl rfl) ?_
              refine stepK_guard rfl rfl rfl rfl rfl rfl hst (does_move rfl rfl) ?_
              refine wpK_splitb (t := 58) rfl ?_ ?_
              · intro s58
                refine stepK_guard rfl rfl rfl rfl rfl rfl hst (does_move rfl rfl) ?_
                refine stepK_guard rfl rfl rfl rfl rfl rfl hst (does_eql_string rfl rfl rfl) ?_
                refine stepK_guard rfl rfl rfl rfl rfl rfl hst (does_move rfl rfl) ?_
                refine wpK_split (t := 61) rfl ?_ ?_
                · intro s61
                  refine stepK_pass rfl rfl rfl rfl rfl rfl rfl ?_
                  refine stepK_pass rfl rfl rfl rfl rfl rfl rfl ?_
                  refine stepK_guard rfl rfl rfl rfl rfl rfl hst (does_pick_true rfl rfl rfl) ?_
                  refine stepK_guard rfl rfl rfl rfl rfl rfl hst (does_pick_true rfl rfl rfl) ?_
                  refine stepK_d rfl rfl rfl hst (does_pick_false rfl rfl rfl) ?_
                  refine wpK_nil ?_
                  refine cp_then ?_
                  refine cp_cond_true rfl ?_
                  refine cp_seq ?_
                  refine cp_region ?_
                  refine stepK_d rfl rfl rfl hst (does_build rfl (by kernel_rfl : layOf Tryd.prog 41 = some ([(0, 1), (1, 1), (2, 1)], [.int .i64 0, .int .i64 0, .pointer none])) rfl rfl) ?_
                  refine stepK_store 0 rfl rfl rfl rfl rfl rfl (by kernel_rfl : sizeB Tryd.prog 41 = some 3) rfl rfl hst rfl (by first | (simp [uN_length]; omega) | simp) ?_
                  clear hst
                  intro w13 hst
                  simp only [List.nil_append, List.cons_append, List.set_cons_zero, List.set_cons_succ, splice, List.toList_toArray, List.take_zero, List.take_succ_cons, List.take_nil, List.drop_zero, List.drop_succ_cons, List.drop_nil, List.length_cons, List.length_nil, Nat.zero_add, Nat.add_zero, Nat.reduceAdd, List.append_nil] at hst
                  refine stepK_d rfl rfl rfl hst (does_assign rfl rfl) ?_
                  refine wpK_nil ?_
                  refine cp_then ?_
                  refine cp_ret ?_
                  refine at_then_ret ?_
                  refine ret2c (k := 0) rfl rfl (by kernel_rfl) (by kernel_rfl) rfl rfl hst rfl ?_
                  first
                  | (rw [hrn]; exact ⟨_, _, _, rfl, IsRat.zero _⟩)
                  | (rw [hrs]; exact ⟨_, _, _, rfl, hr9⟩)
                  | (have hrn : readR s = none := reject0 hcut (fun ho => by
                       first
                       | (have h9 := hpt.2 ho.ptop; simp_all; done)
                       | (have h9 := hpb.2 ho.pbot; simp_all; done)
                       | exact ho.nzero ⟨by assumption, by rw [show top = _ by assumption]; rfl⟩
                       | exact ho.nb ⟨by assumption, .inl (by rw [show bottom = _ by assumption]; rfl)⟩
                       | exact ho.nb ⟨by assumption, .inr (by rw [show bottom = _ by assumption]; rfl)⟩)
                     rw [hrn]
                     exact ⟨_, _, _, rfl, IsRat.zero _⟩)
                · intro s61
                  refine stepK_guard rfl rfl rfl rfl rfl rfl hst (does_move rfl rfl) ?_
                  refine stepK_guard rfl rfl rfl rfl rfl rfl hst (does_eql_string rfl rfl rfl) ?_
                  refine stepK_guard rfl rfl rfl rfl rfl rfl hst (does_pick_false rfl rfl rfl) ?_
                  refine stepK_guard rfl rfl rfl rfl rfl rfl hst (does_pick_true rfl rfl rfl) ?_
                  refine stepK_d rfl rfl rfl hst (does_pick_false rfl rfl rfl) ?_
                  refine wpK_nil ?_
                  refine cp_then ?_
                  refine cp_if rfl ?_ ?_
                  · intro c66
                    refine cp_seq ?_
                    refine cp_region ?_
                    refine stepK_d rfl rfl rfl hst (does_build rfl (by kernel_rfl : layOf Tryd.prog 41 = some ([(0, 1), (1, 1), (2, 1)], [.int .i64 0, .int .i64 0, .pointer none])) rfl rfl) ?_
                    refine stepK_store 0 rfl rfl rfl rfl rfl rfl (by kernel_rfl : sizeB Tryd.prog 41 = some 3) rfl rfl hst rfl (by first | (simp [uN_length]; omega) | simp) ?_
                    clear hst
                    intro w14 hst
                    simp only [List.nil_append, List.cons_append, List.set_cons_zero, List.set_cons_succ, splice, List.toList_toArray, List.take_zero, List.take_succ_cons, List.take_nil, List.drop_zero, List.drop_succ_cons, List.drop_nil, List.length_cons, List.length_nil, Nat.zero_add, Nat.add_zero, Nat.reduceAdd, List.append_nil] at hst
                    refine stepK_d rfl rfl rfl hst (does_assign rfl rfl) ?_
                    refine wpK_nil ?_
                    refine cp_then ?_
                    refine cp_ret ?_
                    refine at_then_ret ?_
                    refine ret2c (k := 0) rfl rfl (by kernel_rfl) (by kernel_rfl) rfl rfl hst rfl ?_
                    first
                    | (rw [hrn]; exact ⟨_, _, _, rfl, IsRat.zero _⟩)
                    | (rw [hrs]; exact ⟨_, _, _, rfl, hr9⟩)
                    | (have hrn : readR s = none := reject0 hcut (fun ho => by
                         first
                         | (have h9 := hpt.2 ho.ptop; simp_all; done)
                         | (have h9 := hpb.2 ho.pbot; simp_all; done)
                         | exact ho.nzero ⟨by assumption, by rw [show top = _ by assumption]; rfl⟩
                         | exact ho.nb ⟨by assumption, .inl (by rw [show bottom = _ by assumption]; rfl)⟩
                         | exact ho.nb ⟨by assumption, .inr (by rw [show bottom = _ by assumption]; rfl)⟩)
                       rw [hrn]
                       exact ⟨_, _, _, rfl, IsRat.zero _⟩)
                  · intro c66
                    refine cp_skip ?_
                    refine join_end (()) ?_ ?_
                    · exact ⟨rfl, rfl, rfl, rfl, rfl, trivial⟩
                    · exact ⟨_, hst, ⟨hpt.1 (by simpa using s44), hpb.1 (by simpa using s49), by
                        rintro ⟨e1, e2⟩
                        first
                        | exact absurd (Lb_ext (a := top) (b := ⟨#[48]⟩) e2) (by assumption)
                        | (rw [s51] at e1; cases e1), by
                        rintro ⟨e1, e2⟩
                        first
                        | (rw [s58] at e1; cases e1; done)
                        | (rcases e2 with e2 | e2
                           · exact absurd (Lb_ext (a := bottom) (b := ⟨#[48]⟩) e2) (by assumption)
                           · exact absurd (Lb_ext (a := bottom) (b := ⟨#[49]⟩) e2) (by assumption))⟩⟩
              · intro s58
                refine stepK_pass rfl rfl rfl rfl rfl rfl rfl ?_
                refine stepK_pass rfl rfl rfl rfl rfl rfl rfl ?_
                refine stepK_pass rfl rfl rfl rfl rfl rfl rfl ?_
                refine stepK_passU rfl rfl rfl rfl rfl rfl ?_
                refine stepK_passU rfl rfl rfl rfl rfl rfl ?_
                refine stepK_pass rfl rfl rfl rfl rfl rfl rfl ?_
                refine stepK_guard rfl rfl rfl rfl rfl rfl hst (does_pick_false rfl rfl rfl) ?_
                refine stepK_d rfl rfl rfl hst (does_pick_false rfl rfl rfl) ?_
                refine wpK_nil ?_
                refine cp_then ?_
                refine cp_cond_false rfl ?_
                refine cp_skip ?_
                refine join_end (()) ?_ ?_
                · exact ⟨rfl, rfl, rfl, rfl, rfl, trivial⟩
                · exact ⟨_, hst, ⟨hpt.1 (by simpa using s44), hpb.1 (by simpa using s49), by
                    rintro ⟨e1, e2⟩
                    first
                    | exact absurd (Lb_ext (a := top) (b := ⟨#[48]⟩) e2) (by assumption)
                    | (rw [s51] at e1; cases e1), by
                    rintro ⟨e1, e2⟩
                    first
                    | (rw [s58] at e1; cases e1; done)
                    | (rcases e2 with e2 | e2
                       · exact absurd (Lb_ext (a := bottom) (b := ⟨#[48]⟩) e2) (by assumption)
                       · exact absurd (Lb_ext (a := bottom) (b := ⟨#[49]⟩) e2) (by assumption))⟩⟩
      case d5 =>
        clear hst
        rintro ⟨⟩ w4 ⟨g4, hst, hok⟩
        refine cp_seq ?_
        refine cp_region ?_
        refine stepK_d rfl rfl rfl hst (does_move rfl rfl) ?_
        refine stepK_call rfl rfl rfl rfl rfl hst (num_digits hst.agree hok.ptop.all (by omega)) ?_
        clear hst
        intro v15 g15 w15 hst hle15 hcs15 hp15
        obtain ⟨A1, n1, c1, rfl, hN⟩ := hp15
        refine stepK_d rfl rfl rfl hst (does_move rfl rfl) ?_
        refine stepK_call rfl rfl rfl rfl rfl hst (num_digits hst.agree hok.pbot.all (by omega)) ?_
        clear hst
        intro v16 g16 w16 hst hle16 hcs16 hp16
        replace hN := hN.mono hle16
        obtain ⟨A2, n2, c2, rfl, hM⟩ := hp16
        rw [dval_all] at hN hM
        have l1 := hN.len (Nat.lt_of_lt_of_le (dval_fit hok.ptop.all) (ten_le _))
        have l2 := hM.len (Nat.lt_of_lt_of_le (dval_fit hok.pbot.all) (ten_le _))
        refine stepK_d rfl rfl rfl hst (does_assign rfl rfl) ?_
        refine stepK_d rfl rfl rfl hst (does_assign rfl rfl) ?_
        refine wpK_nil ?_
        refine cp_then ?_
        refine cp_seq ?_
        refine cp_seq ?_
        refine cp_region ?_
        refine stepK_d rfl rfl rfl hst (does_move rfl rfl) ?_
        refine stepK_d rfl rfl rfl hst (does_move rfl rfl) ?_
        refine wpK_splitb (t := 73) rfl ?_ ?_
        · intro s73
          refine stepK_guard rfl rfl rfl rfl rfl rfl hst (does_move rfl rfl) ?_
          refine stepK_guard rfl rfl rfl rfl rfl rfl hst (does_move rfl rfl) ?_
          refine stepK_call_guard rfl rfl rfl rfl rfl rfl rfl rfl hst (num_divisor hst.agree hN hM (by omega) (by omega)) ?_
          clear hst
          intro v17 g17 w17 hst hle17 hcs17 hp17
          replace hN := hN.mono hle17
          replace hM := hM.mono hle17
          obtain ⟨A3, n3, c3, rfl, hG⟩ := hp17
          refine stepK_buildSlice_guard rfl rfl rfl rfl rfl rfl rfl (by kernel_rfl : Program.underlying Tryd.prog 64 = some (.slice 66)) (by kernel_rfl : elemInfo Tryd.prog 66 = some ((.int .u64 0), 1, 8)) rfl rfl (by decide) (by decide) (by decide) rfl rfl hst ?_
          clear hst
          intro b18 w18 hst
          obtain ⟨g18, hst, hle18, h1⟩ := hst.lit (x := 1) (by decide) (by decide)
          replace hN := hN.mono hle18
          replace hM := hM.mono hle18
          replace hG := hG.mono hle18
          have l3 := hG.len (k := n2) (by
            rcases Nat.eq_zero_or_pos (dvL (Lb bottom)) with h9 | h9
            · exact absurd (plain_zero hok.pbot h9) (fun e => hok.nb ⟨s73, .inl e⟩)
            · exact Nat.lt_of_le_of_lt (Nat.gcd_le_right _ h9) hM.lt)
          refine stepK_call_guard rfl rfl rfl rfl rfl rfl rfl rfl hst (num_compare hst.agree hG h1 (by omega)) ?_
          clear hst
          intro v19 g19 w19 hst hle19 hcs19 hp19
          replace hN := hN.mono hle19
          replace hM := hM.mono hle19
          replace hG := hG.mono hle19
          replace h1 := h1.mono hle19
          obtain rfl := hp19
          refine stepK_guard rfl rfl rfl rfl rfl rfl hst (does_neq rfl rfl rfl) ?_
          refine stepK_d rfl rfl rfl hst (does_pick_true rfl rfl rfl) ?_
          refine wpK_nil ?_
          refine cp_then ?_
          refine cp_if rfl ?_ ?_
          · intro c80
            have hrn : readR s = none := reject1 hcut ⟨s73, fun e => c80 (cmpN_zero.2 e)⟩
            refine cp_seq ?_
            refine cp_region ?_
            refine stepK_d rfl rfl rfl hst (does_build rfl (by kernel_rfl : layOf Tryd.prog 41 = some ([(0, 1), (1, 1), (2, 1)], [.int .i64 0, .int .i64 0, .pointer none])) rfl rfl) ?_
            refine stepK_store 0 rfl rfl rfl rfl rfl rfl (by kernel_rfl : sizeB Tryd.prog 41 = some 3) rfl rfl hst rfl (by first | (simp [uN_length]; omega) | simp) ?_
            clear hst
            intro w20 hst
            simp only [List.nil_append, List.cons_append, List.set_cons_zero, List.set_cons_succ, splice, List.toList_toArray, List.take_zero, List.take_succ_cons, List.take_nil, List.drop_zero, List.drop_succ_cons, List.drop_nil, List.length_cons, List.length_nil, Nat.zero_add, Nat.add_zero, Nat.reduceAdd, List.append_nil] at hst
            refine stepK_d rfl rfl rfl hst (does_assign rfl rfl) ?_
            refine wpK_nil ?_
            refine cp_then ?_
            refine cp_ret ?_
            refine at_then_ret ?_
            refine ret2c (k := 0) rfl rfl (by kernel_rfl) (by kernel_rfl) rfl rfl hst rfl ?_
            first
            | (rw [hrn]; exact ⟨_, _, _, rfl, IsRat.zero _⟩)
            | (rw [hrs]; exact ⟨_, _, _, rfl, hr9⟩)
            | (have hrn : readR s = none := reject0 hcut (fun ho => by
                 first
                 | (have h9 := hpt.2 ho.ptop; simp_all; done)
                 | (have h9 := hpb.2 ho.pbot; simp_all; done)
                 | exact ho.nzero ⟨by assumption, by rw [show top = _ by assumption]; rfl⟩
                 | exact ho.nb ⟨by assumption, .inl (by rw [show bottom = _ by assumption]; rfl)⟩
                 | exact ho.nb ⟨by assumption, .inr (by rw [show bottom = _ by assumption]; rfl)⟩)
               rw [hrn]
               exact ⟨_, _, _, rfl, IsRat.zero _⟩)
          · intro c80
            refine cp_skip ?_
            refine cp_then ?_
            refine cp_seq ?_
            refine cp_region ?_
            have hgc : found = true → Nat.gcd (dvL (Lb top)) (dvL (Lb bottom)) = 1 := by
              intro e
              first
              | exact cmpN_zero.1 (Decidable.byContradiction c80)
              | (rw [s73] at e; cases e)
            obtain ⟨hrs, hd0, hgc1⟩ := accept1 hcut hok hgc
            refine stepK_d rfl rfl rfl hst (does_move rfl rfl) ?_
            refine stepK_d rfl rfl rfl hst (does_move rfl rfl) ?_
            refine stepK_d rfl rfl rfl hst (does_move rfl rfl) ?_
            refine stepK_call rfl rfl rfl rfl rfl hst (num_lowest hst.agree hN hM hd0 hgc1) ?_
            clear hst
            intro v21 g21 w21 hst hle21 hcs21 hp21
            replace hN := hN.mono hle21
            replace hM := hM.mono hle21
            replace hG := hG.mono hle21
            replace h1 := h1.mono hle21
            obtain ⟨p9, q9, a9, rfl, hr9⟩ := hp21
            refine stepK_store 0 rfl rfl rfl rfl rfl rfl (by kernel_rfl : sizeB Tryd.prog 41 = some 3) rfl rfl hst rfl (by first | (simp [uN_length]; omega) | simp) ?_
            clear hst
            intro w22 hst
            simp only [List.nil_append, List.cons_append, List.set_cons_zero, List.set_cons_succ, splice, List.toList_toArray, List.take_zero, List.take_succ_cons, List.take_nil, List.drop_zero, List.drop_succ_cons, List.drop_nil, List.length_cons, List.length_nil, Nat.zero_add, Nat.add_zero, Nat.reduceAdd, List.append_nil] at hst
            refine stepK_d rfl rfl rfl hst (does_assign rfl rfl) ?_
            refine wpK_nil ?_
            refine cp_then ?_
            refine cp_ret ?_
            refine ret2c (k := 0) rfl rfl (by kernel_rfl) (by kernel_rfl) rfl rfl hst rfl ?_
            first
            | (rw [hrn]; exact ⟨_, _, _, rfl, IsRat.zero _⟩)
            | (rw [hrs]; exact ⟨_, _, _, rfl, hr9⟩)
            | (have hrn : readR s = none := reject0 hcut (fun ho => by
                 first
                 | (have h9 := hpt.2 ho.ptop; simp_all; done)
                 | (have h9 := hpb.2 ho.pbot; simp_all; done)
                 | exact ho.nzero ⟨by assumption, by rw [show top = _ by assumption]; rfl⟩
                 | exact ho.nb ⟨by assumption, .inl (by rw [show bottom = _ by assumption]; rfl)⟩
                 | exact ho.nb ⟨by assumption, .inr (by rw [show bottom = _ by assumption]; rfl)⟩)
               rw [hrn]
               exact ⟨_, _, _, rfl, IsRat.zero _⟩)
        · intro s73
          refine stepK_pass rfl rfl rfl rfl rfl rfl rfl ?_
          refine stepK_pass rfl rfl rfl rfl rfl rfl rfl ?_
          refine stepK_pass rfl rfl rfl rfl rfl rfl rfl ?_
          refine stepK_pass rfl rfl rfl rfl rfl rfl rfl ?_
          refine stepK_pass rfl rfl rfl rfl rfl rfl rfl ?_
          refine stepK_pass rfl rfl rfl rfl rfl rfl rfl ?_
          refine stepK_d rfl rfl rfl hst (does_pick_false rfl rfl rfl) ?_
          refine wpK_nil ?_
          refine cp_then ?_
          refine cp_cond_false rfl ?_
          refine cp_skip ?_
          refine cp_then ?_
          refine cp_seq ?_
          refine cp_region ?_
          have hgc : found = true → Nat.gcd (dvL (Lb top)) (dvL (Lb bottom)) = 1 := by
            intro e
            first
            | exact cmpN_zero.1 (Decidable.byContradiction c80)
            | (rw [s73] at e; cases e)
          obtain ⟨hrs, hd0, hgc1⟩ := accept1 hcut hok hgc
          refine stepK_d rfl rfl rfl hst (does_move rfl rfl) ?_
          refine stepK_d rfl rfl rfl hst (does_move rfl rfl) ?_
          refine stepK_d rfl rfl rfl hst (does_move rfl rfl) ?_
          refine stepK_call rfl rfl rfl rfl rfl hst (num_lowest hst.agree hN hM hd0 hgc1) ?_
          clear hst
          intro v23 g23 w23 hst hle23 hcs23 hp23
          replace hN := hN.mono hle23
          replace hM := hM.mono hle23
          obtain ⟨p9, q9, a9, rfl, hr9⟩ := hp23
          refine stepK_store 0 rfl rfl rfl rfl rfl rfl (by kernel_rfl : sizeB Tryd.prog 41 = some 3) rfl rfl hst rfl (by first | (simp [uN_length]; omega) | simp) ?_
          clear hst
          intro w24 hst
          simp only [List.nil_append, List.cons_append, List.set_cons_zero, List.set_cons_succ, splice, List.toList_toArray, List.take_zero, List.take_succ_cons, List.take_nil, List.drop_zero, List.drop_succ_cons, List.drop_nil, List.length_cons, List.length_nil, Nat.zero_add, Nat.add_zero, Nat.reduceAdd, List.append_nil] at hst
          refine stepK_d rfl rfl rfl hst (does_assign rfl rfl) ?_
          refine wpK_nil ?_
          refine cp_then ?_
          refine cp_ret ?_
          refine ret2c (k := 0) rfl rfl (by kernel_rfl) (by kernel_rfl) rfl rfl hst rfl ?_
          first
          | (rw [hrn]; exact ⟨_, _, _, rfl, IsRat.zero _⟩)
          | (rw [hrs]; exact ⟨_, _, _, rfl, hr9⟩)
          | (have hrn : readR s = none := reject0 hcut (fun ho => by
               first
               | (have h9 := hpt.2 ho.ptop; simp_all; done)
               | (have h9 := hpb.2 ho.pbot; simp_all; done)
               | exact ho.nzero ⟨by assumption, by rw [show top = _ by assumption]; rfl⟩
               | exact ho.nb ⟨by assumption, .inl (by rw [show bottom = _ by assumption]; rfl)⟩
               | exact ho.nb ⟨by assumption, .inr (by rw [show bottom = _ by assumption]; rfl)⟩)
             rw [hrn]
             exact ⟨_, _, _, rfl, IsRat.zero _⟩)

end Go.Proofs.YtbamjcfdlgnicaaDoor

namespace Go.Proofs.YtbamjcfdlgnicaaDoor
open Go Go.RowKit Go.Proofs.Vc
set_option linter.unusedVariables false
set_option linter.unusedSimpArgs false

set_option maxHeartbeats 1000000 in
theorem num_Get {g : Mem} {w : World} (hag : Agree g w) {s : ByteArray} (hs : s.size < 1099511627776) :
    CallTo Tryd.prog 28 #[.string s] w (Ret w g fun v g => ∃ p q a, v = .agg #[.int .i64 p, .int .i64 q, .pointer a] ∧ IsRat g p q a (getR s)) := by
  refine CallTo.enter (vs := [.string s]) (by kernel_rfl : Tryd.prog.funcs[28]? = some Tryd.f28) (by kernel_rfl) rfl rfl rfl ?_
  have hst := St.init hag
  refine cp_seq ?_
  refine cp_region ?_
  refine stepK_alloc rfl rfl rfl rfl (by kernel_rfl : zeroOf Tryd.prog 41 = some (.agg #[.int .i64 0, .int .i64 0, .pointer none])) rfl hst ?_
  clear hst
  intro b1 w1 hst
  refine wpK_nil ?_
  refine cp_then ?_
  refine cp_seq ?_
  refine cp_region ?_
  refine stepK_d rfl rfl rfl hst (does_move rfl rfl) ?_
  refine stepK_call rfl rfl rfl rfl rfl hst (num_Of hst.agree hs) ?_
  clear hst
  intro v2 g2 w2 hst hle2 hcs2 hp2
  obtain ⟨p9, q9, a9, rfl, hr9⟩ := hp2
  refine stepK_d rfl rfl rfl hst (does_move rfl rfl) ?_
  refine stepK_d rfl rfl rfl hst (does_extract rfl rfl rfl) ?_
  refine stepK_d rfl rfl rfl hst (does_extract rfl rfl rfl) ?_
  refine stepK_alloc rfl rfl rfl rfl (by kernel_rfl : zeroOf Tryd.prog 41 = some (.agg #[.int .i64 0, .int .i64 0, .pointer none])) rfl hst ?_
  clear hst
  intro b3 w3 hst
  refine stepK_store 1 rfl rfl rfl rfl rfl rfl (by kernel_rfl : sizeB Tryd.prog 41 = some 3) rfl rfl hst rfl (by first | (simp [uN_length]; omega) | simp) ?_
  clear hst
  intro w4 hst
  simp only [List.nil_append, List.cons_append, List.set_cons_zero, List.set_cons_succ, splice, List.toList_toArray, List.take_zero, List.take_succ_cons, List.take_nil, List.drop_zero, List.drop_succ_cons, List.drop_nil, List.length_cons, List.length_nil, Nat.zero_add, Nat.add_zero, Nat.reduceAdd, List.append_nil] at hst
  refine stepK_d rfl rfl rfl hst (does_assign rfl rfl) ?_
  refine wpK_nil ?_
  refine cp_then ?_
  refine cp_seq ?_
  refine cp_region ?_
  refine stepK_d rfl rfl rfl hst (does_load_ownN 1 rfl (by kernel_rfl) (by kernel_rfl : sizeB Tryd.prog 41 = some 3) rfl rfl rfl) ?_
  refine stepK_store 0 rfl rfl rfl rfl rfl rfl (by kernel_rfl : sizeB Tryd.prog 41 = some 3) rfl rfl hst rfl (by first | (simp [uN_length]; omega) | simp) ?_
  clear hst
  intro w5 hst
  simp only [List.nil_append, List.cons_append, List.set_cons_zero, List.set_cons_succ, splice, List.toList_toArray, List.take_zero, List.take_succ_cons, List.take_nil, List.drop_zero, List.drop_succ_cons, List.drop_nil, List.length_cons, List.length_nil, Nat.zero_add, Nat.add_zero, Nat.reduceAdd, List.append_nil] at hst
  refine wpK_nil ?_
  refine cp_then ?_
  refine cp_ret ?_
  refine ret1c (k := 0) rfl rfl (by kernel_rfl) (by kernel_rfl) rfl hst rfl ?_
  exact ⟨_, _, _, rfl, hr9⟩

end Go.Proofs.YtbamjcfdlgnicaaDoor

namespace Go.Proofs.YtbamjcfdlgnicaaDoor
open Go Go.RowKit Go.Proofs.Vc
set_option linter.unusedVariables false
set_option linter.unusedSimpArgs false

set_option maxHeartbeats 1000000 in
theorem rational_Add {g : Mem} {w : World} (hag : Agree g w) (hT : TabG Tryd.prog g) {a b : ByteArray} (ha : a.size < 1073741824) (hb : b.size < 1073741824) :
    CallTo Tryd.prog 11 #[.string a, .string b] w (Ret w g fun v g => v = .string (ratS (getR a + getR b))) := by
  refine CallTo.enter (vs := [.string a, .string b]) (by kernel_rfl : Tryd.prog.funcs[11]? = some Tryd.f11) (by kernel_rfl) rfl rfl rfl ?_
  have hst := St.init hag
  have fa := (getR_sz a).fit (by omega)
  have fb := (getR_sz b).fit (by omega)
  refine cp_seq ?_
  refine cp_region ?_
  refine stepK_d rfl rfl rfl hst (does_assign rfl rfl) ?_
  refine wpK_nil ?_
  refine cp_then ?_
  refine cp_seq ?_
  refine cp_region ?_
  refine stepK_d rfl rfl rfl hst (does_move rfl rfl) ?_
  refine stepK_call rfl rfl rfl rfl rfl hst (num_Get hst.agree (by omega)) ?_
  clear hst
  intro v1 g1 w1 hst hle1 hcs1 hp1
  replace hT := hT.mono hle1
  obtain ⟨p1, q1, a1, rfl, h1⟩ := hp1
  refine stepK_d rfl rfl rfl hst (does_move rfl rfl) ?_
  refine stepK_call rfl rfl rfl rfl rfl hst (num_Get hst.agree (by omega)) ?_
  clear hst
  intro v2 g2 w2 hst hle2 hcs2 hp2
  replace hT := hT.mono hle2
  replace h1 := h1.mono hle2
  obtain ⟨p2, q2, a2, rfl, h2⟩ := hp2
  refine stepK_call rfl rfl rfl rfl rfl hst (Rat_Add hst.agree h1 h2 fa fb) ?_
  clear hst
  intro v3 g3 w3 hst hle3 hcs3 hp3
  replace hT := hT.mono hle3
  replace h1 := h1.mono hle3
  replace h2 := h2.mono hle3
  obtain ⟨p3, q3, a3, rfl, h3⟩ := hp3
  refine stepK_call rfl rfl rfl rfl rfl hst (Rat_String hst.agree hT h3 (((getR_sz a).add (getR_sz b)).fit (by omega))) ?_
  clear hst
  intro v4 g4 w4 hst hle4 hcs4 hp4
  replace hT := hT.mono hle4
  replace h1 := h1.mono hle4
  replace h2 := h2.mono hle4
  replace h3 := h3.mono hle4
  obtain rfl := hp4
  refine stepK_d rfl rfl rfl hst (does_assign rfl rfl) ?_
  refine wpK_nil ?_
  refine cp_then ?_
  refine cp_ret ?_
  refine ret1 rfl rfl hst ?_
  rfl

set_option maxHeartbeats 1000000 in
theorem rational_Sub {g : Mem} {w : World} (hag : Agree g w) (hT : TabG Tryd.prog g) {a b : ByteArray} (ha : a.size < 1073741824) (hb : b.size < 1073741824) :
    CallTo Tryd.prog 12 #[.string a, .string b] w (Ret w g fun v g => v = .string (ratS (getR a - getR b))) := by
  refine CallTo.enter (vs := [.string a, .string b]) (by kernel_rfl : Tryd.prog.funcs[12]? = some Tryd.f12) (by kernel_rfl) rfl rfl rfl ?_
  have hst := St.init hag
  have fa := (getR_sz a).fit (by omega)
  have fb := (getR_sz b).fit (by omega)
  refine cp_seq ?_
  refine cp_region ?_
  refine stepK_d rfl rfl rfl hst (does_assign rfl rfl) ?_
  refine wpK_nil ?_
  refine cp_then ?_
  refine cp_seq ?_
  refine cp_region ?_
  refine stepK_d rfl rfl rfl hst (does_move rfl rfl) ?_
  refine stepK_call rfl rfl rfl rfl rfl hst (num_Get hst.agree (by omega)) ?_
  clear hst
  intro v1 g1 w1 hst hle1 hcs1 hp1
  replace hT := hT.mono hle1
  obtain ⟨p1, q1, a1, rfl, h1⟩ := hp1
  refine stepK_d rfl rfl rfl hst (does_move rfl rfl) ?_
  refine stepK_call rfl rfl rfl rfl rfl hst (num_Get hst.agree (by omega)) ?_
  clear hst
  intro v2 g2 w2 hst hle2 hcs2 hp2
  replace hT := hT.mono hle2
  replace h1 := h1.mono hle2
  obtain ⟨p2, q2, a2, rfl, h2⟩ := hp2
  refine stepK_call rfl rfl rfl rfl rfl hst (Rat_Sub hst.agree h1 h2 fa fb) ?_
  clear hst
  intro v3 g3 w3 hst hle3 hcs3 hp3
  replace hT := hT.mono hle3
  replace h1 := h1.mono hle3
  replace h2 := h2.mono hle3
  obtain ⟨p3, q3, a3, rfl, h3⟩ := hp3
  refine stepK_call rfl rfl rfl rfl rfl hst (Rat_String hst.agree hT h3 (((getR_sz a).sub (getR_sz b)).fit (by omega))) ?_
  clear hst
  intro v4 g4 w4 hst hle4 hcs4 hp4
  replace hT := hT.mono hle4
  replace h1 := h1.mono hle4
  replace h2 := h2.mono hle4
  replace h3 := h3.mono hle4
  obtain rfl := hp4
  refine stepK_d rfl rfl rfl hst (does_assign rfl rfl) ?_
  refine wpK_nil ?_
  refine cp_then ?_
  refine cp_ret ?_
  refine ret1 rfl rfl hst ?_
  rfl

set_option maxHeartbeats 1000000 in
theorem rational_Mul {g : Mem} {w : World} (hag : Agree g w) (hT : TabG Tryd.prog g) {a b : ByteArray} (ha : a.size < 1073741824) (hb : b.size < 1073741824) :
    CallTo Tryd.prog 10 #[.string a, .string b] w (Ret w g fun v g => v = .string (ratS (getR a * getR b))) := by
  refine CallTo.enter (vs := [.string a, .string b]) (by kernel_rfl : Tryd.prog.funcs[10]? = some Tryd.f10) (by kernel_rfl) rfl rfl rfl ?_
  have hst := St.init hag
  have fa := (getR_sz a).fit (by omega)
  have fb := (getR_sz b).fit (by omega)
  refine cp_seq ?_
  refine cp_region ?_
  refine stepK_d rfl rfl rfl hst (does_assign rfl rfl) ?_
  refine wpK_nil ?_
  refine cp_then ?_
  refine cp_seq ?_
  refine cp_region ?_
  refine stepK_d rfl rfl rfl hst (does_move rfl rfl) ?_
  refine stepK_call rfl rfl rfl rfl rfl hst (num_Get hst.agree (by omega)) ?_
  clear hst
  intro v1 g1 w1 hst hle1 hcs1 hp1
  replace hT := hT.mono hle1
  obtain ⟨p1, q1, a1, rfl, h1⟩ := hp1
  refine stepK_d rfl rfl rfl hst (does_move rfl rfl) ?_
  refine stepK_call rfl rfl rfl rfl rfl hst (num_Get hst.agree (by omega)) ?_
  clear hst
  intro v2 g2 w2 hst hle2 hcs2 hp2
  replace hT := hT.mono hle2
  replace h1 := h1.mono hle2
  obtain ⟨p2, q2, a2, rfl, h2⟩ := hp2
  refine stepK_call rfl rfl rfl rfl rfl hst (Rat_Mul hst.agree h1 h2 fa fb) ?_
  clear hst
  intro v3 g3 w3 hst hle3 hcs3 hp3
  replace hT := hT.mono hle3
  replace h1 := h1.mono hle3
  replace h2 := h2.mono hle3
  obtain ⟨p3, q3, a3, rfl, h3⟩ := hp3
  refine stepK_call rfl rfl rfl rfl rfl hst (Rat_String hst.agree hT h3 (((getR_sz a).mul (getR_sz b)).fit (by omega))) ?_
  clear hst
  intro v4 g4 w4 hst hle4 hcs4 hp4
  replace hT := hT.mono hle4
  replace h1 := h1.mono hle4
  replace h2 := h2.mono hle4
  replace h3 := h3.mono hle4
  obtain rfl := hp4
  refine stepK_d rfl rfl rfl hst (does_assign rfl rfl) ?_
  refine wpK_nil ?_
  refine cp_then ?_
  refine cp_ret ?_
  refine ret1 rfl rfl hst ?_
  rfl

set_option maxHeartbeats 1000000 in
theorem rational_Div {g : Mem} {w : World} (hag : Agree g w) (hT : TabG Tryd.prog g) {a b : ByteArray} (ha : a.size < 1073741824) (hb : b.size < 1073741824) :
    CallTo Tryd.prog 13 #[.string a, .string b] w (Ret w g fun v g => v = .tuple #[.string (if getR b = 0 then ⟨#[]⟩ else ratS (getR a / getR b)), .bool (decide (getR b ≠ 0))]) := by
  refine CallTo.enter (vs := [.string a, .string b]) (by kernel_rfl : Tryd.prog.funcs[13]? = some Tryd.f13) (by kernel_rfl) rfl rfl rfl ?_
  have hst := St.init hag
  have fa := (getR_sz a).fit (by omega)
  have fb := (getR_sz b).fit (by omega)
  refine cp_seq ?_
  refine cp_region ?_
  refine stepK_d rfl rfl rfl hst (does_assign rfl rfl) ?_
  refine stepK_d rfl rfl rfl hst (does_assign rfl rfl) ?_
  refine wpK_nil ?_
  refine cp_then ?_
  refine cp_seq ?_
  refine cp_region ?_
  refine stepK_d rfl rfl rfl hst (does_move rfl rfl) ?_
  refine stepK_call rfl rfl rfl rfl rfl hst (num_Get hst.agree (by omega)) ?_
  clear hst
  intro v1 g1 w1 hst hle1 hcs1 hp1
  replace hT := hT.mono hle1
  obtain ⟨p2, q2, a2, rfl, h2⟩ := hp1
  refine stepK_alloc rfl rfl rfl rfl (by kernel_rfl : zeroOf Tryd.prog 41 = some (.agg #[.int .i64 0, .int .i64 0, .pointer none])) rfl hst ?_
  clear hst
  intro b2 w2 hst
  refine stepK_store 0 rfl rfl rfl rfl rfl rfl (by kernel_rfl : sizeB Tryd.prog 41 = some 3) rfl rfl hst rfl (by first | (simp [uN_length]; omega) | simp) ?_
  clear hst
  intro w3 hst
  simp only [List.nil_append, List.cons_append, List.set_cons_zero, List.set_cons_succ, splice, List.toList_toArray, List.take_zero, List.take_succ_cons, List.take_nil, List.drop_zero, List.drop_succ_cons, List.drop_nil, List.length_cons, List.length_nil, Nat.zero_add, Nat.add_zero, Nat.reduceAdd, List.append_nil] at hst
  refine wpK_nil ?_
  refine cp_then ?_
  refine cp_seq ?_
  refine cp_seq ?_
  refine cp_region ?_
  refine stepK_d rfl rfl rfl hst (does_load_ownN 0 rfl (by kernel_rfl) (by kernel_rfl : sizeB Tryd.prog 41 = some 3) rfl rfl rfl) ?_
  refine stepK_call rfl rfl rfl rfl rfl hst (Rat_Zero hst.agree h2) ?_
  clear hst
  intro v4 g4 w4 hst hle4 hcs4 hp4
  replace hT := hT.mono hle4
  replace h2 := h2.mono hle4
  obtain rfl := hp4
  refine wpK_nil ?_
  refine cp_then ?_
  refine cp_if rfl ?_ ?_
  · intro c10
    refine cp_seq ?_
    refine cp_region ?_
    refine stepK_d rfl rfl rfl hst (does_assign rfl rfl) ?_
    refine stepK_d rfl rfl rfl hst (does_assign rfl rfl) ?_
    refine wpK_nil ?_
    refine cp_then ?_
    refine cp_ret ?_
    refine at_then_ret ?_
    refine ret2 rfl rfl rfl hst ?_
    rw [if_pos c10, decide_eq_false (fun h => h c10)]
  · intro c10
    refine cp_skip ?_
    refine cp_then ?_
    refine cp_seq ?_
    refine cp_drawn (by kernel_rfl) 7 [(0, true), (2, true), (1, false), (3, false), (4, false), (5, true), (6, true)] _ rfl (by kernel_rfl) (by kernel_rfl) (by kernel_rfl) (fun _ _ _ _ _ h => h) _ (hst.drew) ?_
    have hst0 := hst.drew
    clear hst
    have hst := hst0
    refine stepD_d rfl rfl rfl rfl (does_move rfl rfl) ?_
    refine stepD_d rfl rfl rfl rfl (does_load_ownN 0 rfl (by kernel_rfl) (by kernel_rfl : sizeB Tryd.prog 41 = some 3) rfl rfl rfl) ?_
    refine stepD_call rfl rfl rfl rfl rfl rfl hst (num_Get hst.agree (by omega)) (fun _ _ h hle => St.older h hle (by simp) hst0.ext hst0.le) ?_
    clear hst
    intro v5 g5 w5 hst hle5 hcs5 hp5
    have hlesum := hle5
    replace hT := hT.mono hle5
    replace h2 := h2.mono hle5
    obtain ⟨p1, q1, a1, rfl, h1⟩ := hp5
    refine stepD_call rfl rfl rfl rfl rfl rfl hst (Rat_Quo hst.agree h1 h2 fa fb) (fun _ _ h hle => St.older h (Mem.le.trans hlesum hle) (by simp) hst0.ext hst0.le) ?_
    clear hst
    intro v6 g6 w6 hst hle6 hcs6 hp6
    replace hlesum := Mem.le.trans hlesum hle6
    replace hT := hT.mono hle6
    replace h2 := h2.mono hle6
    replace h1 := h1.mono hle6
    obtain ⟨p3, q3, a3, rfl, h3⟩ := hp6
    refine stepD_call rfl rfl rfl rfl rfl rfl hst (Rat_String hst.agree hT h3 (((getR_sz a).div (getR_sz b)).fit (by omega))) (fun _ _ h hle => St.older h (Mem.le.trans hlesum hle) (by simp) hst0.ext hst0.le) ?_
    clear hst
    intro v7 g7 w7 hst hle7 hcs7 hp7
    replace hlesum := Mem.le.trans hlesum hle7
    replace hT := hT.mono hle7
    replace h2 := h2.mono hle7
    replace h1 := h1.mono hle7
    replace h3 := h3.mono hle7
    obtain rfl := hp7
    refine stepD_d rfl rfl rfl rfl (does_assign rfl rfl) ?_
    refine stepD_d rfl rfl rfl rfl (does_assign rfl rfl) ?_
    refine stepD_tail ?_
    refine wpK_nil ?_
    refine cp_then ?_
    refine cp_ret ?_
    refine ret2 rfl rfl rfl hst ?_
    rw [if_neg c10, decide_eq_true c10]

set_option maxHeartbeats 1000000 in
theorem rational_Compare {g : Mem} {w : World} (hag : Agree g w) {a b : ByteArray} (ha : a.size < 1073741824) (hb : b.size < 1073741824) :
    CallTo Tryd.prog 14 #[.string a, .string b] w (Ret w g fun v g => v = .int .i64 (getR a - getR b).num.sign) := by
  refine CallTo.enter (vs := [.string a, .string b]) (by kernel_rfl : Tryd.prog.funcs[14]? = some Tryd.f14) (by kernel_rfl) rfl rfl rfl ?_
  have hst := St.init hag
  have fa := (getR_sz a).fit (by omega)
  have fb := (getR_sz b).fit (by omega)
  refine cp_seq ?_
  refine cp_region ?_
  refine stepK_d rfl rfl rfl hst (does_assign rfl rfl) ?_
  refine wpK_nil ?_
  refine cp_then ?_
  refine cp_seq ?_
  refine cp_region ?_
  refine stepK_d rfl rfl rfl hst (does_move rfl rfl) ?_
  refine stepK_call rfl rfl rfl rfl rfl hst (num_Get hst.agree (by omega)) ?_
  clear hst
  intro v1 g1 w1 hst hle1 hcs1 hp1
  obtain ⟨p1, q1, a1, rfl, h1⟩ := hp1
  refine stepK_d rfl rfl rfl hst (does_move rfl rfl) ?_
  refine stepK_call rfl rfl rfl rfl rfl hst (num_Get hst.agree (by omega)) ?_
  clear hst
  intro v2 g2 w2 hst hle2 hcs2 hp2
  replace h1 := h1.mono hle2
  obtain ⟨p2, q2, a2, rfl, h2⟩ := hp2
  refine stepK_call rfl rfl rfl rfl rfl hst (Rat_Cmp hst.agree h1 h2 fa fb) ?_
  clear hst
  intro v3 g3 w3 hst hle3 hcs3 hp3
  replace h1 := h1.mono hle3
  replace h2 := h2.mono hle3
  obtain rfl := hp3
  refine stepK_d rfl rfl rfl hst (does_assign rfl rfl) ?_
  refine wpK_nil ?_
  refine cp_then ?_
  refine cp_ret ?_
  refine ret1 rfl rfl hst ?_
  rfl

end Go.Proofs.YtbamjcfdlgnicaaDoor

namespace Go.Proofs.YtbamjcfdlgnicaaDoor
open Go Go.RowKit Go.Proofs.Vc
set_option linter.unusedVariables false
set_option linter.unusedSimpArgs false

set_option maxHeartbeats 1000000 in
theorem law01_awake {g : Mem} {w : World} (hag : Agree g w) (hT : TabG Tryd.prog g) :
    CallTo Tryd.prog 8 #[] w (Ret w g fun v g => v = .bool true) := by
  refine CallTo.enter (vs := []) (by kernel_rfl : Tryd.prog.funcs[8]? = some Tryd.f8) (by kernel_rfl) rfl rfl rfl ?_
  have hst := St.init hag
  refine cp_seq ?_
  refine cp_region ?_
  refine stepK_d rfl rfl rfl hst (does_assign rfl rfl) ?_
  refine wpK_nil ?_
  refine cp_then ?_
  refine cp_seq ?_
  refine cp_region ?_
  refine stepK_call rfl rfl rfl rfl rfl hst (Parse_awake hst.agree hT) ?_
  clear hst
  intro v1 g1 w1 hst hle1 hcs1 hp1
  replace hT := hT.mono hle1
  obtain rfl := hp1
  refine stepK_d rfl rfl rfl hst (does_move rfl rfl) ?_
  refine stepK_d rfl rfl rfl hst (does_extract rfl rfl rfl) ?_
  refine stepK_d rfl rfl rfl hst (does_extract rfl rfl rfl) ?_
  refine stepK_d rfl rfl rfl hst (does_assign rfl rfl) ?_
  refine stepK_d rfl rfl rfl hst (does_assign rfl rfl) ?_
  refine wpK_nil ?_
  refine cp_then ?_
  refine cp_seq ?_
  refine cp_region ?_
  refine stepK_call rfl rfl rfl rfl rfl hst (rational_Div hst.agree hT (a := ⟨#[49]⟩) (b := ⟨#[51]⟩) (by decide) (by decide)) ?_
  clear hst
  intro v2 g2 w2 hst hle2 hcs2 hp2
  replace hT := hT.mono hle2
  obtain rfl := hp2
  rw [getR_eval t3, getR_eval t1, if_neg (by decide +kernel), t1_3, show decide ((3 : Rat) ≠ 0) = true by decide +kernel]
  refine stepK_d rfl rfl rfl hst (does_move rfl rfl) ?_
  refine stepK_d rfl rfl rfl hst (does_extract rfl rfl rfl) ?_
  refine stepK_d rfl rfl rfl hst (does_extract rfl rfl rfl) ?_
  refine stepK_d rfl rfl rfl hst (does_assign rfl rfl) ?_
  refine stepK_d rfl rfl rfl hst (does_assign rfl rfl) ?_
  refine wpK_nil ?_
  refine cp_then ?_
  refine cp_seq ?_
  refine cp_region ?_
  refine stepK_d rfl rfl rfl hst (does_move rfl rfl) ?_
  refine stepK_d rfl rfl rfl hst (Does.yes (does_eql_string rfl rfl rfl) rfl) ?_
  refine stepK_d rfl rfl rfl hst (does_move rfl rfl) ?_
  refine stepK_guard rfl rfl rfl rfl rfl rfl hst (does_move rfl rfl) ?_
  refine stepK_guard rfl rfl rfl rfl rfl rfl hst (Does.yes (does_eql rfl rfl rfl) rfl) ?_
  refine stepK_d rfl rfl rfl hst (does_pick_true rfl rfl rfl) ?_
  refine stepK_d rfl rfl rfl hst (does_move rfl rfl) ?_
  refine stepK_guard rfl rfl rfl rfl rfl rfl hst (does_move rfl rfl) ?_
  refine stepK_guard rfl rfl rfl rfl rfl rfl hst (Does.yes (does_eql_string rfl rfl rfl) rfl) ?_
  refine stepK_d rfl rfl rfl hst (does_pick_true rfl rfl rfl) ?_
  refine stepK_d rfl rfl rfl hst (does_move rfl rfl) ?_
  refine stepK_guard rfl rfl rfl rfl rfl rfl hst (does_move rfl rfl) ?_
  refine stepK_d rfl rfl rfl hst (does_pick_true rfl rfl rfl) ?_
  refine stepK_d rfl rfl rfl hst (does_move rfl rfl) ?_
  refine wpK_splitb (t := 26) rfl ?_ ?_
  · intro s26
    refine stepK_call_guard rfl rfl rfl rfl rfl rfl rfl rfl hst (rational_Add hst.agree hT (a := ⟨#[49, 47, 50]⟩) (b := ⟨#[49, 47, 51]⟩) (by decide) (by decide)) ?_
    clear hst
    intro v3 g3 w3 hst hle3 hcs3 hp3
    replace hT := hT.mono hle3
    obtain rfl := hp3
    rw [getR_eval t1_2, getR_eval t1_3, t5_6]
    refine stepK_guard rfl rfl rfl rfl rfl rfl hst (Does.yes (does_eql_string rfl rfl rfl) rfl) ?_
    refine stepK_d rfl rfl rfl hst (does_pick_true rfl rfl rfl) ?_
    refine stepK_d rfl rfl rfl hst (does_move rfl rfl) ?_
    refine stepK_call_guard rfl rfl rfl rfl rfl rfl rfl rfl hst (rational_Mul hst.agree hT (a := ⟨#[45, 50, 47, 51]⟩) (b := ⟨#[51]⟩) (by decide) (by decide)) ?_
    clear hst
    intro v4 g4 w4 hst hle4 hcs4 hp4
    replace hT := hT.mono hle4
    obtain rfl := hp4
    rw [getR_eval tm2_3, getR_eval t3, tm2]
    refine stepK_guard rfl rfl rfl rfl rfl rfl hst (Does.yes (does_eql_string rfl rfl rfl) rfl) ?_
    refine stepK_d rfl rfl rfl hst (does_pick_true rfl rfl rfl) ?_
    refine stepK_d rfl rfl rfl hst (does_move rfl rfl) ?_
    refine stepK_call_guard rfl rfl rfl rfl rfl rfl rfl rfl hst (rational_Compare hst.agree (a := ⟨#[49, 47, 51]⟩) (b := ⟨#[49, 47, 50]⟩) (by decide) (by decide)) ?_
    clear hst
    intro v5 g5 w5 hst hle5 hcs5 hp5
    replace hT := hT.mono hle5
    obtain rfl := hp5
    rw [getR_eval t1_3, getR_eval t1_2, show ((1 / 3 : Rat) - 1 / 2).num.sign = -1 by decide +kernel]
    refine stepK_guard rfl rfl rfl rfl rfl rfl hst (Does.yes (does_eql rfl rfl rfl) rfl) ?_
    refine stepK_d rfl rfl rfl hst (does_pick_true rfl rfl rfl) ?_
    refine stepK_d rfl rfl rfl hst (does_assign rfl rfl) ?_
    refine wpK_nil ?_
    refine cp_then ?_
    refine cp_ret ?_
    refine ret1 rfl rfl hst ?_
    rfl
  · intro s26
    refine stepK_pass rfl rfl rfl rfl rfl rfl rfl ?_
    refine stepK_pass rfl rfl rfl rfl rfl rfl rfl ?_
    refine stepK_d rfl rfl rfl hst (does_pick_false rfl rfl rfl) ?_
    refine stepK_d rfl rfl rfl hst (does_move rfl rfl) ?_
    refine stepK_pass rfl rfl rfl rfl rfl rfl rfl ?_
    refine stepK_pass rfl rfl rfl rfl rfl rfl rfl ?_
    refine stepK_d rfl rfl rfl hst (does_pick_false rfl rfl rfl) ?_
    refine stepK_d rfl rfl rfl hst (does_move rfl rfl) ?_
    refine stepK_pass rfl rfl rfl rfl rfl rfl rfl ?_
    refine stepK_pass rfl rfl rfl rfl rfl rfl rfl ?_
    refine stepK_d rfl rfl rfl hst (does_pick_false rfl rfl rfl) ?_
    refine stepK_d rfl rfl rfl hst (does_assign rfl rfl) ?_
    refine wpK_nil ?_
    refine cp_then ?_
    refine cp_ret ?_
    refine ret1 rfl rfl hst ?_
    first
    | rfl
    | simp_all

end Go.Proofs.YtbamjcfdlgnicaaDoor

namespace Go.Proofs.YtbamjcfdlgnicaaDoor
open Go Go.RowKit Go.Proofs.Vc
set_option linter.unusedVariables false
set_option linter.unusedSimpArgs false

set_option maxHeartbeats 1000000 in
theorem keep_Short {g : Mem} {w : World} (hag : Agree g w) {bl : Nat} {ss : List ByteArray} (hc : ∀ (j : Nat) s, ss[j]? = some s → gcell g bl j = some (.string s)) (hl : ss.length ≤ 1000000) {n : Nat} :
    CallTo Tryd.prog 9 #[.int .i64 (n : Int), .slice (some ⟨bl, 0, none⟩) ss.length ss.length] w (Ret w g fun v g => v = .bool (decide (∀ s ∈ ss, s.size ≤ n))) := by
  refine CallTo.enter (vs := [.int .i64 (n : Int), .slice (some ⟨bl, 0, none⟩) ss.length ss.length]) (by kernel_rfl : Tryd.prog.funcs[9]? = some Tryd.f9) (by kernel_rfl) rfl rfl rfl ?_
  have hst := St.init hag
  refine cp_seq ?_
  refine cp_region ?_
  refine stepK_d rfl rfl rfl hst (does_assign rfl rfl) ?_
  refine wpK_nil ?_
  refine cp_then ?_
  refine cp_seq ?_
  refine cp_seq ?_
  refine cp_region ?_
  refine stepK_d rfl rfl rfl hst (does_assign rfl rfl) ?_
  refine wpK_nil ?_
  refine cp_then ?_
  refine cp_block ?_
  refine cp_loop (ι := Nat) (fun k => [(0, .int .i64 (n : Int)), (1, .slice (some ⟨bl, 0, none⟩) ss.length ss.length), (5, .int .i64 (k : Int))]) (fun k w1 => St w [] g g [] w1 ∧ k ≤ ss.length ∧ ∀ s ∈ ss.take k, s.size ≤ n) (fun k => ss.length - k) 0 ?k1 ?i1 ?r1
  case k1 => exact ⟨rfl, rfl, rfl, trivial⟩
  case i1 =>
    exact ⟨hst, Nat.zero_le _, by simp⟩
  case r1 =>
    clear hst
    rintro k w1 ⟨hst, hk, hd⟩
    refine cp_seq ?_
    refine cp_seq ?_
    refine cp_region ?_
    refine stepK_d rfl rfl rfl hst (does_move rfl rfl) ?_
    refine stepK_d rfl rfl rfl hst (does_move rfl rfl) ?_
    refine stepK_d rfl rfl rfl hst (does_len_slice rfl (by kernel_rfl : Program.underlying Tryd.prog 48 = some (.slice 9)) rfl) ?_
    refine stepK_d rfl rfl rfl hst (does_lss rfl rfl rfl) ?_
    refine wpK_nil ?_
    refine cp_then ?_
    refine cp_if rfl ?_ ?_
    · intro c9
      refine cp_skip ?_
      refine cp_then ?_
      refine cp_seq ?_
      refine cp_block ?_
      refine cp_seq ?_
      obtain ⟨x, hx⟩ : ∃ x, ss[k]? = some x := ⟨_, List.getElem?_eq_getElem (by omega)⟩
      refine cp_region ?_
      refine stepK_d rfl rfl rfl hst (does_move rfl rfl) ?_
      refine stepK_d rfl rfl rfl hst (does_move rfl rfl) ?_
      refine stepK_d rfl rfl rfl hst (does_indexAddr1 rfl (by kernel_rfl : Program.underlying Tryd.prog 48 = some (.slice 9)) (by kernel_rfl) rfl rfl rfl (by omega)) ?_
      refine stepK_d rfl rfl rfl hst (does_load_g1 rfl (by kernel_rfl) rfl (by rw [Nat.zero_add]; exact hc _ _ hx)) ?_
      refine stepK_d rfl rfl rfl hst (does_len_string rfl (by kernel_rfl) rfl) ?_
      refine stepK_d rfl rfl rfl hst (does_move rfl rfl) ?_
      refine stepK_d rfl rfl rfl hst (does_gtr rfl rfl rfl) ?_
      refine wpK_nil ?_
      refine cp_then ?_
      refine cp_if rfl ?_ ?_
      · intro c18
        refine cp_seq ?_
        refine cp_region ?_
        refine stepK_d rfl rfl rfl hst (does_assign rfl rfl) ?_
        refine wpK_nil ?_
        refine cp_then ?_
        refine cp_ret ?_
        refine at_block_ret ?_
        refine at_then_ret ?_
        refine at_then_ret ?_
        refine at_block_ret ?_
        refine at_then_ret ?_
        refine ret1 rfl rfl hst ?_
        rw [decide_eq_false (fun h => by have := h x (List.mem_of_getElem? hx); omega)]
      · intro c18
        refine cp_skip ?_
        refine at_block_normal ?_
        refine cp_then ?_
        refine cp_region ?_
        refine stepK_d rfl rfl rfl hst (does_move rfl rfl) ?_
        refine stepK_d rfl rfl rfl hst (Does.int (does_add rfl rfl rfl) (wrap_i64 (by omega) (by omega))) ?_
        refine stepK_d rfl rfl rfl hst (does_assign rfl rfl) ?_
        refine wpK_nil ?_
        refine round_end (k + 1) ?_ ?_ ?_
        · exact ⟨rfl, rfl, rfl, trivial⟩
        · refine ⟨hst, by omega, fun y hy => ?_⟩
          rw [List.take_add_one, hx] at hy
          rcases List.mem_append.1 hy with hy | hy
          · exact hd y hy
          · have : y = x := by simpa using hy
            subst this
            omega
        · omega
    · intro c9
      refine cp_exit ?_
      refine at_then_exit ?_
      refine at_then_exit ?_
      refine cp_exit_here ?_
      refine cp_then ?_
      refine cp_seq ?_
      refine cp_region ?_
      refine stepK_d rfl rfl rfl hst (does_assign rfl rfl) ?_
      refine wpK_nil ?_
      refine cp_then ?_
      refine cp_ret ?_
      refine ret1 rfl rfl hst ?_
      rw [decide_eq_true]
      intro s hs
      exact hd s (by rw [List.take_of_length_le (by omega)]; exact hs)

set_option maxHeartbeats 4000000 in
theorem RationalField_walk {g : Mem} {w : World} (hag : Agree g w) (hT : TabG Tryd.prog g) {a b c : ByteArray} :
    CallTo Tryd.prog 4 #[.string a, .string b, .string c] w (Ret w g fun v g => v = .bool true) := by
  refine CallTo.enter (vs := [.string a, .string b, .string c]) (by kernel_rfl : Tryd.prog.funcs[4]? = some Tryd.f4) (by kernel_rfl) rfl rfl rfl ?_
  have hst := St.init hag
  refine cp_seq ?_
  refine cp_region ?_
  refine stepK_d rfl rfl rfl hst (does_assign rfl rfl) ?_
  refine wpK_nil ?_
  refine cp_then ?_
  refine cp_seq ?_
  refine cp_seq ?_
  refine cp_region ?_
  refine stepK_d rfl rfl rfl hst (does_move rfl rfl) ?_
  refine stepK_d rfl rfl rfl hst (does_move rfl rfl) ?_
  refine stepK_d rfl rfl rfl hst (does_move rfl rfl) ?_
  refine stepK_buildSlice rfl rfl rfl rfl (by kernel_rfl : Program.underlying Tryd.prog 48 = some (.slice 9)) (by kernel_rfl : elemInfo Tryd.prog 9 = some ((.string ByteArray.empty), 1, 16)) rfl rfl (by decide) (by decide) (by decide) rfl rfl hst ?_
  clear hst
  intro bs w1 hst
  obtain ⟨hst, hleS⟩ := hst.publish 0 rfl
  replace hT := hT.mono hleS
  refine stepK_call rfl rfl rfl rfl rfl hst (keep_Short (ss := [a, b, c]) (n := 100) hst.agree (fun j s hj => by rw [gcell_put]; match j, hj with | 0, hj => simpa using hj | 1, hj => simpa using hj | 2, hj => simpa using hj) (by simp)) ?_
  clear hst
  intro v2 g2 w2 hst hle2 hcs2 hp2
  replace hT := hT.mono hle2
  obtain rfl := hp2
  refine stepK_d rfl rfl rfl hst (does_not rfl rfl) ?_
  refine wpK_nil ?_
  refine cp_then ?_
  refine cp_cond rfl ?_ ?_
  · intro c16
    refine cp_seq ?_
    refine cp_region ?_
    refine stepK_call rfl rfl rfl rfl rfl hst (law01_awake hst.agree hT) ?_
    clear hst
    intro v3 g3 w3 hst hle3 hcs3 hp3
    replace hT := hT.mono hle3
    obtain rfl := hp3
    refine stepK_d rfl rfl rfl hst (does_assign rfl rfl) ?_
    refine wpK_nil ?_
    refine cp_then ?_
    refine cp_ret ?_
    refine at_then_ret ?_
    refine ret1 rfl rfl hst ?_
    first
    | rfl
    | simp_all
  · intro c16
    have hsh : ∀ s ∈ [a, b, c], s.size ≤ 100 := Decidable.byContradiction fun h => by rw [decide_eq_false h] at c16; cases c16
    have ha : a.size ≤ 100 := hsh a (by simp)
    have hb : b.size ≤ 100 := hsh b (by simp)
    have hc : c.size ≤ 100 := hsh c (by simp)
    have sx := (getR_sz a).mono (m := 101) (by omega)
    have sy := (getR_sz b).mono (m := 101) (by omega)
    have sz := (getR_sz c).mono (m := 101) (by omega)
    have z1 := ratS_lt (sx.mul sy) (by decide)
    have z2 := ratS_lt (sy.mul sz) (by decide)
    have z3 := ratS_lt (sx.mul sz) (by decide)
    have z4 := ratS_lt (sx.add sy) (by decide)
    have z5 := ratS_lt (sy.add sz) (by decide)
    have z6 := ratS_lt (sx.add sz) (by decide)
    have z7 := ratS_lt (sx.sub sy) (by decide)
    have z8 := ratS_lt (sx.div sy) (by decide)
    have z9 : (⟨[48].toArray⟩ : ByteArray).size < 1073741824 := by decide
    refine cp_skip ?_
    refine cp_then ?_
    refine cp_seq ?_
    refine cp_region ?_
    refine stepK_d rfl rfl rfl hst (does_move rfl rfl) ?_
    refine stepK_d rfl rfl rfl hst (does_move rfl rfl) ?_
    refine stepK_call rfl rfl rfl rfl rfl hst (rational_Mul hst.agree hT (a := a) (b := b) (by first | omega | assumption) (by first | omega | assumption)) ?_
    clear hst
    intro v4 g4 w4 hst hle4 hcs4 hp4
    replace hT := hT.mono hle4
    obtain rfl := hp4
    refine stepK_d rfl rfl rfl hst (does_move rfl rfl) ?_
    refine stepK_d rfl rfl rfl hst (does_move rfl rfl) ?_
    refine stepK_call rfl rfl rfl rfl rfl hst (rational_Mul hst.agree hT (a := b) (b := c) (by first | omega | assumption) (by first | omega | assumption)) ?_
    clear hst
    intro v5 g5 w5 hst hle5 hcs5 hp5
    replace hT := hT.mono hle5
    obtain rfl := hp5
    refine stepK_d rfl rfl rfl hst (does_assign rfl rfl) ?_
    refine stepK_d rfl rfl rfl hst (does_assign rfl rfl) ?_
    refine wpK_nil ?_
    refine cp_then ?_
    refine cp_seq ?_
    refine cp_seq ?_
    refine cp_region ?_
    refine stepK_d rfl rfl rfl hst (does_move rfl rfl) ?_
    refine stepK_d rfl rfl rfl hst (does_move rfl rfl) ?_
    refine stepK_call rfl rfl rfl rfl rfl hst (rational_Mul hst.agree hT (a := (ratS (getR a * getR b))) (b := c) (by first | omega | assumption) (by first | omega | assumption)) ?_
    clear hst
    intro v6 g6 w6 hst hle6 hcs6 hp6
    replace hT := hT.mono hle6
    obtain rfl := hp6
    simp only [getR_text]
    refine stepK_d rfl rfl rfl hst (does_move rfl rfl) ?_
    refine stepK_d rfl rfl rfl hst (does_move rfl rfl) ?_
    refine stepK_call rfl rfl rfl rfl rfl hst (rational_Mul hst.agree hT (a := a) (b := (ratS (getR b * getR c))) (by first | omega | assumption) (by first | omega | assumption)) ?_
    clear hst
    intro v7 g7 w7 hst hle7 hcs7 hp7
    replace hT := hT.mono hle7
    obtain rfl := hp7
    simp only [getR_text]
    refine stepK_d rfl rfl rfl hst (Does.no (does_neq_string rfl rfl rfl) (fun h => h (congrArg ratS (Rat.mul_assoc ..)))) ?_
    refine stepK_d rfl rfl rfl hst (does_move rfl rfl) ?_
    refine stepK_guard rfl rfl rfl rfl rfl rfl hst (does_move rfl rfl) ?_
    refine stepK_guard rfl rfl rfl rfl rfl rfl hst (does_move rfl rfl) ?_
    refine stepK_guard rfl rfl rfl rfl rfl rfl hst (does_move rfl rfl) ?_
    refine stepK_call_guard rfl rfl rfl rfl rfl rfl rfl rfl hst (rational_Mul hst.agree hT (a := b) (b := a) (by first | omega | assumption) (by first | omega | assumption)) ?_
    clear hst
    intro v8 g8 w8 hst hle8 hcs8 hp8
    replace hT := hT.mono hle8
    obtain rfl := hp8
    refine stepK_guard rfl rfl rfl rfl rfl rfl hst (Does.no (does_neq_string rfl rfl rfl) (fun h => h (congrArg ratS (Rat.mul_comm ..)))) ?_
    refine stepK_d rfl rfl rfl hst (does_pick_false rfl rfl rfl) ?_
    refine stepK_d rfl rfl rfl hst (does_move rfl rfl) ?_
    refine stepK_guard rfl rfl rfl rfl rfl rfl hst (does_move rfl rfl) ?_
    refine stepK_guard rfl rfl rfl rfl rfl rfl hst (does_move rfl rfl) ?_
    refine stepK_guard rfl rfl rfl rfl rfl rfl hst (does_move rfl rfl) ?_
    refine stepK_call_guard rfl rfl rfl rfl rfl rfl rfl rfl hst (rational_Add hst.agree hT (a := b) (b := c) (by first | omega | assumption) (by first | omega | assumption)) ?_
    clear hst
    intro v9 g9 w9 hst hle9 hcs9 hp9
    replace hT := hT.mono hle9
    obtain rfl := hp9
    refine stepK_call_guard rfl rfl rfl rfl rfl rfl rfl rfl hst (rational_Mul hst.agree hT (a := a) (b := (ratS (getR b + getR c))) (by first | omega | assumption) (by first | omega | assumption)) ?_
    clear hst
    intro v10 g10 w10 hst hle10 hcs10 hp10
    replace hT := hT.mono hle10
    obtain rfl := hp10
    simp only [getR_text]
    refine stepK_guard rfl rfl rfl rfl rfl rfl hst (does_move rfl rfl) ?_
    refine stepK_guard rfl rfl rfl rfl rfl rfl hst (does_move rfl rfl) ?_
    refine stepK_guard rfl rfl rfl rfl rfl rfl hst (does_move rfl rfl) ?_
    refine stepK_call_guard rfl rfl rfl rfl rfl rfl rfl rfl hst (rational_Mul hst.agree hT (a := a) (b := c) (by first | omega | assumption) (by first | omega | assumption)) ?_
    clear hst
    intro v11 g11 w11 hst hle11 hcs11 hp11
    replace hT := hT.mono hle11
    obtain rfl := hp11
    refine stepK_call_guard rfl rfl rfl rfl rfl rfl rfl rfl hst (rational_Add hst.agree hT (a := (ratS (getR a * getR b))) (b := (ratS (getR a * getR c))) (by first | omega | assumption) (by first | omega | assumption)) ?_
    clear hst
    intro v12 g12 w12 hst hle12 hcs12 hp12
    replace hT := hT.mono hle12
    obtain rfl := hp12
    simp only [getR_text]
    refine stepK_guard rfl rfl rfl rfl rfl rfl hst (Does.no (does_neq_string rfl rfl rfl) (fun h => h (congrArg ratS (Rat.mul_add ..)))) ?_
    refine stepK_d rfl rfl rfl hst (does_pick_false rfl rfl rfl) ?_
    refine wpK_nil ?_
    refine cp_then ?_
    refine cp_cond_false rfl ?_
    refine cp_skip ?_
    refine cp_then ?_
    refine cp_seq ?_
    refine cp_seq ?_
    refine cp_region ?_
    refine stepK_d rfl rfl rfl hst (does_move rfl rfl) ?_
    refine stepK_d rfl rfl rfl hst (does_move rfl rfl) ?_
    refine stepK_call rfl rfl rfl rfl rfl hst (rational_Add hst.agree hT (a := a) (b := b) (by first | omega | assumption) (by first | omega | assumption)) ?_
    clear hst
    intro v13 g13 w13 hst hle13 hcs13 hp13
    replace hT := hT.mono hle13
    obtain rfl := hp13
    refine stepK_d rfl rfl rfl hst (does_move rfl rfl) ?_
    refine stepK_call rfl rfl rfl rfl rfl hst (rational_Add hst.agree hT (a := (ratS (getR a + getR b))) (b := c) (by first | omega | assumption) (by first | omega | assumption)) ?_
    clear hst
    intro v14 g14 w14 hst hle14 hcs14 hp14
    replace hT := hT.mono hle14
    obtain rfl := hp14
    simp only [getR_text]
    refine stepK_d rfl rfl rfl hst (does_move rfl rfl) ?_
    refine stepK_d rfl rfl rfl hst (does_move rfl rfl) ?_
    refine stepK_d rfl rfl rfl hst (does_move rfl rfl) ?_
    refine stepK_call rfl rfl rfl rfl rfl hst (rational_Add hst.agree hT (a := b) (b := c) (by first | omega | assumption) (by first | omega | assumption)) ?_
    clear hst
    intro v15 g15 w15 hst hle15 hcs15 hp15
    replace hT := hT.mono hle15
    obtain rfl := hp15
    refine stepK_call rfl rfl rfl rfl rfl hst (rational_Add hst.agree hT (a := a) (b := (ratS (getR b + getR c))) (by first | omega | assumption) (by first | omega | assumption)) ?_
    clear hst
    intro v16 g16 w16 hst hle16 hcs16 hp16
    replace hT := hT.mono hle16
    obtain rfl := hp16
    simp only [getR_text]
    refine stepK_d rfl rfl rfl hst (Does.no (does_neq_string rfl rfl rfl) (fun h => h (congrArg ratS (Rat.add_assoc ..)))) ?_
    refine stepK_d rfl rfl rfl hst (does_move rfl rfl) ?_
    refine stepK_guard rfl rfl rfl rfl rfl rfl hst (does_move rfl rfl) ?_
    refine stepK_guard rfl rfl rfl rfl rfl rfl hst (does_move rfl rfl) ?_
    refine stepK_call_guard rfl rfl rfl rfl rfl rfl rfl rfl hst (rational_Sub hst.agree hT (a := a) (b := b) (by first | omega | assumption) (by first | omega | assumption)) ?_
    clear hst
    intro v17 g17 w17 hst hle17 hcs17 hp17
    replace hT := hT.mono hle17
    obtain rfl := hp17
    refine stepK_guard rfl rfl rfl rfl rfl rfl hst (does_move rfl rfl) ?_
    refine stepK_call_guard rfl rfl rfl rfl rfl rfl rfl rfl hst (rational_Add hst.agree hT (a := (ratS (getR a - getR b))) (b := b) (by first | omega | assumption) (by first | omega | assumption)) ?_
    clear hst
    intro v18 g18 w18 hst hle18 hcs18 hp18
    replace hT := hT.mono hle18
    obtain rfl := hp18
    simp only [getR_text]
    refine stepK_guard rfl rfl rfl rfl rfl rfl hst (does_move rfl rfl) ?_
    refine stepK_call_guard rfl rfl rfl rfl rfl rfl rfl rfl hst (rational_Add hst.agree hT (a := a) (b := ⟨#[48]⟩) (by first | omega | assumption) (by first | omega | assumption)) ?_
    clear hst
    intro v19 g19 w19 hst hle19 hcs19 hp19
    replace hT := hT.mono hle19
    obtain rfl := hp19
    rw [getR_eval t0]
    refine stepK_guard rfl rfl rfl rfl rfl rfl hst (Does.no (does_neq_string rfl rfl rfl) (fun h => h (congrArg ratS (rat_back ..)))) ?_
    refine stepK_d rfl rfl rfl hst (does_pick_false rfl rfl rfl) ?_
    refine wpK_nil ?_
    refine cp_then ?_
    refine cp_cond_false rfl ?_
    refine cp_skip ?_
    refine cp_then ?_
    refine cp_seq ?_
    refine cp_seq ?_
    refine cp_region ?_
    refine stepK_d rfl rfl rfl hst (does_move rfl rfl) ?_
    refine stepK_d rfl rfl rfl hst (does_move rfl rfl) ?_
    refine stepK_call rfl rfl rfl rfl rfl hst (rational_Div hst.agree hT (a := a) (b := b) (by first | omega | assumption) (by first | omega | assumption)) ?_
    clear hst
    intro v20 g20 w20 hst hle20 hcs20 hp20
    replace hT := hT.mono hle20
    obtain rfl := hp20
    refine stepK_d rfl rfl rfl hst (does_move rfl rfl) ?_
    refine stepK_d rfl rfl rfl hst (does_extract rfl rfl rfl) ?_
    refine stepK_d rfl rfl rfl hst (does_extract rfl rfl rfl) ?_
    refine stepK_d rfl rfl rfl hst (does_assign rfl rfl) ?_
    refine stepK_d rfl rfl rfl hst (does_assign rfl rfl) ?_
    refine wpK_nil ?_
    refine cp_then ?_
    refine cp_seq ?_
    refine cp_region ?_
    refine stepK_d rfl rfl rfl hst (does_move rfl rfl) ?_
    refine stepK_d rfl rfl rfl hst (does_move rfl rfl) ?_
    refine wpK_splitb (t := 79) rfl ?_ ?_
    · intro s79
      have hy : getR b ≠ 0 := of_decide_eq_true s79
      rw [if_neg hy]
      refine stepK_guard rfl rfl rfl rfl rfl rfl hst (does_move rfl rfl) ?_
      refine stepK_guard rfl rfl rfl rfl rfl rfl hst (does_move rfl rfl) ?_
      refine stepK_call_guard rfl rfl rfl rfl rfl rfl rfl rfl hst (rational_Mul hst.agree hT (a := (ratS (getR a / getR b))) (b := b) (by first | omega | assumption) (by first | omega | assumption)) ?_
      clear hst
      intro v21 g21 w21 hst hle21 hcs21 hp21
      replace hT := hT.mono hle21
      obtain rfl := hp21
      simp only [getR_text]
      refine stepK_guard rfl rfl rfl rfl rfl rfl hst (does_move rfl rfl) ?_
      refine stepK_call_guard rfl rfl rfl rfl rfl rfl rfl rfl hst (rational_Add hst.agree hT (a := a) (b := ⟨#[48]⟩) (by first | omega | assumption) (by first | omega | assumption)) ?_
      clear hst
      intro v22 g22 w22 hst hle22 hcs22 hp22
      replace hT := hT.mono hle22
      obtain rfl := hp22
      rw [getR_eval t0]
      refine stepK_guard rfl rfl rfl rfl rfl rfl hst (Does.no (does_neq_string rfl rfl rfl) (fun h => h (congrArg ratS ((Rat.div_mul_cancel hy).trans (Rat.add_zero _).symm)))) ?_
      refine stepK_d rfl rfl rfl hst (does_pick_true rfl rfl rfl) ?_
      refine wpK_nil ?_
      refine cp_then ?_
      refine cp_cond_false rfl ?_
      refine cp_skip ?_
      refine cp_then ?_
      refine cp_seq ?_
      refine cp_region ?_
      refine stepK_d rfl rfl rfl hst (does_move rfl rfl) ?_
      refine stepK_d rfl rfl rfl hst (does_move rfl rfl) ?_
      refine stepK_call rfl rfl rfl rfl rfl hst (rational_Compare hst.agree (a := a) (b := b) (by omega) (by omega)) ?_
      clear hst
      intro v23 g23 w23 hst hle23 hcs23 hp23
      replace hT := hT.mono hle23
      obtain rfl := hp23
      refine stepK_d rfl rfl rfl hst (does_gtr rfl rfl rfl) ?_
      refine stepK_d rfl rfl rfl hst (does_move rfl rfl) ?_
      refine wpK_split (t := 91) rfl ?_ ?_
      · intro s91
        refine stepK_pass rfl rfl rfl rfl rfl rfl rfl ?_
        refine stepK_pass rfl rfl rfl rfl rfl rfl rfl ?_
        refine stepK_pass rfl rfl rfl rfl rfl rfl rfl ?_
        refine stepK_pass rfl rfl rfl rfl rfl rfl rfl ?_
        refine stepK_pass rfl rfl rfl rfl rfl rfl rfl ?_
        refine stepK_pass rfl rfl rfl rfl rfl rfl rfl ?_
        refine stepK_pass rfl rfl rfl rfl rfl rfl rfl ?_
        refine stepK_pass rfl rfl rfl rfl rfl rfl rfl ?_
        refine stepK_d rfl rfl rfl hst (does_pick_true rfl rfl rfl) ?_
        refine stepK_d rfl rfl rfl hst (does_move rfl rfl) ?_
        refine stepK_call_guard rfl rfl rfl rfl rfl rfl rfl rfl hst (law01_awake hst.agree hT) ?_
        clear hst
        intro v24 g24 w24 hst hle24 hcs24 hp24
        replace hT := hT.mono hle24
        obtain rfl := hp24
        refine stepK_d rfl rfl rfl hst (does_pick_true rfl rfl rfl) ?_
        refine stepK_d rfl rfl rfl hst (does_assign rfl rfl) ?_
        refine wpK_nil ?_
        refine cp_then ?_
        refine cp_ret ?_
        refine ret1 rfl rfl hst ?_
        first
        | rfl
        | simp_all
      · intro s91
        refine stepK_guard rfl rfl rfl rfl rfl rfl hst (does_move rfl rfl) ?_
        refine stepK_guard rfl rfl rfl rfl rfl rfl hst (does_move rfl rfl) ?_
        refine stepK_call_guard rfl rfl rfl rfl rfl rfl rfl rfl hst (rational_Add hst.agree hT (a := a) (b := c) (by first | omega | assumption) (by first | omega | assumption)) ?_
        clear hst
        intro v25 g25 w25 hst hle25 hcs25 hp25
        replace hT := hT.mono hle25
        obtain rfl := hp25
        refine stepK_guard rfl rfl rfl rfl rfl rfl hst (does_move rfl rfl) ?_
        refine stepK_guard rfl rfl rfl rfl rfl rfl hst (does_move rfl rfl) ?_
        refine stepK_call_guard rfl rfl rfl rfl rfl rfl rfl rfl hst (rational_Add hst.agree hT (a := b) (b := c) (by first | omega | assumption) (by first | omega | assumption)) ?_
        clear hst
        intro v26 g26 w26 hst hle26 hcs26 hp26
        replace hT := hT.mono hle26
        obtain rfl := hp26
        refine stepK_call_guard rfl rfl rfl rfl rfl rfl rfl rfl hst (rational_Compare hst.agree (a := ratS (getR a + getR c)) (b := ratS (getR b + getR c)) (by assumption) (by assumption)) ?_
        clear hst
        intro v27 g27 w27 hst hle27 hcs27 hp27
        replace hT := hT.mono hle27
        obtain rfl := hp27
        simp only [getR_text]
        refine stepK_guard rfl rfl rfl rfl rfl rfl hst (Does.yes (does_leq rfl rfl rfl) (by rw [rat_shift]; omega)) ?_
        refine stepK_d rfl rfl rfl hst (does_pick_false rfl rfl rfl) ?_
        refine stepK_d rfl rfl rfl hst (does_move rfl rfl) ?_
        refine stepK_call_guard rfl rfl rfl rfl rfl rfl rfl rfl hst (law01_awake hst.agree hT) ?_
        clear hst
        intro v28 g28 w28 hst hle28 hcs28 hp28
        replace hT := hT.mono hle28
        obtain rfl := hp28
        refine stepK_d rfl rfl rfl hst (does_pick_true rfl rfl rfl) ?_
        refine stepK_d rfl rfl rfl hst (does_assign rfl rfl) ?_
        refine wpK_nil ?_
        refine cp_then ?_
        refine cp_ret ?_
        refine ret1 rfl rfl hst ?_
        first
        | rfl
        | simp_all
    · intro s79
      refine stepK_pass rfl rfl rfl rfl rfl rfl rfl ?_
      refine stepK_pass rfl rfl rfl rfl rfl rfl rfl ?_
      refine stepK_pass rfl rfl rfl rfl rfl rfl rfl ?_
      refine stepK_pass rfl rfl rfl rfl rfl rfl rfl ?_
      refine stepK_pass rfl rfl rfl rfl rfl rfl rfl ?_
      refine stepK_pass rfl rfl rfl rfl rfl rfl rfl ?_
      refine stepK_d rfl rfl rfl hst (does_pick_false rfl rfl rfl) ?_
      refine wpK_nil ?_
      refine cp_then ?_
      refine cp_cond_false rfl ?_
      refine cp_skip ?_
      refine cp_then ?_
      refine cp_seq ?_
      refine cp_region ?_
      refine stepK_d rfl rfl rfl hst (does_move rfl rfl) ?_
      refine stepK_d rfl rfl rfl hst (does_move rfl rfl) ?_
      refine stepK_call rfl rfl rfl rfl rfl hst (rational_Compare hst.agree (a := a) (b := b) (by omega) (by omega)) ?_
      clear hst
      intro v29 g29 w29 hst hle29 hcs29 hp29
      replace hT := hT.mono hle29
      obtain rfl := hp29
      refine stepK_d rfl rfl rfl hst (does_gtr rfl rfl rfl) ?_
      refine stepK_d rfl rfl rfl hst (does_move rfl rfl) ?_
      refine wpK_split (t := 91) rfl ?_ ?_
      · intro s91
        refine stepK_pass rfl rfl rfl rfl rfl rfl rfl ?_
        refine stepK_pass rfl rfl rfl rfl rfl rfl rfl ?_
        refine stepK_pass rfl rfl rfl rfl rfl rfl rfl ?_
        refine stepK_pass rfl rfl rfl rfl rfl rfl rfl ?_
        refine stepK_pass rfl rfl rfl rfl rfl rfl rfl ?_
        refine stepK_pass rfl rfl rfl rfl rfl rfl rfl ?_
        refine stepK_pass rfl rfl rfl rfl rfl rfl rfl ?_
        refine stepK_pass rfl rfl rfl rfl rfl rfl rfl ?_
        refine stepK_d rfl rfl rfl hst (does_pick_true rfl rfl rfl) ?_
        refine stepK_d rfl rfl rfl hst (does_move rfl rfl) ?_
        refine stepK_call_guard rfl rfl rfl rfl rfl rfl rfl rfl hst (law01_awake hst.agree hT) ?_
        clear hst
        intro v30 g30 w30 hst hle30 hcs30 hp30
        replace hT := hT.mono hle30
        obtain rfl := hp30
        refine stepK_d rfl rfl rfl hst (does_pick_true rfl rfl rfl) ?_
        refine stepK_d rfl rfl rfl hst (does_assign rfl rfl) ?_
        refine wpK_nil ?_
        refine cp_then ?_
        refine cp_ret ?_
        refine ret1 rfl rfl hst ?_
        first
        | rfl
        | simp_all
      · intro s91
        refine stepK_guard rfl rfl rfl rfl rfl rfl hst (does_move rfl rfl) ?_
        refine stepK_guard rfl rfl rfl rfl rfl rfl hst (does_move rfl rfl) ?_
        refine stepK_call_guard rfl rfl rfl rfl rfl rfl rfl rfl hst (rational_Add hst.agree hT (a := a) (b := c) (by first | omega | assumption) (by first | omega | assumption)) ?_
        clear hst
        intro v31 g31 w31 hst hle31 hcs31 hp31
        replace hT := hT.mono hle31
        obtain rfl := hp31
        refine stepK_guard rfl rfl rfl rfl rfl rfl hst (does_move rfl rfl) ?_
        refine stepK_guard rfl rfl rfl rfl rfl rfl hst (does_move rfl rfl) ?_
        refine stepK_call_guard rfl rfl rfl rfl rfl rfl rfl rfl hst (rational_Add hst.agree hT (a := b) (b := c) (by first | omega | assumption) (by first | omega | assumption)) ?_
        clear hst
        intro v32 g32 w32 hst hle32 hcs32 hp32
        replace hT := hT.mono hle32
        obtain rfl := hp32
        refine stepK_call_guard rfl rfl rfl rfl rfl rfl rfl rfl hst (rational_Compare hst.agree (a := ratS (getR a + getR c)) (b := ratS (getR b + getR c)) (by assumption) (by assumption)) ?_
        clear hst
        intro v33 g33 w33 hst hle33 hcs33 hp33
        replace hT := hT.mono hle33
        obtain rfl := hp33
        simp only [getR_text]
        refine stepK_guard rfl rfl rfl rfl rfl rfl hst (Does.yes (does_leq rfl rfl rfl) (by rw [rat_shift]; omega)) ?_
        refine stepK_d rfl rfl rfl hst (does_pick_false rfl rfl rfl) ?_
        refine stepK_d rfl rfl rfl hst (does_move rfl rfl) ?_
        refine stepK_call_guard rfl rfl rfl rfl rfl rfl rfl rfl hst (law01_awake hst.agree hT) ?_
        clear hst
        intro v34 g34 w34 hst hle34 hcs34 hp34
        replace hT := hT.mono hle34
        obtain rfl := hp34
        refine stepK_d rfl rfl rfl hst (does_pick_true rfl rfl rfl) ?_
        refine stepK_d rfl rfl rfl hst (does_assign rfl rfl) ?_
        refine wpK_nil ?_
        refine cp_then ?_
        refine cp_ret ?_
        refine ret1 rfl rfl hst ?_
        first
        | rfl
        | simp_all

end Go.Proofs.YtbamjcfdlgnicaaDoor
