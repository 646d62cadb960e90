/- A helper of the claim: general lemmas and walks of functions, printed by a program of this session. Conditions: none. -/
import Derived.Test.YtbamjcfdlgnicaaDoorProg
import Derived.Lib.ItoaMem
import Derived.Lib.Builder
import Derived.Lib.AppendStr
import Derived.Lib.UnsafeStr
import Derived.Laws.BytesArg
import Derived.Lib.LaidTab
import Derived.Sort.Grow
import Derived.Deep.Draws
import Derived.Shelf.Strconv.Itoa3
import Derived.Test.YtbamjcfdlgnicaaDoorQ2
namespace Go.Proofs.YtbamjcfdlgnicaaDoor
open Go Go.RowKit Go.Proofs.Vc
set_option linter.unusedVariables false
set_option linter.unusedSimpArgs false

set_option maxHeartbeats 1000000 in
theorem Rat_low {g : Mem} {w : World} (hag : Agree g w) {p q : Int} {a : Option Addr} {r : Rat} (ha : LowR p q r) :
    CallTo Tryd.prog 44 #[.agg #[.int .i64 p, .int .i64 q, .pointer a]] w (Ret w g fun v g => v = .tuple #[.int .i64 r.num, .int .i64 (r.den : Int)]) := by
  refine CallTo.enter (vs := [.agg #[.int .i64 p, .int .i64 q, .pointer a]]) (by kernel_rfl : Tryd.prog.funcs[44]? = some Tryd.f44) (by kernel_rfl) rfl rfl rfl ?_
  have hst := St.init hag
  refine cp_seq ?_
  refine cp_region ?_
  refine stepK_box rfl rfl rfl rfl rfl rfl hst ?_
  clear hst
  intro b1 w1 hst
  refine stepK_d rfl rfl rfl hst (does_assign rfl rfl) ?_
  refine stepK_d rfl rfl rfl hst (does_assign rfl rfl) ?_
  refine wpK_nil ?_
  refine cp_then ?_
  refine cp_seq ?_
  refine cp_seq ?_
  refine cp_region ?_
  refine stepK_d rfl rfl rfl hst (does_fieldAddr rfl (by kernel_rfl : fieldOf Tryd.prog 41 1 = some (1, 0 + 1, false)) rfl) ?_
  refine stepK_d rfl rfl rfl hst (does_load_ownL 0 rfl (by kernel_rfl) rfl rfl rfl) ?_
  refine stepK_d rfl rfl rfl hst (does_eql rfl rfl rfl) ?_
  refine wpK_nil ?_
  refine cp_then ?_
  refine cp_if rfl ?_ ?_
  · intro c6
    refine cp_seq ?_
    refine cp_region ?_
    refine stepK_d rfl rfl rfl hst (does_fieldAddr rfl (by kernel_rfl : fieldOf Tryd.prog 41 0 = some (0, 0 + 1, false)) rfl) ?_
    refine stepK_d rfl rfl rfl hst (does_load_ownL 0 rfl (by kernel_rfl) rfl rfl rfl) ?_
    refine stepK_d rfl rfl rfl hst (does_assign rfl rfl) ?_
    refine stepK_d rfl rfl rfl hst (does_assign rfl rfl) ?_
    refine wpK_nil ?_
    refine cp_then ?_
    refine cp_ret ?_
    refine at_then_ret ?_
    refine ret2 rfl rfl rfl hst ?_
    obtain ⟨h1, h2⟩ := ha.q0 c6
    subst h1 h2
    rfl
  · intro c6
    refine cp_skip ?_
    refine cp_then ?_
    refine cp_seq ?_
    refine cp_drawn (by kernel_rfl) 6 [(0, true), (1, true), (2, true), (3, true), (4, true), (5, true)] _ rfl (by kernel_rfl) (by kernel_rfl) (by kernel_rfl) (fun _ _ _ _ _ h => h) _ (hst.drew) ?_
    have hst0 := hst.drew
    clear hst
    have hst := hst0
    refine stepD_d rfl rfl rfl rfl (does_fieldAddr rfl (by kernel_rfl : fieldOf Tryd.prog 41 0 = some (0, 0 + 1, false)) rfl) ?_
    refine stepD_d rfl rfl rfl rfl (does_load_ownL 0 rfl (by kernel_rfl) rfl rfl rfl) ?_
    refine stepD_d rfl rfl rfl rfl (does_fieldAddr rfl (by kernel_rfl : fieldOf Tryd.prog 41 1 = some (1, 0 + 1, false)) rfl) ?_
    refine stepD_d rfl rfl rfl rfl (does_load_ownL 0 rfl (by kernel_rfl) rfl rfl rfl) ?_
    refine stepD_d rfl rfl rfl rfl (does_assign rfl rfl) ?_
    refine stepD_d rfl rfl rfl rfl (does_assign rfl rfl) ?_
    refine stepD_tail ?_
    refine wpK_nil ?_
    refine cp_then ?_
    refine cp_ret ?_
    refine ret2 rfl rfl rfl hst ?_
    obtain ⟨h1, h2⟩ := ha.q1 c6
    rw [h1, h2]

set_option maxHeartbeats 1000000 in
theorem num_magnitude {g : Mem} {w : World} (hag : Agree g w) {n : Int} (h1 : -9223372036854775808 ≤ n) (h2 : n ≤ 9223372036854775807) :
    CallTo Tryd.prog 54 #[.int .i64 n] w (Ret w g fun v g => v = .int .u64 ((n.natAbs : Nat) : Int)) := by
  refine CallTo.enter (vs := [.int .i64 n]) (by kernel_rfl : Tryd.prog.funcs[54]? = some Tryd.f54) (by kernel_rfl) rfl rfl rfl ?_
  have hst := St.init hag
  refine cp_seq ?_
  refine cp_region ?_
  refine stepK_d rfl rfl rfl hst (does_assign rfl rfl) ?_
  refine wpK_nil ?_
  refine cp_then ?_
  refine cp_seq ?_
  refine cp_seq ?_
  refine cp_region ?_
  refine stepK_d rfl rfl rfl hst (does_move rfl rfl) ?_
  refine stepK_d rfl rfl rfl hst (does_lss rfl rfl rfl) ?_
  refine wpK_nil ?_
  refine cp_then ?_
  refine cp_if rfl ?_ ?_
  · intro c4
    refine cp_seq ?_
    refine cp_region ?_
    refine stepK_d rfl rfl rfl hst (does_move rfl rfl) ?_
    refine stepK_d rfl rfl rfl hst (does_neg rfl rfl) ?_
    refine stepK_d rfl rfl rfl hst (Does.int (does_conv rfl (by kernel_rfl) (by kernel_rfl) rfl) (u64_magnitude h1 c4)) ?_
    refine stepK_d rfl rfl rfl hst (does_assign rfl rfl) ?_
    refine wpK_nil ?_
    refine cp_then ?_
    refine cp_ret ?_
    refine at_then_ret ?_
    refine ret1 rfl rfl hst ?_
    rfl
  · intro c4
    refine cp_skip ?_
    refine cp_then ?_
    refine cp_seq ?_
    refine cp_region ?_
    refine stepK_d rfl rfl rfl hst (does_move rfl rfl) ?_
    refine stepK_d rfl rfl rfl hst (Does.int (does_conv rfl (by kernel_rfl) (by kernel_rfl) rfl) (show _ = ((n.natAbs : Nat) : Int) by rw [IntKind.wrap_u64]; omega)) ?_
    refine stepK_d rfl rfl rfl hst (does_assign rfl rfl) ?_
    refine wpK_nil ?_
    refine cp_then ?_
    refine cp_ret ?_
    refine ret1 rfl rfl hst ?_
    rfl

set_option maxHeartbeats 1000000 in
theorem num_lowest {g : Mem} {w : World} (hag : Agree g w) {neg : Bool} {A B : Option Addr} {n c m d N M : Nat} (ha : IsNat g A n N) (hb : IsNat g B m M) (hM : 0 < M) (hc : Nat.gcd N M = 1) :
    CallTo Tryd.prog 41 #[.bool neg, .slice A n c, .slice B m d] w (Ret w g fun v g => ∃ p q a, v = .agg #[.int .i64 p, .int .i64 q, .pointer a] ∧ IsRat g p q a (mkRat (sg neg N) M)) := by
  refine CallTo.enter (vs := [.bool neg, .slice A n c, .slice B m d]) (by kernel_rfl : Tryd.prog.funcs[41]? = some Tryd.f41) (by kernel_rfl) rfl rfl rfl ?_
  have hst := St.init hag
  refine cp_seq ?_
  refine cp_region ?_
  refine stepK_alloc rfl rfl rfl rfl (by kernel_rfl : zeroOf Tryd.prog 41 = some (.agg #[.int .i64 0, .int .i64 0, .pointer none])) rfl hst ?_
  clear hst
  intro b1 w1 hst
  refine wpK_nil ?_
  refine cp_then ?_
  refine cp_seq ?_
  refine cp_seq ?_
  refine cp_region ?_
  refine stepK_d rfl rfl rfl hst (does_move rfl rfl) ?_
  refine stepK_d rfl rfl rfl hst (does_len_slice rfl (by kernel_rfl : Program.underlying Tryd.prog 64 = some (.slice 66)) rfl) ?_
  refine stepK_d rfl rfl rfl hst (does_eql rfl rfl rfl) ?_
  refine wpK_nil ?_
  refine cp_then ?_
  refine cp_if rfl ?_ ?_
  · intro c10
    obtain rfl : N = 0 := ha.zero_iff.1 (by omega)
    refine cp_seq ?_
    refine cp_region ?_
    refine stepK_d rfl rfl rfl hst (does_build rfl (by kernel_rfl : layOf Tryd.prog 41 = some ([(0, 1), (1, 1), (2, 1)], [.int .i64 0, .int .i64 0, .pointer none])) rfl rfl) ?_
    refine stepK_store 0 rfl rfl rfl rfl rfl rfl (by kernel_rfl : sizeB Tryd.prog 41 = some 3) rfl rfl hst rfl (by first | (simp [uN_length]; omega) | simp) ?_
    clear hst
    intro w2 hst
    simp only [List.nil_append, List.cons_append, List.set_cons_zero, List.set_cons_succ, splice, List.toList_toArray, List.take_zero, List.take_succ_cons, List.take_nil, List.drop_zero, List.drop_succ_cons, List.drop_nil, List.length_cons, List.length_nil, Nat.zero_add, Nat.add_zero, Nat.reduceAdd, List.append_nil] at hst
    refine wpK_nil ?_
    refine cp_then ?_
    refine cp_ret ?_
    refine at_then_ret ?_
    refine ret1c (k := 0) rfl rfl (by kernel_rfl) (by kernel_rfl) rfl hst rfl ?_
    exact ⟨_, _, _, rfl, IsRat.mk_zero _ _ _⟩
  · intro c10
    have hN0 : 0 < N := Nat.pos_of_ne_zero fun e => by have := ha.zero_iff.2 e; omega
    refine cp_skip ?_
    refine cp_then ?_
    refine cp_seq ?_
    refine cp_seq ?_
    refine cp_region ?_
    refine stepK_d rfl rfl rfl hst (does_move rfl rfl) ?_
    refine stepK_d rfl rfl rfl hst (does_len_slice rfl (by kernel_rfl : Program.underlying Tryd.prog 64 = some (.slice 66)) rfl) ?_
    refine stepK_d rfl rfl rfl hst (does_eql rfl rfl rfl) ?_
    refine stepK_d rfl rfl rfl hst (does_move rfl rfl) ?_
    refine wpK_split (t := 15) rfl ?_ ?_
    · intro s15
      refine stepK_guard rfl rfl rfl rfl rfl rfl hst (does_move rfl rfl) ?_
      refine stepK_guard rfl rfl rfl rfl rfl rfl hst (does_len_slice rfl (by kernel_rfl : Program.underlying Tryd.prog 64 = some (.slice 66)) rfl) ?_
      refine stepK_guard rfl rfl rfl rfl rfl rfl hst (does_eql rfl rfl rfl) ?_
      refine stepK_d rfl rfl rfl hst (does_pick_true rfl rfl rfl) ?_
      refine stepK_d rfl rfl rfl hst (does_move rfl rfl) ?_
      refine wpK_split (t := 20) rfl ?_ ?_
      · intro s20
        obtain rfl : n = 1 := by omega
        obtain ⟨b1, o1, rfl, hNl, hcN⟩ := ha.word
        refine stepK_guard rfl rfl rfl rfl rfl rfl hst (does_move rfl rfl) ?_
        refine stepK_guard rfl rfl rfl rfl rfl rfl hst (does_indexAddr1 rfl (by kernel_rfl : Program.underlying Tryd.prog 64 = some (.slice 66)) (by kernel_rfl) rfl rfl rfl (by decide)) ?_
        refine stepK_guard rfl rfl rfl rfl rfl rfl hst (does_load_g1 rfl (by kernel_rfl) rfl hcN) ?_
        refine stepK_guard rfl rfl rfl rfl rfl rfl hst (does_lss_n (b := 2147483648) rfl rfl rfl) ?_
        refine stepK_d rfl rfl rfl hst (does_pick_true rfl rfl rfl) ?_
        refine stepK_d rfl rfl rfl hst (does_move rfl rfl) ?_
        refine wpK_split (t := 26) rfl ?_ ?_
        · intro s26
          obtain rfl : m = 1 := by omega
          obtain ⟨b2, o2, rfl, hMl, hcM⟩ := hb.word
          refine stepK_guard rfl rfl rfl rfl rfl rfl hst (does_move rfl rfl) ?_
          refine stepK_guard rfl rfl rfl rfl rfl rfl hst (does_indexAddr1 rfl (by kernel_rfl : Program.underlying Tryd.prog 64 = some (.slice 66)) (by kernel_rfl) rfl rfl rfl (by decide)) ?_
          refine stepK_guard rfl rfl rfl rfl rfl rfl hst (does_load_g1 rfl (by kernel_rfl) rfl hcM) ?_
          refine stepK_guard rfl rfl rfl rfl rfl rfl hst (does_lss_n (b := 2147483648) rfl rfl rfl) ?_
          refine stepK_d rfl rfl rfl hst (does_pick_true rfl rfl rfl) ?_
          refine wpK_nil ?_
          refine cp_then ?_
          refine cp_if rfl ?_ ?_
          · intro c31
            refine cp_seq ?_
            refine cp_drawn (by kernel_rfl) 10 [(0, true), (1, true), (2, true), (3, true), (4, true), (5, true), (6, true), (7, true), (8, true), (9, false)] _ rfl (by kernel_rfl) (by kernel_rfl) (by kernel_rfl) (fun _ _ _ _ _ h => h) _ (hst.drew) ?_
            have hst0 := hst.drew
            clear hst
            have hst := hst0
            refine stepD_d rfl rfl rfl rfl (does_move rfl rfl) ?_
            refine stepD_d rfl rfl rfl rfl (does_indexAddr1 rfl (by kernel_rfl : Program.underlying Tryd.prog 64 = some (.slice 66)) (by kernel_rfl) rfl rfl rfl (by decide)) ?_
            refine stepD_d rfl rfl rfl rfl (does_load_g1 rfl (by kernel_rfl) rfl hcN) ?_
            refine stepD_d rfl rfl rfl rfl (does_conv_n_i64 rfl (by kernel_rfl) (by kernel_rfl) rfl (by omega)) ?_
            refine stepD_d rfl rfl rfl rfl (does_move rfl rfl) ?_
            refine stepD_d rfl rfl rfl rfl (does_indexAddr1 rfl (by kernel_rfl : Program.underlying Tryd.prog 64 = some (.slice 66)) (by kernel_rfl) rfl rfl rfl (by decide)) ?_
            refine stepD_d rfl rfl rfl rfl (does_load_g1 rfl (by kernel_rfl) rfl hcM) ?_
            refine stepD_d rfl rfl rfl rfl (does_conv_n_i64 rfl (by kernel_rfl) (by kernel_rfl) rfl (by omega)) ?_
            refine stepD_d rfl rfl rfl rfl (does_build rfl (by kernel_rfl : layOf Tryd.prog 41 = some ([(0, 1), (1, 1), (2, 1)], [.int .i64 0, .int .i64 0, .pointer none])) rfl rfl) ?_
            refine stepD_alloc rfl rfl rfl rfl rfl (by kernel_rfl : zeroOf Tryd.prog 41 = some (.agg #[.int .i64 0, .int .i64 0, .pointer none])) rfl hst (keep_alloc hst0 (Mem.le.refl _) (by simp)) ?_
            clear hst
            intro b3 w3 hst
            refine stepD_tail ?_
            refine stepK_store 1 rfl rfl rfl rfl rfl rfl (by kernel_rfl : sizeB Tryd.prog 41 = some 3) rfl rfl hst rfl (by first | (simp [uN_length]; omega) | simp) ?_
            clear hst
            intro w4 hst
            simp only [List.nil_append, List.cons_append, List.set_cons_zero, List.set_cons_succ, splice, List.toList_toArray, List.take_zero, List.take_succ_cons, List.take_nil, List.drop_zero, List.drop_succ_cons, List.drop_nil, List.length_cons, List.length_nil, Nat.zero_add, Nat.add_zero, Nat.reduceAdd, List.append_nil] at hst
            refine wpK_nil ?_
            refine cp_then ?_
            refine cp_seq ?_
            refine cp_seq ?_
            refine cp_region ?_
            refine stepK_d rfl rfl rfl hst (does_move rfl rfl) ?_
            refine wpK_nil ?_
            refine cp_then ?_
            refine cp_cond rfl ?_ ?_
            · intro c41
              refine cp_region ?_
              refine stepK_d rfl rfl rfl hst (does_fieldAddr rfl (by kernel_rfl : fieldOf Tryd.prog 41 0 = some (0, 0 + 1, false)) rfl) ?_
              refine stepK_d rfl rfl rfl hst (does_load_ownL 1 rfl (by kernel_rfl) rfl rfl rfl) ?_
              refine stepK_d rfl rfl rfl hst (Does.int (does_neg rfl rfl) (wrap_i64 (by omega) (by omega))) ?_
              refine stepK_d rfl rfl rfl hst (does_fieldAddr rfl (by kernel_rfl : fieldOf Tryd.prog 41 0 = some (0, 0 + 1, false)) rfl) ?_
              refine stepK_store 1 rfl rfl rfl rfl rfl rfl (by kernel_rfl : sizeB Tryd.prog 2 = some 1) rfl rfl hst rfl (by first | (simp [uN_length]; omega) | simp) ?_
              clear hst
              intro w5 hst
              simp only [List.nil_append, List.cons_append, List.set_cons_zero, List.set_cons_succ, splice, List.toList_toArray, List.take_zero, List.take_succ_cons, List.take_nil, List.drop_zero, List.drop_succ_cons, List.drop_nil, List.length_cons, List.length_nil, Nat.zero_add, Nat.add_zero, Nat.reduceAdd, List.append_nil] at hst
              refine wpK_nil ?_
              refine cp_then ?_
              refine cp_seq ?_
              refine cp_region ?_
              refine stepK_d rfl rfl rfl hst (does_load_ownN 1 rfl (by kernel_rfl) (by kernel_rfl : sizeB Tryd.prog 41 = some 3) rfl rfl rfl) ?_
              refine stepK_store 0 rfl rfl rfl rfl rfl rfl (by kernel_rfl : sizeB Tryd.prog 41 = some 3) rfl rfl hst rfl (by first | (simp [uN_length]; omega) | simp) ?_
              clear hst
              intro w6 hst
              simp only [List.nil_append, List.cons_append, List.set_cons_zero, List.set_cons_succ, splice, List.toList_toArray, List.take_zero, List.take_succ_cons, List.take_nil, List.drop_zero, List.drop_succ_cons, List.drop_nil, List.length_cons, List.length_nil, Nat.zero_add, Nat.add_zero, Nat.reduceAdd, List.append_nil] at hst
              refine wpK_nil ?_
              refine cp_then ?_
              refine cp_ret ?_
              refine at_then_ret ?_
              refine ret1c (k := 0) rfl rfl (by kernel_rfl) (by kernel_rfl) rfl hst rfl ?_
              have h9 := IsRat.mk_small (g := g) (b := neg) hM hc (by omega) (by omega)
              rw [c41] at h9 ⊢
              exact ⟨_, _, _, rfl, h9⟩
            · intro c41
              refine cp_skip ?_
              refine cp_then ?_
              refine cp_seq ?_
              refine cp_region ?_
              refine stepK_d rfl rfl rfl hst (does_load_ownN 1 rfl (by kernel_rfl) (by kernel_rfl : sizeB Tryd.prog 41 = some 3) rfl rfl rfl) ?_
              refine stepK_store 0 rfl rfl rfl rfl rfl rfl (by kernel_rfl : sizeB Tryd.prog 41 = some 3) rfl rfl hst rfl (by first | (simp [uN_length]; omega) | simp) ?_
              clear hst
              intro w7 hst
              simp only [List.nil_append, List.cons_append, List.set_cons_zero, List.set_cons_succ, splice, List.toList_toArray, List.take_zero, List.take_succ_cons, List.take_nil, List.drop_zero, List.drop_succ_cons, List.drop_nil, List.length_cons, List.length_nil, Nat.zero_add, Nat.add_zero, Nat.reduceAdd, List.append_nil] at hst
              refine wpK_nil ?_
              refine cp_then ?_
              refine cp_ret ?_
              refine at_then_ret ?_
              refine ret1c (k := 0) rfl rfl (by kernel_rfl) (by kernel_rfl) rfl hst rfl ?_
              have h9 := IsRat.mk_small (g := g) (b := neg) hM hc (by omega) (by omega)
              rw [c41] at h9 ⊢
              exact ⟨_, _, _, rfl, h9⟩
          · intro c31
            refine cp_skip ?_
            refine cp_then ?_
            refine cp_seq ?_
            refine cp_region ?_
            refine stepK_d rfl rfl rfl hst (does_move rfl rfl) ?_
            refine stepK_d rfl rfl rfl hst (does_move rfl rfl) ?_
            refine stepK_d rfl rfl rfl hst (does_move rfl rfl) ?_
            refine stepK_d rfl rfl rfl hst (does_build rfl (by kernel_rfl : layOf Tryd.prog 80 = some ([(0, 1), (1, 1), (2, 1)], [.bool false, .slice none 0 0, .slice none 0 0])) rfl rfl) ?_
            refine stepK_box rfl rfl rfl rfl rfl rfl hst ?_
            clear hst
            intro bx w8 hst
            refine stepK_d rfl rfl rfl hst (does_build rfl (by kernel_rfl : layOf Tryd.prog 41 = some ([(0, 1), (1, 1), (2, 1)], [.int .i64 0, .int .i64 0, .pointer none])) rfl rfl) ?_
            refine stepK_store 0 rfl rfl rfl rfl rfl rfl (by kernel_rfl : sizeB Tryd.prog 41 = some 3) rfl rfl hst rfl (by first | (simp [uN_length]; omega) | simp) ?_
            clear hst
            intro w9 hst
            simp only [List.nil_append, List.cons_append, List.set_cons_zero, List.set_cons_succ, splice, List.toList_toArray, List.take_zero, List.take_succ_cons, List.take_nil, List.drop_zero, List.drop_succ_cons, List.drop_nil, List.length_cons, List.length_nil, Nat.zero_add, Nat.add_zero, Nat.reduceAdd, List.append_nil] at hst
            refine wpK_nil ?_
            refine cp_then ?_
            refine cp_ret ?_
            have hbig : ¬ (N < 2147483648 ∧ M < 2147483648) := fun hh => by
              have e1 := ha.small1 hN0 hh.1
              have e2 := hb.small1 hM hh.2
              omega
            have hgn := hst.own_none 1 rfl
            obtain ⟨hst, hle9⟩ := hst.publish 1 rfl
            refine ret1c (k := 0) rfl rfl (by kernel_rfl) (by kernel_rfl) rfl hst rfl ?_
            exact ⟨_, _, _, rfl, IsRat.mk_big hgn ha hb hN0 hM hc hbig⟩
        · intro s26
          refine stepK_pass rfl rfl rfl rfl rfl rfl rfl ?_
          refine stepK_pass rfl rfl rfl rfl rfl rfl rfl ?_
          refine stepK_pass rfl rfl rfl rfl rfl rfl rfl ?_
          refine stepK_pass rfl rfl rfl rfl rfl rfl rfl ?_
          refine stepK_d rfl rfl rfl hst (does_pick_false rfl rfl rfl) ?_
          refine wpK_nil ?_
          refine cp_then ?_
          refine cp_cond_false rfl ?_
          refine cp_skip ?_
          refine cp_then ?_
          refine cp_seq ?_
          refine cp_region ?_
          refine stepK_d rfl rfl rfl hst (does_move rfl rfl) ?_
          refine stepK_d rfl rfl rfl hst (does_move rfl rfl) ?_
          refine stepK_d rfl rfl rfl hst (does_move rfl rfl) ?_
          refine stepK_d rfl rfl rfl hst (does_build rfl (by kernel_rfl : layOf Tryd.prog 80 = some ([(0, 1), (1, 1), (2, 1)], [.bool false, .slice none 0 0, .slice none 0 0])) rfl rfl) ?_
          refine stepK_box rfl rfl rfl rfl rfl rfl hst ?_
          clear hst
          intro bx w10 hst
          refine stepK_d rfl rfl rfl hst (does_build rfl (by kernel_rfl : layOf Tryd.prog 41 = some ([(0, 1), (1, 1), (2, 1)], [.int .i64 0, .int .i64 0, .pointer none])) rfl rfl) ?_
          refine stepK_store 0 rfl rfl rfl rfl rfl rfl (by kernel_rfl : sizeB Tryd.prog 41 = some 3) rfl rfl hst rfl (by first | (simp [uN_length]; omega) | simp) ?_
          clear hst
          intro w11 hst
          simp only [List.nil_append, List.cons_append, List.set_cons_zero, List.set_cons_succ, splice, List.toList_toArray, List.take_zero, List.take_succ_cons, List.take_nil, List.drop_zero, List.drop_succ_cons, List.drop_nil, List.length_cons, List.length_nil, Nat.zero_add, Nat.add_zero, Nat.reduceAdd, List.append_nil] at hst
          refine wpK_nil ?_
          refine cp_then ?_
          refine cp_ret ?_
          have hbig : ¬ (N < 2147483648 ∧ M < 2147483648) := fun hh => by
            have e1 := ha.small1 hN0 hh.1
            have e2 := hb.small1 hM hh.2
            omega
          have hgn := hst.own_none 1 rfl
          obtain ⟨hst, hle9⟩ := hst.publish 1 rfl
          refine ret1c (k := 0) rfl rfl (by kernel_rfl) (by kernel_rfl) rfl hst rfl ?_
          exact ⟨_, _, _, rfl, IsRat.mk_big hgn ha hb hN0 hM hc hbig⟩
      · intro s20
        refine stepK_pass rfl rfl rfl rfl rfl rfl rfl ?_
        refine stepK_pass rfl rfl rfl rfl rfl rfl rfl ?_
        refine stepK_pass rfl rfl rfl rfl rfl rfl rfl ?_
        refine stepK_pass rfl rfl rfl rfl rfl rfl rfl ?_
        refine stepK_d rfl rfl rfl hst (does_pick_false rfl rfl rfl) ?_
        refine stepK_d rfl rfl rfl hst (does_move rfl rfl) ?_
        refine stepK_pass rfl rfl rfl rfl rfl rfl rfl ?_
        refine stepK_pass rfl rfl rfl rfl rfl rfl rfl ?_
        refine stepK_pass rfl rfl rfl rfl rfl rfl rfl ?_
        refine stepK_pass rfl rfl rfl rfl rfl rfl rfl ?_
        refine stepK_d rfl rfl rfl hst (does_pick_false rfl rfl rfl) ?_
        refine wpK_nil ?_
        refine cp_then ?_
        refine cp_cond_false rfl ?_
        refine cp_skip ?_
        refine cp_then ?_
        refine cp_seq ?_
        refine cp_region ?_
        refine stepK_d rfl rfl rfl hst (does_move rfl rfl) ?_
        refine stepK_d rfl rfl rfl hst (does_move rfl rfl) ?_
        refine stepK_d rfl rfl rfl hst (does_move rfl rfl) ?_
        refine stepK_d rfl rfl rfl hst (does_build rfl (by kernel_rfl : layOf Tryd.prog 80 = some ([(0, 1), (1, 1), (2, 1)], [.bool false, .slice none 0 0, .slice none 0 0])) rfl rfl) ?_
        refine stepK_box rfl rfl rfl rfl rfl rfl hst ?_
        clear hst
        intro bx w12 hst
        refine stepK_d rfl rfl rfl hst (does_build rfl (by kernel_rfl : layOf Tryd.prog 41 = some ([(0, 1), (1, 1), (2, 1)], [.int .i64 0, .int .i64 0, .pointer none])) rfl rfl) ?_
        refine stepK_store 0 rfl rfl rfl rfl rfl rfl (by kernel_rfl : sizeB Tryd.prog 41 = some 3) rfl rfl hst rfl (by first | (simp [uN_length]; omega) | simp) ?_
        clear hst
        intro w13 hst
        simp only [List.nil_append, List.cons_append, List.set_cons_zero, List.set_cons_succ, splice, List.toList_toArray, List.take_zero, List.take_succ_cons, List.take_nil, List.drop_zero, List.drop_succ_cons, List.drop_nil, List.length_cons, List.length_nil, Nat.zero_add, Nat.add_zero, Nat.reduceAdd, List.append_nil] at hst
        refine wpK_nil ?_
        refine cp_then ?_
        refine cp_ret ?_
        have hbig : ¬ (N < 2147483648 ∧ M < 2147483648) := fun hh => by
          have e1 := ha.small1 hN0 hh.1
          have e2 := hb.small1 hM hh.2
          omega
        have hgn := hst.own_none 1 rfl
        obtain ⟨hst, hle9⟩ := hst.publish 1 rfl
        refine ret1c (k := 0) rfl rfl (by kernel_rfl) (by kernel_rfl) rfl hst rfl ?_
        exact ⟨_, _, _, rfl, IsRat.mk_big hgn ha hb hN0 hM hc hbig⟩
    · intro s15
      refine stepK_pass rfl rfl rfl rfl rfl rfl rfl ?_
      refine stepK_pass rfl rfl rfl rfl rfl rfl rfl ?_
      refine stepK_pass rfl rfl rfl rfl rfl rfl rfl ?_
      refine stepK_d rfl rfl rfl hst (does_pick_false rfl rfl rfl) ?_
      refine stepK_d rfl rfl rfl hst (does_move rfl rfl) ?_
      refine stepK_pass rfl rfl rfl rfl rfl rfl rfl ?_
      refine stepK_pass rfl rfl rfl rfl rfl rfl rfl ?_
      refine stepK_pass rfl rfl rfl rfl rfl rfl rfl ?_
      refine stepK_pass rfl rfl rfl rfl rfl rfl rfl ?_
      refine stepK_d rfl rfl rfl hst (does_pick_false rfl rfl rfl) ?_
      refine stepK_d rfl rfl rfl hst (does_move rfl rfl) ?_
      refine stepK_pass rfl rfl rfl rfl rfl rfl rfl ?_
      refine stepK_pass rfl rfl rfl rfl rfl rfl rfl ?_
      refine stepK_pass rfl rfl rfl rfl rfl rfl rfl ?_
      refine stepK_pass rfl rfl rfl rfl rfl rfl rfl ?_
      refine stepK_d rfl rfl rfl hst (does_pick_false rfl rfl rfl) ?_
      refine wpK_nil ?_
      refine cp_then ?_
      refine cp_cond_false rfl ?_
      refine cp_skip ?_
      refine cp_then ?_
      refine cp_seq ?_
      refine cp_region ?_
      refine stepK_d rfl rfl rfl hst (does_move rfl rfl) ?_
      refine stepK_d rfl rfl rfl hst (does_move rfl rfl) ?_
      refine stepK_d rfl rfl rfl hst (does_move rfl rfl) ?_
      refine stepK_d rfl rfl rfl hst (does_build rfl (by kernel_rfl : layOf Tryd.prog 80 = some ([(0, 1), (1, 1), (2, 1)], [.bool false, .slice none 0 0, .slice none 0 0])) rfl rfl) ?_
      refine stepK_box rfl rfl rfl rfl rfl rfl hst ?_
      clear hst
      intro bx w14 hst
      refine stepK_d rfl rfl rfl hst (does_build rfl (by kernel_rfl : layOf Tryd.prog 41 = some ([(0, 1), (1, 1), (2, 1)], [.int .i64 0, .int .i64 0, .pointer none])) rfl rfl) ?_
      refine stepK_store 0 rfl rfl rfl rfl rfl rfl (by kernel_rfl : sizeB Tryd.prog 41 = some 3) rfl rfl hst rfl (by first | (simp [uN_length]; omega) | simp) ?_
      clear hst
      intro w15 hst
      simp only [List.nil_append, List.cons_append, List.set_cons_zero, List.set_cons_succ, splice, List.toList_toArray, List.take_zero, List.take_succ_cons, List.take_nil, List.drop_zero, List.drop_succ_cons, List.drop_nil, List.length_cons, List.length_nil, Nat.zero_add, Nat.add_zero, Nat.reduceAdd, List.append_nil] at hst
      refine wpK_nil ?_
      refine cp_then ?_
      refine cp_ret ?_
      have hbig : ¬ (N < 2147483648 ∧ M < 2147483648) := fun hh => by
        have e1 := ha.small1 hN0 hh.1
        have e2 := hb.small1 hM hh.2
        omega
      have hgn := hst.own_none 1 rfl
      obtain ⟨hst, hle9⟩ := hst.publish 1 rfl
      refine ret1c (k := 0) rfl rfl (by kernel_rfl) (by kernel_rfl) rfl hst rfl ?_
      exact ⟨_, _, _, rfl, IsRat.mk_big hgn ha hb hN0 hM hc hbig⟩

end Go.Proofs.YtbamjcfdlgnicaaDoor

namespace Go.Proofs.YtbamjcfdlgnicaaDoor
open Go Go.RowKit Go.Proofs.Vc
set_option linter.unusedVariables false
set_option linter.unusedSimpArgs false

set_option maxHeartbeats 1000000 in
theorem Rat_Sign {g : Mem} {w : World} (hag : Agree g w) {p q : Int} {a : Option Addr} {r : Rat} (ha : IsRat g p q a r) :
    CallTo Tryd.prog 34 #[.agg #[.int .i64 p, .int .i64 q, .pointer a]] w (Ret w g fun v g => v = .int .i64 r.num.sign) := by
  refine CallTo.enter (vs := [.agg #[.int .i64 p, .int .i64 q, .pointer a]]) (by kernel_rfl : Tryd.prog.funcs[34]? = some Tryd.f34) (by kernel_rfl) rfl rfl rfl ?_
  have hst := St.init hag
  refine cp_seq ?_
  refine cp_region ?_
  refine stepK_box rfl rfl rfl rfl rfl rfl hst ?_
  clear hst
  intro b1 w1 hst
  refine stepK_d rfl rfl rfl hst (does_assign rfl rfl) ?_
  refine wpK_nil ?_
  refine cp_then ?_
  refine cp_seq ?_
  refine cp_block ?_
  refine cp_seq ?_
  refine cp_region ?_
  refine stepK_d rfl rfl rfl hst (does_fieldAddr rfl (by kernel_rfl : fieldOf Tryd.prog 41 2 = some (2, 0 + 1, false)) rfl) ?_
  refine stepK_d rfl rfl rfl hst (does_load_ownL 0 rfl (by kernel_rfl) rfl rfl rfl) ?_
  refine stepK_d rfl rfl rfl hst (does_neq_nilD rfl (by kernel_rfl : Program.underlying Tryd.prog 39 = some (.pointer 80)) rfl rfl) ?_
  refine stepK_d rfl rfl rfl hst (does_assign rfl rfl) ?_
  refine wpK_nil ?_
  refine cp_then ?_
  refine cp_if rfl ?_ ?_
  · intro c3
    obtain ⟨rfl, rfl, bl, rfl, hb9⟩ := ha.big c3
    have hn0 := hb9.num0
    obtain ⟨hs, A, n, c, B, m, d, e0, e1, e2, e3, e4⟩ := hb9
    refine cp_seq ?_
    refine cp_seq ?_
    refine cp_region ?_
    refine stepK_d rfl rfl rfl hst (does_fieldAddr rfl (by kernel_rfl : fieldOf Tryd.prog 41 2 = some (2, 0 + 1, false)) rfl) ?_
    refine stepK_d rfl rfl rfl hst (does_load_ownL 0 rfl (by kernel_rfl) rfl rfl rfl) ?_
    refine stepK_d rfl rfl rfl hst (does_nilCheck rfl rfl) ?_
    refine stepK_d rfl rfl rfl hst (does_fieldAddr rfl (by kernel_rfl : fieldOf Tryd.prog 80 0 = some (0, 0 + 1, false)) rfl) ?_
    refine stepK_d rfl rfl rfl hst (does_load_g1 rfl (by kernel_rfl) rfl e0) ?_
    refine wpK_nil ?_
    refine cp_then ?_
    refine cp_if rfl ?_ ?_
    · intro c11
      refine cp_seq ?_
      refine cp_region ?_
      refine stepK_d rfl rfl rfl hst (does_assign rfl rfl) ?_
      refine wpK_nil ?_
      refine cp_then ?_
      refine cp_ret ?_
      refine at_then_ret ?_
      refine at_block_ret ?_
      refine at_then_ret ?_
      refine ret1 rfl rfl hst ?_
      rw [Int.sign_eq_neg_one_of_neg c11]
    · intro c11
      refine cp_skip ?_
      refine cp_then ?_
      refine cp_seq ?_
      refine cp_region ?_
      refine stepK_d rfl rfl rfl hst (does_assign rfl rfl) ?_
      refine wpK_nil ?_
      refine cp_then ?_
      refine cp_ret ?_
      refine at_block_ret ?_
      refine at_then_ret ?_
      refine ret1 rfl rfl hst ?_
      rw [Int.sign_eq_one_of_pos (by omega)]
  · intro c3
    obtain rfl : a = none := Decidable.byContradiction c3
    obtain ⟨hl1, hl2, hl3⟩ := ha.low
    refine cp_seq ?_
    refine cp_region ?_
    refine stepK_d rfl rfl rfl hst (does_fieldAddr rfl (by kernel_rfl : fieldOf Tryd.prog 41 0 = some (0, 0 + 1, false)) rfl) ?_
    refine stepK_d rfl rfl rfl hst (does_load_ownL 0 rfl (by kernel_rfl) rfl rfl rfl) ?_
    refine stepK_d rfl rfl rfl hst (does_lss rfl rfl rfl) ?_
    refine stepK_d rfl rfl rfl hst (does_assign rfl rfl) ?_
    refine wpK_nil ?_
    refine cp_then ?_
    refine cp_if rfl ?_ ?_
    · intro c12
      refine cp_seq ?_
      refine cp_region ?_
      refine stepK_d rfl rfl rfl hst (does_assign rfl rfl) ?_
      refine wpK_nil ?_
      refine cp_then ?_
      refine cp_ret ?_
      refine at_block_ret ?_
      refine at_then_ret ?_
      refine ret1 rfl rfl hst ?_
      rw [Int.sign_eq_neg_one_of_neg (by omega)]
    · intro c12
      refine cp_seq ?_
      refine cp_region ?_
      refine stepK_d rfl rfl rfl hst (does_fieldAddr rfl (by kernel_rfl : fieldOf Tryd.prog 41 0 = some (0, 0 + 1, false)) rfl) ?_
      refine stepK_d rfl rfl rfl hst (does_load_ownL 0 rfl (by kernel_rfl) rfl rfl rfl) ?_
      refine stepK_d rfl rfl rfl hst (does_gtr rfl rfl rfl) ?_
      refine stepK_d rfl rfl rfl hst (does_assign rfl rfl) ?_
      refine wpK_nil ?_
      refine cp_then ?_
      refine cp_if rfl ?_ ?_
      · intro c16
        refine cp_seq ?_
        refine cp_region ?_
        refine stepK_d rfl rfl rfl hst (does_assign rfl rfl) ?_
        refine wpK_nil ?_
        refine cp_then ?_
        refine cp_ret ?_
        refine at_block_ret ?_
        refine at_then_ret ?_
        refine ret1 rfl rfl hst ?_
        rw [Int.sign_eq_one_of_pos (by omega)]
      · intro c16
        refine cp_skip ?_
        refine at_block_normal ?_
        refine cp_then ?_
        refine cp_seq ?_
        refine cp_region ?_
        refine stepK_d rfl rfl rfl hst (does_assign rfl rfl) ?_
        refine wpK_nil ?_
        refine cp_then ?_
        refine cp_ret ?_
        refine ret1 rfl rfl hst ?_
        rw [show r.num = 0 by omega]
        rfl

set_option maxHeartbeats 1000000 in
theorem Rat_Zero {g : Mem} {w : World} (hag : Agree g w) {p q : Int} {a : Option Addr} {r : Rat} (ha : IsRat g p q a r) :
    CallTo Tryd.prog 27 #[.agg #[.int .i64 p, .int .i64 q, .pointer a]] w (Ret w g fun v g => v = .bool (decide (r = 0))) := by
  refine CallTo.enter (vs := [.agg #[.int .i64 p, .int .i64 q, .pointer a]]) (by kernel_rfl : Tryd.prog.funcs[27]? = some Tryd.f27) (by kernel_rfl) rfl rfl rfl ?_
  have hst := St.init hag
  refine cp_seq ?_
  refine cp_region ?_
  refine stepK_box rfl rfl rfl rfl rfl rfl hst ?_
  clear hst
  intro b1 w1 hst
  refine stepK_d rfl rfl rfl hst (does_assign rfl rfl) ?_
  refine wpK_nil ?_
  refine cp_then ?_
  refine cp_seq ?_
  refine cp_region ?_
  refine stepK_d rfl rfl rfl hst (does_fieldAddr rfl (by kernel_rfl : fieldOf Tryd.prog 41 2 = some (2, 0 + 1, false)) rfl) ?_
  refine stepK_d rfl rfl rfl hst (does_load_ownL 0 rfl (by kernel_rfl) rfl rfl rfl) ?_
  refine stepK_d rfl rfl rfl hst (does_eql_nilD rfl (by kernel_rfl : Program.underlying Tryd.prog 39 = some (.pointer 80)) rfl rfl) ?_
  refine stepK_d rfl rfl rfl hst (does_move rfl rfl) ?_
  refine wpK_split (t := 6) rfl ?_ ?_
  · intro s6
    obtain rfl : a = none := s6
    obtain ⟨hl1, hl2, hl3⟩ := ha.low
    refine stepK_guard rfl rfl rfl rfl rfl rfl hst (does_fieldAddr rfl (by kernel_rfl : fieldOf Tryd.prog 41 0 = some (0, 0 + 1, false)) rfl) ?_
    refine stepK_guard rfl rfl rfl rfl rfl rfl hst (does_load_ownL 0 rfl (by kernel_rfl) rfl rfl rfl) ?_
    refine stepK_guard rfl rfl rfl rfl rfl rfl hst (does_eql rfl rfl rfl) ?_
    refine stepK_d rfl rfl rfl hst (does_pick_true rfl rfl rfl) ?_
    refine stepK_d rfl rfl rfl hst (does_assign rfl rfl) ?_
    refine wpK_nil ?_
    refine cp_then ?_
    refine cp_ret ?_
    refine ret1 rfl rfl hst ?_
    rw [hl2]
    congr 1
    exact decide_eq_decide.2 rat_zero_iff
  · intro s6
    obtain ⟨_, _, bl, _, hb9⟩ := ha.big s6
    have hn0 := hb9.num0
    refine stepK_pass rfl rfl rfl rfl rfl rfl rfl ?_
    refine stepK_pass rfl rfl rfl rfl rfl rfl rfl ?_
    refine stepK_pass rfl rfl rfl rfl rfl rfl rfl ?_
    refine stepK_d rfl rfl rfl hst (does_pick_false rfl rfl rfl) ?_
    refine stepK_d rfl rfl rfl hst (does_assign rfl rfl) ?_
    refine wpK_nil ?_
    refine cp_then ?_
    refine cp_ret ?_
    refine ret1 rfl rfl hst ?_
    rw [decide_eq_false fun e => hn0 (rat_zero_iff.2 e)]

set_option maxHeartbeats 1000000 in
theorem Rat_Neg {g : Mem} {w : World} (hag : Agree g w) {p q : Int} {a : Option Addr} {r : Rat} (ha : IsRat g p q a r) :
    CallTo Tryd.prog 43 #[.agg #[.int .i64 p, .int .i64 q, .pointer a]] w (Ret w g fun v g => ∃ p q a, v = .agg #[.int .i64 p, .int .i64 q, .pointer a] ∧ IsRat g p q a (-r)) := by
  refine CallTo.enter (vs := [.agg #[.int .i64 p, .int .i64 q, .pointer a]]) (by kernel_rfl : Tryd.prog.funcs[43]? = some Tryd.f43) (by kernel_rfl) rfl rfl rfl ?_
  have hst := St.init hag
  refine cp_seq ?_
  refine cp_region ?_
  refine stepK_box rfl rfl rfl rfl rfl rfl hst ?_
  clear hst
  intro b1 w1 hst
  refine stepK_alloc rfl rfl rfl rfl (by kernel_rfl : zeroOf Tryd.prog 41 = some (.agg #[.int .i64 0, .int .i64 0, .pointer none])) rfl hst ?_
  clear hst
  intro b2 w2 hst
  refine wpK_nil ?_
  refine cp_then ?_
  refine cp_seq ?_
  refine cp_seq ?_
  refine cp_region ?_
  refine stepK_d rfl rfl rfl hst (does_fieldAddr rfl (by kernel_rfl : fieldOf Tryd.prog 41 2 = some (2, 0 + 1, false)) rfl) ?_
  refine stepK_d rfl rfl rfl hst (does_load_ownL 0 rfl (by kernel_rfl) rfl rfl rfl) ?_
  refine stepK_d rfl rfl rfl hst (does_neq_nilD rfl (by kernel_rfl : Program.underlying Tryd.prog 39 = some (.pointer 80)) rfl rfl) ?_
  refine wpK_nil ?_
  refine cp_then ?_
  refine cp_if rfl ?_ ?_
  · intro c5
    obtain ⟨rfl, rfl, bl, rfl, hb9⟩ := ha.big c5
    have hn0 := hb9.num0
    obtain ⟨hs, A, n, c, B, m, d, e0, e1, e2, e3, e4⟩ := hb9
    refine cp_seq ?_
    refine cp_drawn (by kernel_rfl) 19 [(0, true), (1, true), (2, true), (3, true), (4, true), (5, true), (6, true), (7, true), (8, true), (9, true), (10, true), (11, true), (12, true), (13, true), (14, true), (15, true), (16, true), (17, false), (18, true)] _ rfl (by kernel_rfl) (by kernel_rfl) (by kernel_rfl) (fun _ _ _ _ _ h => h) _ (hst.drew) ?_
    have hst0 := hst.drew
    clear hst
    have hst := hst0
    refine stepD_d rfl rfl rfl rfl (does_fieldAddr rfl (by kernel_rfl : fieldOf Tryd.prog 41 2 = some (2, 0 + 1, false)) rfl) ?_
    refine stepD_d rfl rfl rfl rfl (does_load_ownL 0 rfl (by kernel_rfl) rfl rfl rfl) ?_
    refine stepD_d rfl rfl rfl rfl (does_nilCheck rfl rfl) ?_
    refine stepD_d rfl rfl rfl rfl (does_fieldAddr rfl (by kernel_rfl : fieldOf Tryd.prog 80 0 = some (0, 0 + 1, false)) rfl) ?_
    refine stepD_d rfl rfl rfl rfl (does_load_g1 rfl (by kernel_rfl) rfl e0) ?_
    refine stepD_d rfl rfl rfl rfl (does_not rfl rfl) ?_
    refine stepD_d rfl rfl rfl rfl (does_fieldAddr rfl (by kernel_rfl : fieldOf Tryd.prog 41 2 = some (2, 0 + 1, false)) rfl) ?_
    refine stepD_d rfl rfl rfl rfl (does_load_ownL 0 rfl (by kernel_rfl) rfl rfl rfl) ?_
    refine stepD_d rfl rfl rfl rfl (does_nilCheck rfl rfl) ?_
    refine stepD_d rfl rfl rfl rfl (does_fieldAddr rfl (by kernel_rfl : fieldOf Tryd.prog 80 1 = some (1, 0 + 1, false)) rfl) ?_
    refine stepD_d rfl rfl rfl rfl (does_load_g1 rfl (by kernel_rfl) rfl e1) ?_
    refine stepD_d rfl rfl rfl rfl (does_fieldAddr rfl (by kernel_rfl : fieldOf Tryd.prog 41 2 = some (2, 0 + 1, false)) rfl) ?_
    refine stepD_d rfl rfl rfl rfl (does_load_ownL 0 rfl (by kernel_rfl) rfl rfl rfl) ?_
    refine stepD_d rfl rfl rfl rfl (does_nilCheck rfl rfl) ?_
    refine stepD_d rfl rfl rfl rfl (does_fieldAddr rfl (by kernel_rfl : fieldOf Tryd.prog 80 2 = some (2, 0 + 1, false)) rfl) ?_
    refine stepD_d rfl rfl rfl rfl (does_load_g1 rfl (by kernel_rfl) rfl e2) ?_
    refine stepD_d rfl rfl rfl rfl (does_build rfl (by kernel_rfl : layOf Tryd.prog 80 = some ([(0, 1), (1, 1), (2, 1)], [.bool false, .slice none 0 0, .slice none 0 0])) rfl rfl) ?_
    refine stepD_box rfl rfl rfl rfl rfl rfl rfl hst (keep_alloc hst0 (Mem.le.refl _) (by simp)) ?_
    clear hst
    intro bx w3 hst
    refine stepD_d rfl rfl rfl rfl (does_build rfl (by kernel_rfl : layOf Tryd.prog 41 = some ([(0, 1), (1, 1), (2, 1)], [.int .i64 0, .int .i64 0, .pointer none])) rfl rfl) ?_
    refine stepD_tail ?_
    refine stepK_store 1 rfl rfl rfl rfl rfl rfl (by kernel_rfl : sizeB Tryd.prog 41 = some 3) rfl rfl hst rfl (by first | (simp [uN_length]; omega) | simp) ?_
    clear hst
    intro w4 hst
    simp only [List.nil_append, List.cons_append, List.set_cons_zero, List.set_cons_succ, splice, List.toList_toArray, List.take_zero, List.take_succ_cons, List.take_nil, List.drop_zero, List.drop_succ_cons, List.drop_nil, List.length_cons, List.length_nil, Nat.zero_add, Nat.add_zero, Nat.reduceAdd, List.append_nil] at hst
    refine wpK_nil ?_
    refine cp_then ?_
    refine cp_ret ?_
    refine at_then_ret ?_
    have hgn := hst.own_none 2 rfl
    obtain ⟨hst, hle9⟩ := hst.publish 2 rfl
    refine ret1c (k := 1) rfl rfl (by kernel_rfl) (by kernel_rfl) rfl hst rfl ?_
    exact ⟨_, _, _, rfl, IsRat.neg_big hgn hs hn0 e3 e4⟩
  · intro c5
    obtain rfl : a = none := Decidable.byContradiction c5
    have hl := ha.low
    have hbd := hl.bound
    refine cp_skip ?_
    refine cp_then ?_
    refine cp_seq ?_
    refine cp_region ?_
    refine stepK_d rfl rfl rfl hst (does_fieldAddr rfl (by kernel_rfl : fieldOf Tryd.prog 41 0 = some (0, 0 + 1, false)) rfl) ?_
    refine stepK_d rfl rfl rfl hst (does_load_ownL 0 rfl (by kernel_rfl) rfl rfl rfl) ?_
    refine stepK_d rfl rfl rfl hst (Does.int (does_neg rfl rfl) (wrap_i64 (by omega) (by omega))) ?_
    refine stepK_d rfl rfl rfl hst (does_fieldAddr rfl (by kernel_rfl : fieldOf Tryd.prog 41 1 = some (1, 0 + 1, false)) rfl) ?_
    refine stepK_d rfl rfl rfl hst (does_load_ownL 0 rfl (by kernel_rfl) rfl rfl rfl) ?_
    refine stepK_d rfl rfl rfl hst (does_build rfl (by kernel_rfl : layOf Tryd.prog 41 = some ([(0, 1), (1, 1), (2, 1)], [.int .i64 0, .int .i64 0, .pointer none])) rfl rfl) ?_
    refine stepK_store 1 rfl rfl rfl rfl rfl rfl (by kernel_rfl : sizeB Tryd.prog 41 = some 3) rfl rfl hst rfl (by first | (simp [uN_length]; omega) | simp) ?_
    clear hst
    intro w5 hst
    simp only [List.nil_append, List.cons_append, List.set_cons_zero, List.set_cons_succ, splice, List.toList_toArray, List.take_zero, List.take_succ_cons, List.take_nil, List.drop_zero, List.drop_succ_cons, List.drop_nil, List.length_cons, List.length_nil, Nat.zero_add, Nat.add_zero, Nat.reduceAdd, List.append_nil] at hst
    refine wpK_nil ?_
    refine cp_then ?_
    refine cp_ret ?_
    refine ret1c (k := 1) rfl rfl (by kernel_rfl) (by kernel_rfl) rfl hst rfl ?_
    exact ⟨_, _, _, rfl, .of_low hl.neg⟩

end Go.Proofs.YtbamjcfdlgnicaaDoor

namespace Go.Proofs.Vc
open Go Go.Lib Go.RowKit
set_option linter.unusedVariables false
set_option linter.unusedSimpArgs false
def Lb (s : ByteArray) : List UInt8 := s.data.toList
theorem Lb_ext {a b : ByteArray} (h : Lb a = Lb b) : a = b := ByteArray.ext (Array.toList_inj.1 h)
theorem Lb_length (s : ByteArray) : (Lb s).length = s.size := by simp [Lb]
theorem Lb_mk (l : List UInt8) : Lb ⟨l.toArray⟩ = l := rfl
theorem Lb_get {s : ByteArray} {i : Nat} (h : i < s.size) : (Lb s)[i]? = some (s[i]'h) := by
  have h' : i < s.data.size := h
  simp only [Lb, Array.getElem?_toList, Array.getElem?_eq_getElem h']
  rfl
theorem Lb_bt {s : ByteArray} {i : Nat} {c : UInt8} (h : (Lb s)[i]? = some c) : bt s i = c.toNat := by
  have hi : i < s.size := by
    rcases Nat.lt_or_ge i s.size with h' | h'
    · exact h'
    · rw [List.getElem?_eq_none (by rw [Lb_length]; exact h')] at h; cases h
  rw [Lb_get hi] at h
  cases h
  exact (bt_eq hi).symm
theorem Lb_append (a b : ByteArray) : Lb (a ++ b) = Lb a ++ Lb b := by simp [Lb]
theorem Lb_extract (s : ByteArray) (p q : Nat) : Lb (s.extract p q) = ((Lb s).take q).drop p := by
  simp only [Lb, ByteArray.data_extract, Array.toList_extract, List.extract_eq_take_drop, List.drop_take]
/-- the number that digits stand for -/
def dvL (l : List UInt8) : Nat := l.foldl (fun a c => 10 * a + (c.toNat - 48)) 0
theorem dvL_snoc (l : List UInt8) (c : UInt8) : dvL (l ++ [c]) = 10 * dvL l + (c.toNat - 48) := by simp [dvL]
theorem dval_eq (s : ByteArray) : ∀ n, n ≤ s.size → dval s n = dvL ((Lb s).take n)
  | 0, _ => by simp [dval, dvL]
  | n + 1, h => by
    have h1 := Lb_get (s := s) (i := n) (by omega)
    have h2 : (Lb s).take (n + 1) = (Lb s).take n ++ [s[n]'(by omega)] := by rw [List.take_add_one, h1]; rfl
    rw [h2, dvL_snoc, ← dval_eq s n (by omega), bt_eq]
    rfl
theorem dval_all (s : ByteArray) : dval s s.size = dvL (Lb s) := by
  rw [dval_eq s _ (Nat.le_refl _), List.take_of_length_le (by rw [Lb_length]; exact Nat.le_refl _)]
def DigL (l : List UInt8) : Prop := ∀ c ∈ l, 48 ≤ c.toNat ∧ c.toNat ≤ 57
structure PlainL (l : List UInt8) : Prop where
  ne : l ≠ []
  lead : l.head? = some 48 → l.length = 1
  dig : DigL l
theorem u8_of_digit {c : UInt8} (h : 48 ≤ c.toNat) : UInt8.ofNat (48 + (c.toNat - 48)) = c := by
  rw [show 48 + (c.toNat - 48) = c.toNat by omega]
  exact UInt8.ofNat_toNat
theorem snoc_ind {P : List UInt8 → Prop} (h0 : P []) (h1 : ∀ l c, P l → P (l ++ [c])) (l : List UInt8) : P l := by
  have key : ∀ n (l : List UInt8), l.length = n → P l := by
    intro n
    induction n with
    | zero => intro l hl; rw [List.eq_nil_of_length_eq_zero hl]; exact h0
    | succ n ih =>
      intro l hl
      have hne : l ≠ [] := fun e => by subst e; simp at hl
      rw [← List.dropLast_concat_getLast hne]
      exact h1 _ _ (ih _ (by simp [hl]))
  exact key _ l rfl
theorem dvL_ge (l : List UInt8) (c : UInt8) : dvL l ≤ dvL (l ++ [c]) := by rw [dvL_snoc]; omega
theorem dvL_pos : ∀ (l : List UInt8), l ≠ [] → DigL l → l.head? ≠ some 48 → 0 < dvL l := by
  intro l
  induction l using snoc_ind with
  | h0 => intro h; exact absurd rfl h
  | h1 l c ih =>
    intro _ hd hh
    cases l with
    | nil =>
      have h1 := hd c (by simp)
      have h2 : c ≠ 48 := fun e => hh (by rw [e]; rfl)
      have h3 : c.toNat ≠ 48 := fun e => h2 (UInt8.toNat_inj.1 e)
      simp [dvL]
      omega
    | cons a r =>
      have := ih (by simp) (fun x hx => hd x (by simp at hx ⊢; rcases hx with hx | hx <;> simp [hx])) (by simpa using hh)
      have h2 := dvL_ge (a :: r) c
      omega
theorem plainL_eq : ∀ (l : List UInt8), PlainL l → l = decDigits (dvL l) := by
  intro l
  induction l using snoc_ind with
  | h0 => intro h; exact absurd rfl h.ne
  | h1 l c ih =>
    intro h
    have hc := h.dig c (by simp)
    cases l with
    | nil =>
      rw [dvL_snoc]
      have : 10 * dvL [] + (c.toNat - 48) = c.toNat - 48 := by simp [dvL]
      rw [this, decDigits_one (by omega), u8_of_digit hc.1]
      rfl
    | cons a r =>
      have hh : (a :: r).head? ≠ some 48 := fun e => by
        have := h.lead (by simpa using e)
        simp at this
      have hd : DigL (a :: r) := fun x hx => h.dig x (by simp at hx ⊢; rcases hx with hx | hx <;> simp [hx])
      have hp := dvL_pos (a :: r) (by simp) hd hh
      have hl := ih ⟨by simp, fun e => absurd e hh, hd⟩
      rw [dvL_snoc, decDigits, dif_neg (by omega)]
      rw [show (10 * dvL (a :: r) + (c.toNat - 48)) / 10 = dvL (a :: r) by omega, show (10 * dvL (a :: r) + (c.toNat - 48)) % 10 = c.toNat - 48 by omega, u8_of_digit hc.1, ← hl]
theorem u8_dig {k : Nat} (h : k < 10) : (UInt8.ofNat (48 + k)).toNat = 48 + k := by
  show (48 + k) % 2 ^ 8 = 48 + k
  omega
theorem decDigits_ne (N : Nat) : decDigits N ≠ [] := by
  rw [decDigits]
  split <;> simp
theorem decDigits_props (N : Nat) : DigL (decDigits N) ∧ dvL (decDigits N) = N ∧ (0 < N → (decDigits N).head? ≠ some 48) := by
  induction N using Nat.strongRecOn with
  | _ N ih =>
    rw [decDigits]
    by_cases h : N < 10
    · rw [dif_pos h]
      have e := u8_dig h
      refine ⟨?_, ?_, ?_⟩
      · intro c hc
        have : c = UInt8.ofNat (48 + N) := by simpa using hc
        rw [this, e]
        omega
      · simp only [dvL, List.foldl_cons, List.foldl_nil]
        rw [e]
        omega
      · intro h0 hh
        have h1 : UInt8.ofNat (48 + N) = 48 := by simpa using hh
        have h2 : (UInt8.ofNat (48 + N)).toNat = 48 := by rw [h1]; rfl
        omega
    · rw [dif_neg h]
      obtain ⟨h1, h2, h3⟩ := ih (N / 10) (by omega)
      have e := u8_dig (show N % 10 < 10 by omega)
      refine ⟨?_, ?_, ?_⟩
      · intro c hc
        rw [List.mem_append] at hc
        rcases hc with hc | hc
        · exact h1 c hc
        · have : c = UInt8.ofNat (48 + N % 10) := by simpa using hc
          rw [this, e]
          omega
      · rw [dvL_snoc, h2, e]
        omega
      · intro _ hh
        refine h3 (by omega) ?_
        cases hl : decDigits (N / 10) with
        | nil => exact absurd hl (decDigits_ne _)
        | cons a r => rw [hl] at hh; simpa using hh
theorem decDigits_plain (N : Nat) : PlainL (decDigits N) := by
  obtain ⟨h1, h2, h3⟩ := decDigits_props N
  refine ⟨decDigits_ne N, fun hh => ?_, h1⟩
  rcases Nat.eq_zero_or_pos N with h0 | h0
  · subst h0; rw [decDigits_one (by decide)]; rfl
  · exact absurd hh (h3 h0)
theorem decDigits_inj {a b : Nat} (h : decDigits a = decDigits b) : a = b := by
  rw [← (decDigits_props a).2.1, h, (decDigits_props b).2.1]
theorem dec_not {N : Nat} {c : UInt8} (h : c.toNat < 48) : c ∉ decDigits N := fun hm => by
  have := (decDigits_props N).1 c hm
  omega
/-- the canonical text -/
def ratL (r : Rat) : List UInt8 := itoa r.num ++ (if r.den = 1 then [] else 47 :: decDigits r.den)
def ratS (r : Rat) : ByteArray := ⟨(ratL r).toArray⟩
theorem itoa_sg (b : Bool) (N : Nat) (h : b = true → 0 < N) : itoa (sg b N) = if b then 45 :: decDigits N else decDigits N := by
  cases b
  · simp [sg, itoa_nonneg]
  · have := h rfl
    simp [sg, itoa_neg N this]
theorem itoa_num (r : Rat) : itoa r.num = if r.num < 0 then 45 :: decDigits r.num.natAbs else decDigits r.num.natAbs := by
  have h := itoa_sg (decide (r.num < 0)) r.num.natAbs (fun e => by have : r.num < 0 := by simpa using e
                                                                   omega)
  rw [sg_num] at h
  rw [h]
  simp
/-- a text, cut as the reader cuts it -/
structure Cut (l : List UInt8) (neg : Bool) (top bottom : List UInt8) (found : Bool) : Prop where
  eq : l = (if neg then [45] else []) ++ (top ++ if found then 47 :: bottom else [])
  neg0 : neg = false → (top ++ if found then 47 :: bottom else []).head? ≠ some 45
  top47 : (47 : UInt8) ∉ top
  one : found = false → bottom = [49]
structure Okay (neg : Bool) (top bottom : List UInt8) (found : Bool) : Prop where
  ptop : PlainL top
  pbot : PlainL bottom
  nzero : ¬ (neg = true ∧ top = [48])
  nb : ¬ (found = true ∧ (bottom = [48] ∨ bottom = [49]))
  gcd : found = true → Nat.gcd (dvL top) (dvL bottom) = 1
theorem dvL_one : dvL [49] = 1 := rfl
theorem plain_zero {l : List UInt8} (h : PlainL l) (h0 : dvL l = 0) : l = [48] := by rw [plainL_eq l h, h0, decDigits_one (by decide)]; rfl
theorem plain_one {l : List UInt8} (h : PlainL l) (h0 : dvL l = 1) : l = [49] := by rw [plainL_eq l h, h0, decDigits_one (by decide)]; rfl
theorem okay_den {neg found : Bool} {top bottom : List UInt8} {l : List UInt8} (hc : Cut l neg top bottom found) (h : Okay neg top bottom found) : 0 < dvL bottom ∧ Nat.gcd (dvL top) (dvL bottom) = 1 ∧ (found = false ↔ dvL bottom = 1) := by
  cases found with
  | false => rw [hc.one rfl, dvL_one]; exact ⟨by decide, Nat.gcd_one_right _, by simp⟩
  | true =>
    refine ⟨Nat.pos_of_ne_zero fun e => h.nb ⟨rfl, .inl (plain_zero h.pbot e)⟩, h.gcd rfl, ?_⟩
    constructor
    · intro e; cases e
    · intro e; exact absurd ⟨rfl, .inr (plain_one h.pbot e)⟩ h.nb
/-- what is accepted is the canonical text of the number read -/
theorem okay_text {l : List UInt8} {neg found : Bool} {top bottom : List UInt8} (hc : Cut l neg top bottom found) (h : Okay neg top bottom found) : l = ratL (mkRat (sg neg (dvL top)) (dvL bottom)) := by
  obtain ⟨h1, h2, h3⟩ := okay_den hc h
  obtain ⟨e1, e2⟩ := mkRat_num (b := neg) h1 h2
  have hn : neg = true → 0 < dvL top := fun e => Nat.pos_of_ne_zero fun e0 => h.nzero ⟨e, plain_zero h.ptop e0⟩
  unfold ratL
  rw [e1, e2, itoa_sg neg _ hn, ← plainL_eq top h.ptop, ← plainL_eq bottom h.pbot, hc.eq]
  cases found with
  | false =>
    rw [if_pos (h3.1 rfl)]
    cases neg <;> simp
  | true =>
    rw [if_neg (fun e => Bool.noConfusion (h3.2 e))]
    cases neg <;> simp
theorem split47 : ∀ {a b x y : List UInt8}, (47 : UInt8) ∉ a → (47 : UInt8) ∉ b → (x = [] ∨ ∃ u, x = 47 :: u) → (y = [] ∨ ∃ u, y = 47 :: u) → a ++ x = b ++ y → a = b ∧ x = y
  | [], [], x, y, _, _, _, _, h => ⟨rfl, by simpa using h⟩
  | [], c :: b, x, y, _, hb, hx, _, h => by
    rcases hx with rfl | ⟨u, rfl⟩
    · simp at h
    · simp at h
      exact absurd (by simp [h.1]) hb
  | c :: a, [], x, y, ha, _, _, hy, h => by
    rcases hy with rfl | ⟨u, rfl⟩
    · simp at h
    · simp at h
      exact absurd (by simp [h.1]) ha
  | c :: a, d :: b, x, y, ha, hb, hx, hy, h => by
    simp at h
    obtain ⟨h1, h2⟩ := split47 (fun e => ha (by simp [e])) (fun e => hb (by simp [e])) hx hy h.2
    exact ⟨by rw [h.1, h1], h2⟩
theorem dec_head {N : Nat} {r : List UInt8} : (decDigits N ++ r).head? ≠ some 45 := by
  intro h
  cases hd : decDigits N with
  | nil => exact decDigits_ne N hd
  | cons a t =>
    rw [hd] at h
    have ha : a = 45 := by simpa using h
    have := (decDigits_props N).1 a (by rw [hd]; simp)
    rw [ha] at this
    revert this
    decide
/-- the canonical text is accepted -/
theorem text_okay {l : List UInt8} {neg found : Bool} {top bottom : List UInt8} (hc : Cut l neg top bottom found) {r : Rat} (hr : l = ratL r) : Okay neg top bottom found ∧ neg = decide (r.num < 0) ∧ dvL top = r.num.natAbs ∧ dvL bottom = r.den := by
  have h1 : l = (if r.num < 0 then [45] else []) ++ (decDigits r.num.natAbs ++ if r.den = 1 then [] else 47 :: decDigits r.den) := by
    rw [hr, ratL, itoa_num]
    split <;> simp
  have h2 : neg = decide (r.num < 0) := by
    have e := hc.eq.symm.trans h1
    cases neg with
    | false =>
      by_cases hn : r.num < 0
      · rw [if_pos hn] at e
        exact absurd (by simpa using congrArg List.head? e) (hc.neg0 rfl)
      · simp [hn]
    | true =>
      by_cases hn : r.num < 0
      · simp [hn]
      · rw [if_neg hn] at e
        have := congrArg List.head? e
        exact absurd (by simpa using this.symm) (dec_head (N := r.num.natAbs) (r := if r.den = 1 then [] else 47 :: decDigits r.den))
  have h3 : top ++ (if found then 47 :: bottom else []) = decDigits r.num.natAbs ++ if r.den = 1 then [] else 47 :: decDigits r.den := by
    have e := hc.eq.symm.trans h1
    rw [h2] at e
    by_cases hn : r.num < 0
    · simpa [hn] using e
    · simpa [hn] using e
  obtain ⟨h4, h5⟩ := split47 hc.top47 (dec_not (by decide)) (by cases found <;> simp) (by split <;> simp) h3
  have hden : 0 < r.den := Nat.pos_of_ne_zero r.den_nz
  have h6 : bottom = decDigits r.den ∧ (found = true ↔ r.den ≠ 1) := by
    cases found with
    | false =>
      have e1 : r.den = 1 := by
        rcases Decidable.em (r.den = 1) with e | e
        · exact e
        · rw [if_neg e] at h5; simp at h5
      rw [hc.one rfl, e1, decDigits_one (by decide)]
      exact ⟨rfl, by simp⟩
    | true =>
      have e1 : r.den ≠ 1 := fun e => by rw [if_pos e] at h5; simp at h5
      rw [if_neg e1] at h5
      simp at h5
      exact ⟨h5, by simp [e1]⟩
  have d1 : dvL top = r.num.natAbs := by rw [h4, (decDigits_props _).2.1]
  have d2 : dvL bottom = r.den := by rw [h6.1, (decDigits_props _).2.1]
  refine ⟨⟨by rw [h4]; exact decDigits_plain _, by rw [h6.1]; exact decDigits_plain _, ?_, ?_, ?_⟩, h2, d1, d2⟩
  · rintro ⟨e1, e2⟩
    rw [e2] at d1
    rw [h2] at e1
    have e3 : r.num < 0 := by simpa using e1
    have e4 : dvL [48] = 0 := rfl
    omega
  · rintro ⟨e1, e2⟩
    have e3 := h6.2.1 e1
    rcases e2 with e2 | e2
    · rw [e2] at d2
      have e4 : dvL [48] = 0 := rfl
      omega
    · rw [e2] at d2
      have e4 : dvL [49] = 1 := rfl
      omega
  · intro _
    rw [d1, d2]
    exact r.reduced
theorem ratL_inj {a b : Rat} (h : ratL a = ratL b) : a = b := by
  have hc : Cut (ratL a) (decide (a.num < 0)) (decDigits a.num.natAbs) (if a.den = 1 then [49] else decDigits a.den) (decide (a.den ≠ 1)) := by
    refine ⟨?_, fun _ => dec_head, dec_not (by decide), fun e => ?_⟩
    · rw [ratL, itoa_num]
      by_cases h1 : a.num < 0 <;> by_cases h2 : a.den = 1 <;> simp [h1, h2]
    · have : a.den = 1 := by simpa using e
      rw [if_pos this]
  obtain ⟨_, h1, h2, h3⟩ := text_okay hc rfl
  obtain ⟨_, k1, k2, k3⟩ := text_okay hc h
  refine Rat.ext ?_ (h3.symm.trans k3)
  rw [← sg_num a, ← sg_num b, ← h1, ← h2, k1, k2]
theorem AllDig_iff {s : ByteArray} : AllDig s ↔ DigL (Lb s) := by
  constructor
  · intro h c hc
    obtain ⟨i, hi⟩ := List.mem_iff_getElem?.1 hc
    have hl : i < s.size := by
      rcases Nat.lt_or_ge i s.size with h' | h'
      · exact h'
      · rw [List.getElem?_eq_none (by rw [Lb_length]; exact h')] at hi; cases hi
    rw [← Lb_bt hi]
    exact h i hl
  · intro h i hi
    rw [Lb_bt (Lb_get hi)]
    exact h _ (List.mem_of_getElem? (Lb_get hi))
theorem Lb_ne {s : ByteArray} : Lb s ≠ [] ↔ 0 < s.size := by
  rw [← Lb_length, List.length_pos_iff]
theorem Lb_head {s : ByteArray} (h : 0 < s.size) : ∃ c : UInt8, (Lb s).head? = some c ∧ c.toNat = bt s 0 := by
  refine ⟨_, ?_, bt_eq h⟩
  rw [List.head?_eq_getElem?]
  exact Lb_get h
theorem plain_of {s : ByteArray} (h0 : 0 < s.size) (hl : bt s 0 = 48 → s.size = 1) (hd : AllDig s) : PlainL (Lb s) := by
  refine ⟨Lb_ne.2 h0, fun h => ?_, AllDig_iff.1 hd⟩
  obtain ⟨c, h1, h2⟩ := Lb_head h0
  rw [h1] at h
  cases h
  rw [Lb_length]
  exact hl h2.symm
theorem PlainL.pos {s : ByteArray} (h : PlainL (Lb s)) : 0 < s.size := Lb_ne.1 h.ne
theorem PlainL.lead0 {s : ByteArray} (h : PlainL (Lb s)) (h0 : bt s 0 = 48) : s.size = 1 := by
  obtain ⟨c, h1, h2⟩ := Lb_head h.pos
  rw [← Lb_length]
  refine h.lead ?_
  rw [h1]
  congr 1
  exact UInt8.toNat_inj.1 (h2.trans h0)
theorem PlainL.all {s : ByteArray} (h : PlainL (Lb s)) : AllDig s := AllDig_iff.2 h.dig
theorem no_plain {p : Prop} (h : ¬ p) : (false = true ↔ p) := ⟨(fun e => Bool.noConfusion e), fun e => absurd e h⟩
theorem yes_plain {p : Prop} (h : p) : (true = true ↔ p) := ⟨fun _ => h, fun _ => rfl⟩
/-! reading -/
open Classical in
/-- the number of which s is the canonical text -/
noncomputable def readR (s : ByteArray) : Option Rat := if h : ∃ r, s = ratS r then some h.choose else none
noncomputable def getR (s : ByteArray) : Rat := (readR s).getD 0
theorem readR_text (r : Rat) : readR (ratS r) = some r := by
  have h : ∃ x, ratS r = ratS x := ⟨r, rfl⟩
  unfold readR
  rw [dif_pos h]
  congr 1
  have h1 := h.choose_spec
  have h2 : ratL r = ratL h.choose := by
    have := congrArg Lb h1
    exact this
  exact (ratL_inj h2).symm
theorem readR_some {s : ByteArray} {r : Rat} (h : Lb s = ratL r) : readR s = some r := by
  have : s = ratS r := Lb_ext h
  rw [this]
  exact readR_text r
theorem readR_is {s : ByteArray} {r : Rat} (h : readR s = some r) : s = ratS r := by
  unfold readR at h
  split at h
  · rename_i hx
    cases h
    exact hx.choose_spec
  · cases h
theorem readR_none {s : ByteArray} (h : ∀ r, Lb s ≠ ratL r) : readR s = none := by
  unfold readR
  rw [dif_neg]
  rintro ⟨r, rfl⟩
  exact h r rfl
structure Okay0 (neg : Bool) (top bottom : List UInt8) (found : Bool) : Prop where
  ptop : PlainL top
  pbot : PlainL bottom
  nzero : ¬ (neg = true ∧ top = [48])
  nb : ¬ (found = true ∧ (bottom = [48] ∨ bottom = [49]))
theorem reject0 {s : ByteArray} {neg found : Bool} {top bottom : List UInt8} (hc : Cut (Lb s) neg top bottom found) (h : ¬ Okay0 neg top bottom found) : readR s = none :=
  readR_none fun r hr => h (by
    obtain ⟨h1, _⟩ := text_okay hc hr
    exact ⟨h1.ptop, h1.pbot, h1.nzero, h1.nb⟩)
theorem reject1 {s : ByteArray} {neg found : Bool} {top bottom : List UInt8} (hc : Cut (Lb s) neg top bottom found) (h : found = true ∧ Nat.gcd (dvL top) (dvL bottom) ≠ 1) : readR s = none :=
  readR_none fun r hr => by
    obtain ⟨h1, _⟩ := text_okay hc hr
    exact h.2 (h1.gcd h.1)
theorem accept1 {s : ByteArray} {neg found : Bool} {top bottom : List UInt8} (hc : Cut (Lb s) neg top bottom found) (h : Okay0 neg top bottom found) (hg : found = true → Nat.gcd (dvL top) (dvL bottom) = 1) :
    readR s = some (mkRat (sg neg (dvL top)) (dvL bottom)) ∧ 0 < dvL bottom ∧ Nat.gcd (dvL top) (dvL bottom) = 1 := by
  have h1 : Okay neg top bottom found := ⟨h.ptop, h.pbot, h.nzero, h.nb, hg⟩
  have h2 := okay_den hc h1
  exact ⟨readR_some (okay_text hc h1), h2.1, h2.2.1⟩
theorem Lb_tail {s : ByteArray} {k : Nat} : Lb (s.extract k s.size) = (Lb s).drop k := by
  rw [Lb_extract, List.take_of_length_le (by rw [Lb_length]; exact Nat.le_refl _)]
theorem Lb_cut1 {s : ByteArray} {c : UInt8} (h0 : 0 < s.size) (h : bt s 0 = c.toNat) : Lb s = [c] ++ Lb (s.extract 1 s.size) := by
  rw [Lb_tail]
  obtain ⟨a, h1, h2⟩ := Lb_head h0
  cases hl : Lb s with
  | nil => rw [hl] at h1; cases h1
  | cons x r =>
    rw [hl] at h1
    have h3 : x = a := by simpa using h1
    have h4 : a = c := UInt8.toNat_inj.1 (h2.trans h)
    rw [h3, h4]
    rfl
theorem Lb_head_ne {s : ByteArray} {c : UInt8} (h : 0 < s.size → bt s 0 ≠ c.toNat) : (Lb s).head? ≠ some c := by
  intro e
  rcases Nat.eq_zero_or_pos s.size with h0 | h0
  · have : Lb s = [] := List.eq_nil_of_length_eq_zero (by rw [Lb_length]; exact h0)
    rw [this] at e
    cases e
  · obtain ⟨a, h1, h2⟩ := Lb_head h0
    rw [h1] at e
    cases e
    exact h h0 h2.symm
theorem Lb_cutk {s : ByteArray} {k : Nat} {c : UInt8} (hk : k < s.size) (h : bt s k = c.toNat) : Lb s = Lb (s.extract 0 k) ++ c :: Lb (s.extract (k + 1) s.size) := by
  rw [Lb_tail, Lb_extract, List.drop_zero]
  obtain ⟨x, hx⟩ : ∃ x, (Lb s)[k]? = some x := ⟨_, Lb_get hk⟩
  have h4 : x = c := UInt8.toNat_inj.1 ((Lb_bt hx).symm.trans h)
  have h2 := List.take_append_drop k (Lb s)
  have hl : k < (Lb s).length := by rw [Lb_length]; exact hk
  rw [List.getElem?_eq_getElem hl] at hx
  have h5 : (Lb s)[k] = x := by simpa using hx
  rw [List.drop_eq_getElem_cons hl, h5, h4] at h2
  exact h2.symm
theorem not_mem_take {s : ByteArray} {k : Nat} {c : UInt8} (hk : k ≤ s.size) (h : ∀ j, j < k → bt s j ≠ c.toNat) : c ∉ Lb (s.extract 0 k) := by
  rw [Lb_extract, List.drop_zero]
  intro hm
  obtain ⟨i, hi⟩ := List.mem_iff_getElem?.1 hm
  rw [List.getElem?_take] at hi
  split at hi
  · rename_i hik
    exact h i hik (Lb_bt hi)
  · cases hi
theorem dval_fit {s : ByteArray} (h : AllDig s) : dvL (Lb s) < 10 ^ s.size := by
  rw [← dval_all]
  exact dval_lt h _ (Nat.le_refl _)
theorem dec_len {N : Nat} : N < 10 ^ (decDigits N).length := by
  have h := dval_fit (s := ⟨(decDigits N).toArray⟩) (AllDig_iff.2 (decDigits_props N).1)
  rw [Lb_mk, (decDigits_props N).2.1, ← Lb_length, Lb_mk] at h
  exact h
theorem text_fit {s : ByteArray} {r : Rat} (h : s = ratS r) : r.num.natAbs < 10 ^ s.size ∧ r.den < 10 ^ (s.size + 1) := by
  have hl : s.size = (ratL r).length := by rw [h, ← Lb_length]; rfl
  have h1 := dec_len (N := r.num.natAbs)
  have h2 := dec_len (N := r.den)
  have h3 : (ratL r).length = (itoa r.num).length + (if r.den = 1 then [] else 47 :: decDigits r.den).length := by rw [ratL, List.length_append]
  have h4 : (decDigits r.num.natAbs).length ≤ (itoa r.num).length := by
    rw [itoa_num]
    split <;> simp
  refine ⟨Nat.lt_of_lt_of_le h1 (Nat.pow_le_pow_right (by decide) (by omega)), ?_⟩
  by_cases hd : r.den = 1
  · rw [hd]
    exact Nat.one_lt_pow (by omega) (by decide)
  · rw [if_neg hd, List.length_cons] at h3
    exact Nat.lt_of_lt_of_le h2 (Nat.pow_le_pow_right (by decide) (by omega))
theorem ten_pow_le {k L : Nat} (h : k ≤ L) : 10 ^ k ≤ 18446744073709551616 ^ L := Nat.le_trans (ten_le k) (Nat.pow_le_pow_right (by decide) h)
theorem fit_of {r : Rat} {k : Nat} (h1 : r.num.natAbs < 10 ^ k) (h2 : r.den < 10 ^ k) (hk : k ≤ 1099511627776) : Fit r := by
  have h3 := ten_pow_le hk
  exact ⟨Nat.lt_of_lt_of_le h1 h3, Nat.lt_of_lt_of_le h2 h3⟩
theorem fit_zero : Fit 0 := fit_of (k := 1) (by decide) (by decide) (by decide)
theorem getR_fit {s : ByteArray} (hs : s.size < 1099511627776) : Fit (getR s) := by
  unfold getR
  cases h : readR s with
  | none => exact fit_zero
  | some r =>
    obtain ⟨h1, h2⟩ := text_fit (readR_is h)
    exact fit_of (k := s.size + 1) (Nat.lt_of_lt_of_le h1 (Nat.pow_le_pow_right (by decide) (by omega))) h2 (by omega)
section
variable {P : Program} {ops : Array Oper} {Q : Exit → Act → World → Prop} {n : Nat} {kn : Kn} {o : Oper} {rest : List Oper} {w0 w : World} {M : List Nat} {g0 g : Mem} {own : List (Nat × Obj)} {d : Nat}
theorem stepK_buildSlice_guard {j t' : Nat} {oj : Oper} {b0 : Bool} {t e : TypeId} {len : Nat} {parts : List (Nat × Operand)} {z : Value} {zl l : List Value} {sz by_ : Nat} {vs : List (Nat × Value)} (hdst : o.dst = some d) (hg : o.guard = some (j, b0)) (hj : ops[j]? = some oj) (ht : oj.dst = some t')
    (hb0 : kget kn t' = some (.bool b0)) (hd : Nat.ble (d + 1) n = true) (ho : o.op = .buildSlice t len parts.toArray) (hu : P.underlying t = some (.slice e)) (he : elemInfo P e = some (z, sz, by_))
    (hz : cellsOf z = some zl) (hzs : zl.length = sz) (hs : 0 < sz) (hlen : 0 < len) (hsm : len * sz ≤ 16777216) (hvs : kparts kn parts = some vs) (hf : fillL (fun i => some (i * sz, sz)) (repL len zl) vs = some l) (hst : St w0 M g0 g own w)
    (h : ∀ b w', St w0 M g0 g (own ++ [(b, .cells l.toArray e (0, 0))]) w' → wpK P ops Q n rest ((d, .slice (some ⟨b, 0, none⟩) len len) :: kn) w') : wpK P ops Q n (o :: rest) kn w := by
  intro a ha
  have hw : Region.wanted o (yielded ops a.tmps) = true := by
    have := tmp_of_getD (ha.get t' _ hb0)
    simp [Region.wanted, hg, yielded, hj, ht, this]
  have hr := run_buildSlice' (w := w) ho hu he hz hzs hs hlen hsm hvs hf a.eval (fun x u hu => ha.eval hu)
  unfold wpList
  rw [if_pos hw]
  refine .inl ?_
  unfold Oper.wp
  rw [hr, Oper.upon_value, hdst]
  exact h _ _ (hst.alloc _) _ (ha.put (Nat.le_of_ble_eq_true hd) _)
end
theorem dropWhile_stop {l : List UInt8} {c : UInt8} (h : l.head? ≠ some c) : l.dropWhile (· == c) = l := by
  cases l with
  | nil => rfl
  | cons a r =>
    have : a ≠ c := fun e => h (by rw [e]; rfl)
    simp [List.dropWhile_cons, this]
end Go.Proofs.Vc

namespace Go.Proofs.Vc
open Go Go.Lib Go.RowKit
set_option linter.unusedVariables false
set_option linter.unusedSectionVars false
section
variable {P : Program} {ops : Array Oper} {Q : Exit → Act → World → Prop} {n : Nat} {kn : Kn} {o : Oper} {rest : List Oper} {w w' : World} {d : Nat}
/-- a call whose end is told by R alone -/
theorem stepK_callR {f : FuncId} {args : List Operand} {ts : Array TypeId} {vs : List Value} {R : Ending → World → Prop} (hdst : o.dst = some d) (hg : o.guard = none) (hd : Nat.ble (d + 1) n = true) (ho : o.op = .call { callee := .value (.func f), args := args.toArray, argTypes := ts })
    (hvs : kevs kn args = some vs) (hc : CallTo P f vs.toArray w R) (h : ∀ e w', R e w' → ∃ v, e = .returned v ∧ wpK P ops Q n rest ((d, v) :: kn) w') : wpK P ops Q n (o :: rest) kn w := by
  intro a ha
  refine wpList_plain hg fun K hK => ?_
  refine oper_call ho ha hvs hc fun e w' hr => ?_
  obtain ⟨v, rfl, hk⟩ := h e w' hr
  refine ⟨v, rfl, hK _ _ ?_⟩
  rw [hdst]
  exact hk _ (ha.put (Nat.le_of_ble_eq_true hd) v)
/-- a store of one cell into a block that is known -/
theorem stepK_storeW {t : TypeId} {x y : Operand} {b i : Nat} {v : Value} {c : Array Value} {e : TypeId} (hdst : o.dst = none) (hg : o.guard = none) (ho : o.op = .store t x y) (hx : kev kn x = some (.pointer (some ⟨b, i, none⟩))) (hy : kev kn y = some v) (hl : cellsOf v = some [v])
    (hs : sizeB P t = some 1) (h1 : v.oneCell' = true) (hb : w.heap[b]? = some (.cells c e (0, 0))) (hin : i < c.size)
    (h : wpK P ops Q n rest kn (w.setRow b (c.setIfInBounds i v))) : wpK P ops Q n (o :: rest) kn w := by
  intro a ha
  refine wpList_plain hg fun K hK => ?_
  unfold Oper.wp
  have h2 := run_storeCells_at P b i e [v] 0 c w hb (by simp; omega) (by simpa using h1)
  have hc := cellsOf_eq hl
  simp only [Nat.add_zero] at h2
  have h3 := splice_one c i v hin
  have hr : (execOp a.eval o).run P w = .ok .skip (w.setRow b (splice c i [v])) := by
    have e1 := ha.eval (x := x) hx
    have e2 := ha.eval (x := y) hy
    simp [execOp, ho, e1, e2, Instr.storeAt, Instr.sureAddr, storeVar, hc, run_sizeB hs, h2, splice]
  rw [hr, Oper.upon_skip, hdst, h3]
  exact hK _ _ (h a ha)
theorem cell_at {w : World} {b : Nat} {c : Array Value} {e : TypeId} {f : Nat × Nat} {i : Nat} {v : Value} (hb : w.heap[b]? = some (.cells c e f)) (hi : c[i]? = some v) : w.cell? ⟨b, i, none⟩ = some v := by
  rw [Lib.cell_of_heap hb]; exact hi
theorem grown_setRow (w : World) (b : Nat) (c : Array Value) : w.grownBy (w.setRow b c) (some b) := ⟨rfl, rfl, rfl, by simp, fun k _ hk => setRow_other w b k c (fun e => hk (by rw [e]))⟩
end
/-- a pointer held against itself -/
theorem does_neq_self {P : Program} {S : World → Prop} {kn : Kn} {o : Oper} {t yt te : TypeId} {x y : Operand} {a : Addr} (ho : o.op = .binOp .neq t x y yt) (hu : P.underlying t = some (.pointer te)) (hj : (P.info? te).isSome = true) (hx : kev kn x = some (.pointer (some a))) (hy : kev kn y = some (.pointer (some a))) : Does P S kn o (.bool false) := by
  obtain ⟨j, hj⟩ := Option.isSome_iff_exists.1 hj
  exact does_bin' ho hx hy (fun w => by rw [eqGuard_at_pointer]; rfl) fun w => Lib.run_neq_ptr_same w a hu hj
theorem St.later {w0 w w' : World} {g0 g : Mem} (h : St w0 [] g0 g [] w) (hb : Below w.heap.size w w') : St w0 [] g0 g [] w' := by
  refine ⟨hb.os.trans h.os, hb.tape.trans h.tape, hb.output.trans h.output, Nat.le_trans h.size hb.size, ?_, ?_, h.le, h.ext, (fun _ h => nomatch h), by simp⟩
  · intro k hk hM
    rw [hb.block k (Nat.lt_of_lt_of_le hk h.size)]
    exact h.block k hk hM
  · intro b o hb'
    rw [hb.block b (h.lt_of_g hb')]
    exact h.agree b o hb'
/-- the world is this one -/
def AtW (w x : World) : Prop := x = w
theorem AtW.cell {w x : World} (h : AtW x w) {a : Addr} {v : Value} (hc : w.cell? a = some v) : x.cell? a = some v := by
  cases h; exact hc
theorem results_none {P : Program} {fn : Func} (h : fn.results = #[]) (tmps : Array Value) (w : World) : (results fn tmps).run P w = .ok (.tuple #[]) w := by simp [results, h]
/-! rows and new blocks -/
section
variable {P : Program} {ops : Array Oper} {Q : Exit → Act → World → Prop} {n : Nat} {kn : Kn} {o : Oper} {rest : List Oper} {w0 w w' : World} {M : List Nat} {g0 g : Mem} {own own' : List (Nat × Obj)} {d : Nat}
theorem Row.alloc {E : TypeId} {sz m : Nat} {V : Value} {X : List Value} (h : Row w0 M g0 g own E sz V m X w) (ob : Obj) : Row w0 M g0 g (own ++ [(w.heap.size, ob)]) E sz V m X (w.alloc ob) := by
  refine ⟨h.1, ?_⟩
  rcases h.2 with ⟨h1, h2, h3⟩ | ⟨b, cap, cur, h1, h2, h3, h4, h5, h6, h7⟩
  · exact .inl ⟨h1, h2, h3.alloc ob⟩
  · refine .inr ⟨b, cap, cur, h1, h2, h3, h4, h5, h6, (h7.alloc ob).perm ?_⟩
    rw [List.append_assoc, List.append_assoc]
    exact List.Perm.append_left _ (List.perm_append_comm ..)
theorem Row.sub {E : TypeId} {sz m : Nat} {V : Value} {X : List Value} (h : Row w0 M g0 g own E sz V m X w) (hs : List.Sublist own' own) : Row w0 M g0 g own' E sz V m X w := by
  refine ⟨h.1, ?_⟩
  rcases h.2 with ⟨h1, h2, h3⟩ | ⟨b, cap, cur, h1, h2, h3, h4, h5, h6, h7⟩
  · exact .inl ⟨h1, h2, h3.weaken _ hs⟩
  · exact .inr ⟨b, cap, cur, h1, h2, h3, h4, h5, h6, h7.weaken _ (hs.append_right _)⟩
theorem stepK_buildSlice_row {E : TypeId} {SZ m : Nat} {V : Value} {X : List Value} {t e : TypeId} {len : Nat} {parts : List (Nat × Operand)} {z : Value} {zl l : List Value} {sz by_ : Nat} {vs : List (Nat × Value)} (hdst : o.dst = some d) (hg : o.guard = none) (hd : Nat.ble (d + 1) n = true) (ho : o.op = .buildSlice t len parts.toArray) (hu : P.underlying t = some (.slice e)) (he : elemInfo P e = some (z, sz, by_))
    (hz : cellsOf z = some zl) (hzs : zl.length = sz) (hs : 0 < sz) (hlen : 0 < len) (hsm : len * sz ≤ 16777216) (hvs : kparts kn parts = some vs) (hf : fillL (fun i => some (i * sz, sz)) (repL len zl) vs = some l) (hrow : Row w0 M g0 g own E SZ V m X w)
    (h : ∀ b w', Row w0 M g0 g (own ++ [(b, .cells l.toArray e (0, 0))]) E SZ V m X w' → wpK P ops Q n rest ((d, .slice (some ⟨b, 0, none⟩) len len) :: kn) w') : wpK P ops Q n (o :: rest) kn w :=
  stepK_run hdst hg hd (run_buildSlice' ho hu he hz hzs hs hlen hsm hvs hf) (h _ _ (hrow.alloc _))
/-- a variable, at a place that is told -/
theorem stepK_allocW {elem : TypeId} {v : Value} {l : List Value} (hdst : o.dst = some d) (hg : o.guard = none) (hd : Nat.ble (d + 1) n = true) (ho : o.op = .alloc elem) (hz : zeroOf P elem = some v) (hl : cellsOf v = some l)
    (h : wpK P ops Q n rest ((d, .pointer (some ⟨w.heap.size, 0, none⟩)) :: kn) (w.alloc (.cells l.toArray elem))) : wpK P ops Q n (o :: rest) kn w :=
  stepK_run hdst hg hd (run_alloc ho hz hl) h
theorem does_slice_arr {S : World → Prop} {t e : TypeId} {x : Operand} {b N : Nat} (ho : o.op = .slice t x none none none) (hu : P.underlying t = some (.array N e)) (hs : sizeB P e = some 1) (hx : kev kn x = some (.pointer (some ⟨b, 0, none⟩))) (h0 : 0 < N) : Does P S kn o (.slice (some ⟨b, 0, none⟩) N N) :=
  fun ρ hρ w hw => by
    have h1 := hρ x _ hx
    have hN : N ≠ 0 := by omega
    simp [execOp, ho, h1, Instr.sliceAt, run_underlying hu, Instr.sliceBounds, Instr.sureAddr, run_sizeB hs, Addr.add]
end
theorem IsBuilder.later {T e : TypeId} {B b : Nat} {bs : List Value} {w w' : World} (h : Lib.IsBuilder T e B b bs w) (hb : Below w.heap.size w w') : Lib.IsBuilder T e B b bs w' := by
  have key : ∀ p, Lib.BuilderAt T e B b p bs w → Lib.BuilderAt T e B b p bs w' := fun p h => by
    have hlt := h.lt
    obtain ⟨hB, v, h1, h2, h3⟩ := h
    refine ⟨hB, v, by rw [hb.block b hlt]; exact h1, ?_, h3⟩
    refine h2.kept (row := none) ⟨hb.os, hb.tape, hb.output, hb.size, fun k hk _ => hb.block k hk⟩ ?_
    cases hv : v.ownBlock with
    | none => exact .inl rfl
    | some k => exact .inr (by simp)
  exact h.imp (key _) (key _)
section
variable {P : Program} {kn : Kn} {o : Oper} {w0 w : World} {M : List Nat} {g0 g : Mem} {own : List (Nat × Obj)}
/-- the bytes of an own block as a string -/
theorem does_conv_bytes {sT dT e t : TypeId} {x : Operand} {b N : Nat} {ds : List Nat} {f : Nat × Nat} (k : Nat) (ho : o.op = .convert sT dT x) (hs : P.underlying sT = some (.slice e)) (he : P.underlying e = some (.int .u8)) (hd : P.underlying dT = some .string) (hx : kev kn x = some (.slice (some ⟨b, 0, none⟩) N N))
    (hk : own[k]? = some (b, .cells (uN .u8 ds).toArray t f)) (hl : ds.length = N) : Does P (St w0 M g0 g own) kn o (.string ⟨(ds.map UInt8.ofNat).toArray⟩) :=
  fun ρ hρ w hw => by
    have h1 := hρ x _ hx
    have h2 := run_loadCells_list (P := P) w ⟨b, 0, none⟩ (uN .u8 ds) (fun j v hj => by
      rw [addr_add, Nat.zero_add]
      exact hw.cell_own k hk (by simpa using hj))
    rw [uN_length, hl] at h2
    have h3 : uN .u8 ds = (ds.map fun (x : Nat) => (x : Int)).map (Value.int .u8) := by simp [uN, Function.comp_def]
    rw [h3] at h2
    have h4 := run_bytesToString (P := P) w ⟨b, 0, none⟩ N N _ h2
    simp only [execOp, ho, h1]
    have h5 := run_convert_bytes_string (P := P) w sT dT e (some ⟨b, 0, none⟩) N N hs he hd
    rw [h4] at h5
    have h6 : (List.map (fun (x : Nat) => (x : Int)) ds).foldl (fun r n => r.push (UInt8.ofNat n.toNat)) ByteArray.empty = (⟨(ds.map UInt8.ofNat).toArray⟩ : ByteArray) := by
      rw [foldl_push_bytes]
      simp [ByteArray.empty, ByteArray.emptyWithCapacity, Function.comp_def]
      rfl
    rw [h6] at h5
    simp [h5]
end
/-! chunks of 19 digits -/
theorem dvL_append : ∀ (a b : List UInt8), dvL (a ++ b) = dvL a * 10 ^ b.length + dvL b := by
  intro a b
  induction b using snoc_ind with
  | h0 => simp [dvL]
  | h1 l c ih =>
    rw [← List.append_assoc, dvL_snoc, dvL_snoc, ih, List.length_append, List.length_singleton, Nat.pow_succ, ← Nat.mul_assoc]
    omega
theorem dvL_cons (c : UInt8) (l : List UInt8) : dvL (c :: l) = (c.toNat - 48) * 10 ^ l.length + dvL l := by
  have h := dvL_append [c] l
  have h1 : dvL [c] = c.toNat - 48 := by simp [dvL]
  rw [h1] at h
  exact h
theorem dvL_strip (l : List UInt8) : dvL (l.dropWhile (· == 48)) = dvL l := by
  induction l with
  | nil => rfl
  | cons c r ih =>
    by_cases h : c = 48
    · subst h
      rw [List.dropWhile_cons, if_pos (by decide), ih, dvL_cons]
      have : (48 : UInt8).toNat - 48 = 0 := by decide
      rw [this]
      omega
    · rw [List.dropWhile_cons, if_neg (by simpa using h)]
theorem strip_text {l : List UInt8} {W : Nat} (hd : DigL l) (hv : dvL l = W) (h0 : 0 < W) : l.dropWhile (· == 48) = decDigits W := by
  have hne : l.dropWhile (· == 48) ≠ [] := fun e => by
    have := dvL_strip l
    rw [e, hv] at this
    simp [dvL] at this
    omega
  have hh : (l.dropWhile (· == 48)).head? ≠ some 48 := by
    intro e
    have := List.head?_dropWhile_not (p := (· == (48 : UInt8))) l
    rw [e] at this
    simp at this
  have hp : PlainL (l.dropWhile (· == 48)) := ⟨hne, fun e => absurd e hh, fun c hc => hd c ((List.dropWhile_sublist _).mem hc)⟩
  rw [plainL_eq _ hp, dvL_strip, hv]
theorem pad_text {l : List UInt8} {H W : Nat} (hd : DigL l) (hl : l.length = 19) (hv : dvL l = W) (h0 : 0 < H) : decDigits H ++ l = decDigits (H * 10000000000000000000 + W) := by
  obtain ⟨p1, p2, p3⟩ := decDigits_props H
  have hp : PlainL (decDigits H ++ l) := by
    refine ⟨by simp [decDigits_ne], fun e => ?_, fun c hc => ?_⟩
    · refine absurd ?_ (p3 h0)
      cases hx : decDigits H with
      | nil => exact absurd hx (decDigits_ne H)
      | cons a r => rw [hx] at e; simpa using e
    · rw [List.mem_append] at hc
      rcases hc with hc | hc
      · exact p1 c hc
      · exact hd c hc
  have := plainL_eq _ hp
  rw [dvL_append, p2, hl, hv] at this
  exact this
/-- base 10 to the 19 -/
def pv : List Nat → Nat
  | [] => 0
  | x :: r => x + 10000000000000000000 * pv r
theorem pv_snoc (l : List Nat) (r : Nat) : pv (l ++ [r]) = pv l + 10000000000000000000 ^ l.length * r := by
  induction l with
  | nil => simp [pv]
  | cons x l ih =>
    simp only [List.cons_append, pv, ih, List.length_cons, Nat.pow_succ]
    grind
theorem pv_drop {l : List Nat} {k x : Nat} (h : l[k]? = some x) : pv (l.drop k) = x + 10000000000000000000 * pv (l.drop (k + 1)) := by
  rw [drop_cons_get h]
  rfl
theorem parts_len {N X L k : Nat} (hX : 0 < X) (h : X * 10000000000000000000 ^ k ≤ N) (hN : N < 18446744073709551616 ^ L) : k ≤ 2 * L := by
  rcases Nat.le_total k (2 * L) with h1 | h1
  · exact h1
  · have h2 : 10000000000000000000 ^ (2 * L) ≤ 10000000000000000000 ^ k := Nat.pow_le_pow_right (by decide) h1
    have h3 : 18446744073709551616 ^ L ≤ 10000000000000000000 ^ (2 * L) := by
      rw [Nat.pow_mul]
      exact Nat.pow_le_pow_left (by decide) L
    have h4 := Nat.mul_le_mul_right (10000000000000000000 ^ k) hX
    omega
end Go.Proofs.Vc

namespace Go.Proofs.Vc
open Go Go.Lib
set_option linter.unusedVariables false
theorem digit_lt {Y j : Nat} (hY : Y < 10 ^ j) (h : 0 < j) : Y / 10 < 10 ^ (j - 1) := by
  obtain ⟨i, rfl⟩ : ∃ i, j = i + 1 := ⟨j - 1, by omega⟩
  rw [Nat.pow_succ] at hY
  rw [Nat.add_sub_cancel]
  omega
theorem drop_set_nat {ds : List Nat} {j z : Nat} (h : j < ds.length) : (ds.set j z).drop j = z :: ds.drop (j + 1) := drop_set_ge h
theorem digit_ok {ds : List Nat} {j Y : Nat} (hdd : ∀ d ∈ ds.drop j, 48 ≤ d ∧ d ≤ 57) (h : 0 < j) : ∀ d ∈ (ds.set (j - 1) (48 + Y % 10)).drop (j - 1), 48 ≤ d ∧ d ≤ 57 := by
  intro d hd
  rcases Nat.lt_or_ge (j - 1) ds.length with hl | hl
  · rw [drop_set_nat hl, show j - 1 + 1 = j by omega] at hd
    rcases List.mem_cons.1 hd with hd | hd
    · omega
    · exact hdd d hd
  · rw [List.drop_eq_nil_of_le (by simp; omega)] at hd
    cases hd
theorem digit_put {ds : List Nat} {j Y x : Nat} (hdv : Y * 10 ^ (19 - j) + dvL ((ds.drop j).map UInt8.ofNat) = x) (hdd : ∀ d ∈ ds.drop j, 48 ≤ d ∧ d ≤ 57) (h : 0 < j) (hj : j ≤ 19) (hl : ds.length = 19) :
    Y / 10 * 10 ^ (19 - (j - 1)) + dvL (((ds.set (j - 1) (48 + Y % 10)).drop (j - 1)).map UInt8.ofNat) = x := by
  rw [drop_set_nat (by omega), show j - 1 + 1 = j by omega, List.map_cons, dvL_cons, u8_dig (by omega), List.length_map, List.length_drop, hl, show 19 - (j - 1) = 19 - j + 1 by omega, Nat.pow_succ, ← hdv]
  generalize dvL ((ds.drop j).map UInt8.ofNat) = v
  generalize 10 ^ (19 - j) = p
  have h1 := Nat.div_add_mod Y 10
  have h2 : 48 + Y % 10 - 48 = Y % 10 := by omega
  rw [h2]
  generalize Y / 10 = a at *
  generalize Y % 10 = b at *
  subst h1
  grind
theorem digL_map {ds : List Nat} (hdd : ∀ d ∈ ds, 48 ≤ d ∧ d ≤ 57) : DigL (ds.map UInt8.ofNat) := by
  intro c hc
  obtain ⟨d, hd, rfl⟩ := List.mem_map.1 hc
  have := hdd d hd
  have e : (UInt8.ofNat d).toNat = d := by
    show d % 2 ^ 8 = d
    omega
  rw [e]
  exact this
theorem strip_size {ds : List Nat} (hl : ds.length = 19) : (⟨((Lb ⟨(ds.map UInt8.ofNat).toArray⟩).dropWhile (· == 48)).toArray⟩ : ByteArray).size ≤ 19 := by
  rw [← Lb_length, Lb_mk, Lb_mk]
  have := (List.dropWhile_sublist (l := ds.map UInt8.ofNat) (· == (48 : UInt8))).length_le
  rw [List.length_map, hl] at this
  exact this
theorem pv_pos {ps : List Nat} (hl : ps.getLast? ≠ some 0) : ∀ {k : Nat}, k < ps.length → 0 < pv (ps.drop k) := by
  intro k hk
  obtain ⟨l, r, rfl⟩ : ∃ l r, ps = l ++ [r] := ⟨ps.dropLast, ps.getLast (fun e => by subst e; simp at hk), (List.dropLast_concat_getLast _).symm⟩
  rw [List.getLast?_concat] at hl
  have hr : r ≠ 0 := fun e => hl (by rw [e])
  rw [List.length_append, List.length_singleton] at hk
  rw [List.drop_append_of_le_length (by omega), pv_snoc]
  have h1 : 0 < 10000000000000000000 ^ (l.drop k).length := Nat.pow_pos (by decide)
  have := Nat.mul_pos h1 (Nat.pos_of_ne_zero hr)
  omega
theorem text_first {ps : List Nat} {acc : List UInt8} {ds : List Nat} {k x : Nat} (hacc : acc = (if k = ps.length then [] else decDigits (pv (ps.drop k)))) (hd : DigL (ds.map UInt8.ofNat)) (hv : dvL (ds.map UInt8.ofNat) = x) (hx : ps[k - 1]? = some x) (hk : 0 < k ∧ k = ps.length) (hl : ps.getLast? ≠ some 0) :
    acc ++ Lb ⟨((Lb ⟨(ds.map UInt8.ofNat).toArray⟩).dropWhile (· == 48)).toArray⟩ = decDigits (pv (ps.drop (k - 1))) := by
  rw [if_pos hk.2] at hacc
  subst hacc
  rw [pv_drop hx, show k - 1 + 1 = k by omega, List.drop_eq_nil_of_le (by omega), Lb_mk, Lb_mk, List.nil_append]
  have hx0 : 0 < x := Nat.pos_of_ne_zero fun e => hl (by rw [List.getLast?_eq_getElem?, ← hk.2, hx, e])
  exact strip_text hd hv hx0
theorem text_next {ps : List Nat} {acc : List UInt8} {ds : List Nat} {k x : Nat} (hacc : acc = (if k = ps.length then [] else decDigits (pv (ps.drop k)))) (hd : DigL (ds.map UInt8.ofNat)) (hlen : (ds.map UInt8.ofNat).length = 19) (hv : dvL (ds.map UInt8.ofNat) = x) (hx : ps[k - 1]? = some x) (hk : k ≠ ps.length) (hk0 : 0 < k ∧ k ≤ ps.length) (hl : ps.getLast? ≠ some 0) :
    acc ++ Lb ⟨(ds.map UInt8.ofNat).toArray⟩ = decDigits (pv (ps.drop (k - 1))) := by
  rw [if_neg hk] at hacc
  subst hacc
  rw [pv_drop hx, show k - 1 + 1 = k by omega, Lb_mk, pad_text hd hlen hv (pv_pos hl (by omega))]
  congr 1
  omega
theorem decDigits_len : ∀ (m N : Nat), N < 10 ^ (m + 1) → (decDigits N).length ≤ m + 1
  | 0, N, h => by rw [decDigits_one (by simpa using h)]; simp
  | m + 1, N, h => by
    rw [decDigits]
    by_cases h1 : N < 10
    · rw [dif_pos h1]; simp
    · rw [dif_neg h1, List.length_append, List.length_singleton]
      rw [Nat.pow_succ] at h
      have := decDigits_len m (N / 10) (by omega)
      omega
theorem pv_lt {ps : List Nat} (h : ∀ d ∈ ps, d < 10000000000000000000) : pv ps < 10 ^ (19 * ps.length) := by
  induction ps with
  | nil => simp [pv]
  | cons x r ih =>
    have h1 := h x (by simp)
    have h2 := ih (fun d hd => h d (by simp [hd]))
    rw [List.length_cons, show 19 * (r.length + 1) = 19 * r.length + 19 by omega, Nat.pow_add]
    have h3 : (10 : Nat) ^ 19 = 10000000000000000000 := by decide
    rw [h3]
    simp only [pv]
    generalize 10 ^ (19 * r.length) = p at *
    omega
theorem acc_len {ps : List Nat} {acc : List UInt8} {k : Nat} (hacc : acc = (if k = ps.length then [] else decDigits (pv (ps.drop k)))) (h : ∀ d ∈ ps, d < 10000000000000000000) (hk : k ≤ ps.length) : acc.length ≤ 19 * ps.length := by
  by_cases h1 : k = ps.length
  · rw [if_pos h1] at hacc
    subst hacc
    simp
  · rw [if_neg h1] at hacc
    subst hacc
    have h2 := pv_lt (ps := ps.drop k) (fun d hd => h d (List.mem_of_mem_drop hd))
    rw [List.length_drop] at h2
    have := decDigits_len (19 * (ps.length - k) - 1) _ (by rw [show 19 * (ps.length - k) - 1 + 1 = 19 * (ps.length - k) by omega]; exact h2)
    omega
end Go.Proofs.Vc

namespace Go.Proofs.Vc
open Go Go.Lib Go.RowKit Go.Sort
set_option linter.unusedVariables false
/-- the table of powers of ten lies among what is kept for good -/
def TabG (P : Program) (g : Mem) : Prop := ∀ w, Agree g w → Lib.TabIs P w "internal/strconv.uint64pow10" .u64 Lib.pow10Tab
theorem TabG.mono {P : Program} {g g' : Mem} (h : TabG P g) (hle : g.le g') : TabG P g' := fun w hw => h w fun b o hb => hw b o (hle b o hb)
theorem St.of_below {g : Mem} {w w' : World} (h : Agree g w) (hb : Below w.heap.size w w') : St w [] g g [] w' := (St.init h).later hb
theorem below_grow (w : World) (k : Nat) (os : Array Obj) : Below w.heap.size w (grow (w.drewN k) os) := by
  refine ⟨rfl, rfl, rfl, ?_, fun i hi => ?_⟩
  · show w.heap.size ≤ (w.heap ++ os).size
    simp
  · show (w.heap ++ os)[i]? = w.heap[i]?
    rw [Array.getElem?_append_left hi]
theorem str_append (a b : List UInt8) : (⟨a.toArray⟩ : ByteArray) ++ ⟨b.toArray⟩ = ⟨(a ++ b).toArray⟩ := by
  apply ByteArray.ext
  simp [ByteArray.data_append]
theorem itoa_one_den {r : Rat} (h : r.den = 1) : ratL r = itoa r.num := by simp [ratL, h]
theorem ratS_of {r : Rat} {l : List UInt8} (h : l = ratL r) : (⟨l.toArray⟩ : ByteArray) = ratS r := by rw [h]; rfl
theorem itoa_den (r : Rat) : itoa (r.den : Int) = decDigits r.den := itoa_nonneg r.den
theorem does_add_L {P : Program} {S : World → Prop} {kn : Kn} {o : Oper} {t yt : TypeId} {x y : Operand} {a b : List UInt8} (ho : o.op = .binOp .add t x y yt) (hx : kev kn x = some (.string ⟨a.toArray⟩)) (hy : kev kn y = some (.string ⟨b.toArray⟩)) (hl : a.length + b.length ≤ 9223372036854775807) : Does P S kn o (.string ⟨(a ++ b).toArray⟩) :=
  (does_add_string ho hx hy (by rw [← Lb_length, ← Lb_length, Lb_mk, Lb_mk]; exact hl)).cast (by rw [str_append])
theorem len_small {N : Nat} (h : N < 2147483648) : (decDigits N).length ≤ 10 := decDigits_len 9 N (by omega)
theorem itoa_len (n : Int) : (itoa n).length ≤ (decDigits n.natAbs).length + 1 := by
  unfold itoa
  split
  · simp
  · rename_i h
    rw [show n.toNat = n.natAbs by omega]
    omega
theorem len_big {N k : Nat} (h : N < 18446744073709551616 ^ k) (hk : 0 < k) : (decDigits N).length ≤ 20 * k := by
  have h1 : 18446744073709551616 ^ k ≤ 10 ^ (20 * k) := by
    rw [Nat.pow_mul]
    exact Nat.pow_le_pow_left (by decide) k
  have := decDigits_len (20 * k - 1) N (by rw [show 20 * k - 1 + 1 = 20 * k by omega]; exact Nat.lt_of_lt_of_le h h1)
  omega
theorem ratL_small {r : Rat} (h : smallR r) : (ratL r).length ≤ 22 := by
  have h1 := itoa_len r.num
  have h2 := len_small h.1
  have h3 := len_small h.2
  unfold ratL
  rw [List.length_append]
  split <;> simp <;> omega
theorem ratL_cut (r : Rat) : ratL r = (if r.num < 0 then 45 :: decDigits r.num.natAbs else decDigits r.num.natAbs) ++ (if r.den = 1 then [] else 47 :: decDigits r.den) := by rw [ratL, itoa_num]
/-- cell i of block b, kept for good -/
def GCell (g : Mem) (b i : Nat) (v : Value) : Prop := gcell g b i = some v
theorem GCell.mono {g g' : Mem} {b i : Nat} {v : Value} (h : GCell g b i v) (hle : g.le g') : GCell g' b i v := gcell_le hle h
end Go.Proofs.Vc

namespace Go.Proofs.YtbamjcfdlgnicaaDoor
open Go Go.RowKit Go.Proofs.Vc
set_option linter.unusedVariables false
set_option linter.unusedSimpArgs false


theorem iFormatInt {g : Mem} {w : World} (hag : Agree g w) (hT : TabG Tryd.prog g) {n : Int} (h1 : -9223372036854775808 ≤ n) (h2 : n ≤ 9223372036854775807) :
    CallTo Tryd.prog 71 #[.int .i64 n, .int .i64 10] w (Ret w g fun v g' => v = .string ⟨(Lib.itoa n).toArray⟩) :=
  .inl ⟨enters (by kernel_rfl : Tryd.prog.funcs[71]? = some Tryd.f71) (by kernel_rfl) rfl _ _, (Tryd.internal_strconv_FormatInt_10 n h1 h2 w (hT w hag)).mono fun e w' ⟨he, k, os, hw⟩ => ⟨_, g, he, by rw [hw]; exact St.of_below hag (below_grow _ _ _), rfl⟩⟩

set_option maxHeartbeats 1000000 in
theorem FormatInt {g : Mem} {w : World} (hag : Agree g w) (hT : TabG Tryd.prog g) {n : Int} (h1 : -9223372036854775808 ≤ n) (h2 : n ≤ 9223372036854775807) :
    CallTo Tryd.prog 57 #[.int .i64 n, .int .i64 10] w (Ret w g fun v g => v = .string ⟨(Lib.itoa n).toArray⟩) := by
  refine CallTo.enter (vs := [.int .i64 n, .int .i64 10]) (by kernel_rfl : Tryd.prog.funcs[57]? = some Tryd.f57) (by kernel_rfl) rfl rfl rfl ?_
  have hst := St.init hag
  refine cp_seq ?_
  refine cp_region ?_
  refine stepK_d rfl rfl rfl hst (does_assign rfl rfl) ?_
  refine wpK_nil ?_
  refine cp_then ?_
  refine cp_seq ?_
  refine cp_region ?_
  refine stepK_d rfl rfl rfl hst (does_move rfl rfl) ?_
  refine stepK_d rfl rfl rfl hst (does_move rfl rfl) ?_
  refine stepK_call rfl rfl rfl rfl rfl hst (iFormatInt hst.agree hT h1 h2) ?_
  clear hst
  intro v1 g1 w1 hst hle1 hcs1 hp1
  replace hT := hT.mono hle1
  obtain rfl := hp1
  refine stepK_d rfl rfl rfl hst (does_assign rfl rfl) ?_
  refine wpK_nil ?_
  refine cp_then ?_
  refine cp_ret ?_
  refine ret1 rfl rfl hst ?_
  rfl

end Go.Proofs.YtbamjcfdlgnicaaDoor

namespace Go.Proofs.YtbamjcfdlgnicaaDoor
open Go Go.RowKit Go.Proofs.Vc
set_option linter.unusedVariables false
set_option linter.unusedSimpArgs false

set_option maxHeartbeats 1000000 in
theorem trimLeftByte {g : Mem} {w : World} (hag : Agree g w) {s : ByteArray} {c : UInt8} (hs : s.size ≤ 1099511627776) :
    CallTo Tryd.prog 88 #[.string s, .int .u8 ((c.toNat : Nat) : Int)] w (Ret w g fun v g => v = .string ⟨((Lb s).dropWhile (· == c)).toArray⟩) := by
  refine CallTo.enter (vs := [.string s, .int .u8 ((c.toNat : Nat) : Int)]) (by kernel_rfl : Tryd.prog.funcs[88]? = some Tryd.f88) (by kernel_rfl) rfl rfl rfl ?_
  have hst := St.init hag
  refine cp_seq ?_
  refine cp_region ?_
  refine stepK_d rfl rfl rfl hst (does_assign rfl rfl) ?_
  refine wpK_nil ?_
  refine cp_then ?_
  refine cp_seq ?_
  refine cp_block ?_
  refine cp_loop (ι := ByteArray × Nat) (fun (t, k) => [(0, .string t), (1, .int .u8 ((c.toNat : Nat) : Int))]) (fun (t, k) w1 => St w [] g g [] w1 ∧ t = s.extract k s.size ∧ k ≤ s.size ∧ (Lb t).dropWhile (· == c) = (Lb s).dropWhile (· == c)) (fun (t, k) => s.size - k) (s, 0) ?k1 ?i1 ?r1
  case k1 => exact ⟨rfl, rfl, trivial⟩
  case i1 =>
    exact ⟨hst, by rw [ByteArray.extract_zero_size], Nat.zero_le _, rfl⟩
  case r1 =>
    clear hst
    rintro ⟨t, k⟩ w1 ⟨hst, ht, hk, hd⟩
    have htl : t.size = s.size - k := by rw [ht, size_tail]
    refine cp_seq ?_
    refine cp_seq ?_
    refine cp_region ?_
    refine stepK_d rfl rfl rfl hst (does_move rfl rfl) ?_
    refine stepK_d rfl rfl rfl hst (does_len_string rfl (by kernel_rfl) rfl) ?_
    refine stepK_d rfl rfl rfl hst (does_gtr rfl rfl rfl) ?_
    refine stepK_d rfl rfl rfl hst (does_move rfl rfl) ?_
    refine wpK_split (t := 8) rfl ?_ ?_
    · intro s8
      refine stepK_guard rfl rfl rfl rfl rfl rfl hst (does_move rfl rfl) ?_
      refine stepK_guard rfl rfl rfl rfl rfl rfl hst (does_index_bt (j := 0) rfl (by kernel_rfl) rfl rfl (by omega) (by omega)) ?_
      refine stepK_guard rfl rfl rfl rfl rfl rfl hst (does_move rfl rfl) ?_
      refine stepK_guard rfl rfl rfl rfl rfl rfl hst (does_eql_n rfl rfl rfl) ?_
      refine stepK_d rfl rfl rfl hst (does_pick_true rfl rfl rfl) ?_
      refine wpK_nil ?_
      refine cp_then ?_
      refine cp_if rfl ?_ ?_
      · intro c13
        refine cp_skip ?_
        refine cp_then ?_
        refine cp_block ?_
        refine cp_region ?_
        refine stepK_d rfl rfl rfl hst (does_move rfl rfl) ?_
        refine stepK_d rfl rfl rfl hst (does_slice_string (l := 1) (h := t.size) rfl (by kernel_rfl) rfl ⟨_, _, rfl, rfl⟩ rfl (by omega) (Nat.le_refl _)) ?_
        refine stepK_d rfl rfl rfl hst (does_assign rfl rfl) ?_
        refine wpK_nil ?_
        refine at_block_normal ?_
        refine round_end ((t.extract 1 t.size, k + 1)) ?_ ?_ ?_
        · exact ⟨rfl, rfl, trivial⟩
        · refine ⟨hst, by rw [ht, extract_tail], by omega, ?_⟩
          rw [← hd, Lb_cut1 (c := c) (by omega) c13]
          simp
        · show s.size - (k + 1) < s.size - k
          omega
      · intro c13
        refine cp_exit ?_
        refine at_then_exit ?_
        refine at_then_exit ?_
        refine cp_exit_here ?_
        refine cp_then ?_
        refine cp_seq ?_
        refine cp_region ?_
        refine stepK_d rfl rfl rfl hst (does_move rfl rfl) ?_
        refine stepK_d rfl rfl rfl hst (does_assign rfl rfl) ?_
        refine wpK_nil ?_
        refine cp_then ?_
        refine cp_ret ?_
        refine ret1 rfl rfl hst ?_
        congr 1
        refine Lb_ext ?_
        rw [Lb_mk, ← hd]
        exact (dropWhile_stop (Lb_head_ne (fun _ => c13))).symm
    · intro s8
      refine stepK_pass rfl rfl rfl rfl rfl rfl rfl ?_
      refine stepK_pass rfl rfl rfl rfl rfl rfl rfl ?_
      refine stepK_pass rfl rfl rfl rfl rfl rfl rfl ?_
      refine stepK_pass rfl rfl rfl rfl rfl rfl rfl ?_
      refine stepK_d rfl rfl rfl hst (does_pick_false rfl rfl rfl) ?_
      refine wpK_nil ?_
      refine cp_then ?_
      refine cp_cond_false rfl ?_
      refine cp_exit ?_
      refine at_then_exit ?_
      refine at_then_exit ?_
      refine cp_exit_here ?_
      refine cp_then ?_
      refine cp_seq ?_
      refine cp_region ?_
      refine stepK_d rfl rfl rfl hst (does_move rfl rfl) ?_
      refine stepK_d rfl rfl rfl hst (does_assign rfl rfl) ?_
      refine wpK_nil ?_
      refine cp_then ?_
      refine cp_ret ?_
      refine ret1 rfl rfl hst ?_
      congr 1
      refine Lb_ext ?_
      rw [Lb_mk, ← hd]
      exact (dropWhile_stop (Lb_head_ne (fun h => by omega))).symm

end Go.Proofs.YtbamjcfdlgnicaaDoor

namespace Go.Proofs.YtbamjcfdlgnicaaDoor
open Go Go.RowKit Go.Proofs.Vc
set_option linter.unusedVariables false
set_option linter.unusedSimpArgs false

set_option maxHeartbeats 1000000 in
theorem strings_TrimLeft {g : Mem} {w : World} (hag : Agree g w) {s : ByteArray} {c : UInt8} (hs : s.size ≤ 1099511627776) (hc : c.toNat < 128) :
    CallTo Tryd.prog 73 #[.string s, .string ⟨#[c]⟩] w (Ret w g fun v g => v = .string ⟨((Lb s).dropWhile (· == c)).toArray⟩) := by
  refine CallTo.enter (vs := [.string s, .string ⟨#[c]⟩]) (by kernel_rfl : Tryd.prog.funcs[73]? = some Tryd.f73) (by kernel_rfl) rfl rfl rfl ?_
  have hst := St.init hag
  have hb0 : bt ⟨#[c]⟩ 0 = c.toNat := rfl
  have hs1 : (⟨#[c]⟩ : ByteArray).size = 1 := rfl
  refine cp_seq ?_
  refine cp_region ?_
  refine stepK_d rfl rfl rfl hst (does_assign rfl rfl) ?_
  refine wpK_nil ?_
  refine cp_then ?_
  refine cp_seq ?_
  refine cp_seq ?_
  refine cp_region ?_
  refine stepK_d rfl rfl rfl hst (does_move rfl rfl) ?_
  refine stepK_d rfl rfl rfl hst (does_eql_string rfl rfl rfl) ?_
  refine stepK_d rfl rfl rfl hst (does_move rfl rfl) ?_
  refine wpK_split (t := 9) rfl ?_ ?_
  · intro s9
    refine stepK_pass rfl rfl rfl rfl rfl rfl rfl ?_
    refine stepK_pass rfl rfl rfl rfl rfl rfl rfl ?_
    refine stepK_d rfl rfl rfl hst (does_pick_true rfl rfl rfl) ?_
    refine wpK_nil ?_
    refine cp_then ?_
    refine cp_cond_true rfl ?_
    refine cp_seq ?_
    refine cp_region ?_
    refine stepK_d rfl rfl rfl hst (does_move rfl rfl) ?_
    refine stepK_d rfl rfl rfl hst (does_assign rfl rfl) ?_
    refine wpK_nil ?_
    refine cp_then ?_
    refine cp_ret ?_
    refine at_then_ret ?_
    refine ret1 rfl rfl hst ?_
    rw [s9]
    rfl
  · intro s9
    refine stepK_guard rfl rfl rfl rfl rfl rfl hst (does_move rfl rfl) ?_
    refine stepK_guard rfl rfl rfl rfl rfl rfl hst (does_eql_string rfl rfl rfl) ?_
    refine stepK_d rfl rfl rfl hst (does_pick_false rfl rfl rfl) ?_
    refine wpK_nil ?_
    refine cp_then ?_
    refine cp_if rfl ?_ ?_
    · intro c12
      exact absurd (congrArg ByteArray.size c12) (by rw [hs1]; decide)
    · intro c12
      refine cp_skip ?_
      refine cp_then ?_
      refine cp_seq ?_
      refine cp_seq ?_
      refine cp_region ?_
      refine stepK_d rfl rfl rfl hst (does_move rfl rfl) ?_
      refine stepK_d rfl rfl rfl hst (does_len_string rfl (by kernel_rfl) rfl) ?_
      refine stepK_d rfl rfl rfl hst (does_eql rfl rfl rfl) ?_
      refine stepK_d rfl rfl rfl hst (does_move rfl rfl) ?_
      refine wpK_split (t := 17) rfl ?_ ?_
      · intro s17
        refine stepK_guard rfl rfl rfl rfl rfl rfl hst (does_move rfl rfl) ?_
        refine stepK_guard rfl rfl rfl rfl rfl rfl hst (does_index_bt (j := 0) rfl (by kernel_rfl) rfl rfl (by omega) (by omega)) ?_
        refine stepK_guard rfl rfl rfl rfl rfl rfl hst (does_lss_n (b := 128) rfl rfl rfl) ?_
        refine stepK_d rfl rfl rfl hst (does_pick_true rfl rfl rfl) ?_
        refine wpK_nil ?_
        refine cp_then ?_
        refine cp_if rfl ?_ ?_
        · intro c21
          refine cp_seq ?_
          refine cp_region ?_
          refine stepK_d rfl rfl rfl hst (does_move rfl rfl) ?_
          refine stepK_d rfl rfl rfl hst (does_move rfl rfl) ?_
          refine stepK_d rfl rfl rfl hst (Does.nat (b := c.toNat) (does_index_bt (j := 0) rfl (by kernel_rfl) rfl rfl rfl (by rw [hs1]; decide)) (by rw [hb0])) ?_
          refine stepK_call rfl rfl rfl rfl rfl hst (trimLeftByte hst.agree hs) ?_
          clear hst
          intro v1 g1 w1 hst hle1 hcs1 hp1
          obtain rfl := hp1
          refine stepK_d rfl rfl rfl hst (does_assign rfl rfl) ?_
          refine wpK_nil ?_
          refine cp_then ?_
          refine cp_ret ?_
          refine at_then_ret ?_
          refine ret1 rfl rfl hst ?_
          rfl
        · intro c21
          omega
      · intro s17
        exact absurd (show (((⟨#[c]⟩ : ByteArray).size : Nat) : Int) = 1 by rw [hs1]; rfl) s17

end Go.Proofs.YtbamjcfdlgnicaaDoor

namespace Go.Proofs.YtbamjcfdlgnicaaDoor
open Go Go.RowKit Go.Proofs.Vc
set_option linter.unusedVariables false
set_option linter.unusedSimpArgs false

set_option maxHeartbeats 1000000 in
theorem Builder_copyCheck {w : World} {b : Nat} {p : Option Addr} {v : Value} (hb : w.heap[b]? = some (.cells #[.pointer p, v] 98 (0, 0))) (hp : p = none ∨ p = some ⟨b, 0, none⟩) :
    CallTo Tryd.prog 91 #[.pointer (some ⟨b, 0, none⟩)] w (fun e w2 => e = .returned (.tuple #[]) ∧ w2.heap[b]? = some (.cells #[.pointer (some ⟨b, 0, none⟩), v] 98 (0, 0)) ∧ w.grownBy w2 (some b)) := by
  refine CallTo.enter (vs := [.pointer (some ⟨b, 0, none⟩)]) (by kernel_rfl : Tryd.prog.funcs[91]? = some Tryd.f91) (by kernel_rfl) rfl rfl rfl ?_
  have hst := (rfl : AtW w w)
  have hsh : w.shape? b = some (98, 2) := by simp [World.shape?, hb]
  refine cp_seq ?_
  refine cp_region ?_
  refine stepK_d rfl rfl rfl hst (does_move rfl rfl) ?_
  refine stepK_d rfl rfl rfl hst (does_nilCheck rfl rfl) ?_
  refine stepK_d rfl rfl rfl hst (does_fieldAddr rfl (by kernel_rfl : fieldOf Tryd.prog 98 0 = some (0, 0 + 1, false)) rfl) ?_
  refine stepK_d rfl rfl rfl hst (does_load1 rfl (by kernel_rfl) rfl (fun _ h => AtW.cell h (cell_at (i := 0) hb rfl))) ?_
  refine stepK_d rfl rfl rfl hst (does_eql_nilD rfl (by kernel_rfl : Program.underlying Tryd.prog 96 = some (.pointer 98)) rfl rfl) ?_
  refine wpK_nil ?_
  refine cp_then ?_
  refine cp_if rfl ?_ ?_
  · intro c6
    refine cp_region ?_
    refine stepK_d rfl rfl rfl hst (does_move rfl rfl) ?_
    refine stepK_d rfl rfl rfl hst (does_move rfl rfl) ?_
    obtain ⟨j, hj, hjs⟩ := Option.map_eq_some_iff.1 (show (Tryd.prog.info? 98).map (·.size) = some 2 by kernel_rfl)
    refine stepK_run (v := .pointer (some ⟨b, 0, none⟩)) (w' := w) rfl rfl rfl (fun ρ hρ => by
      have h1 := hρ (.tmp 8) _ rfl
      have h2 := Lib.run_to_unsafe (P := Tryd.prog) w ⟨b, 0, none⟩ (by kernel_rfl : Program.underlying Tryd.prog 96 = some (.pointer 98)) (by kernel_rfl : Program.underlying Tryd.prog 124 = some .unsafePointer) hj (by rw [hjs]; decide) hsh (Nat.zero_lt_succ 1)
      simp [execOp, h1, h2]) ?_
    refine stepK_callR (R := fun e w2 => e = .returned (.pointer (some ⟨b, 0, none⟩)) ∧ w2 = w) rfl rfl rfl rfl rfl (.inr ⟨_, w, by
      rw [run_callFunc_extern (by kernel_rfl : Tryd.prog.funcs[100]? = some Tryd.f100) (by kernel_rfl) (by kernel_rfl) (by kernel_rfl) (e := Extern.AbiNoEscape.same) (by kernel_rfl), Lib.run_noEscape]
      rfl, rfl, rfl⟩) ?_
    rintro e w2 ⟨rfl, rfl⟩
    refine ⟨_, rfl, ?_⟩
    refine stepK_run (v := .pointer (some ⟨b, 0, none⟩)) (w' := w2) rfl rfl rfl (fun ρ hρ => by
      have h1 := hρ (.tmp 10) _ rfl
      have h2 := Lib.run_from_unsafe (P := Tryd.prog) w2 ⟨b, 0, none⟩ (by kernel_rfl : Program.underlying Tryd.prog 124 = some .unsafePointer) (by kernel_rfl : Program.underlying Tryd.prog 96 = some (.pointer 98)) hj hsh (by kernel_rfl)
      simp [execOp, h1, h2]) ?_
    refine stepK_d rfl rfl rfl hst (does_nilCheck rfl rfl) ?_
    refine stepK_d rfl rfl rfl hst (does_fieldAddr rfl (by kernel_rfl : fieldOf Tryd.prog 98 0 = some (0, 0 + 1, false)) rfl) ?_
    refine stepK_storeW rfl rfl rfl rfl rfl rfl (by kernel_rfl) rfl hb (by simp) ?_
    refine wpK_nil ?_
    -- the end of the body
    exact fun a ha => ⟨ha.defers, _, results_none rfl _ _ _, rfl, setRow_heap _ _ _ _ _ _ hb, grown_setRow _ _ _⟩
  · intro c6
    obtain rfl : p = some ⟨b, 0, none⟩ := by
      rcases hp with hp | hp
      · exact absurd hp c6
      · exact hp
    refine cp_seq ?_
    refine cp_region ?_
    refine stepK_d rfl rfl rfl hst (does_move rfl rfl) ?_
    refine stepK_d rfl rfl rfl hst (does_nilCheck rfl rfl) ?_
    refine stepK_d rfl rfl rfl hst (does_fieldAddr rfl (by kernel_rfl : fieldOf Tryd.prog 98 0 = some (0, 0 + 1, false)) rfl) ?_
    refine stepK_d rfl rfl rfl hst (does_load1 rfl (by kernel_rfl) rfl (fun _ h => AtW.cell h (cell_at (i := 0) hb rfl))) ?_
    refine stepK_d rfl rfl rfl hst (does_move rfl rfl) ?_
    refine stepK_d rfl rfl rfl hst (does_neq_self (te := 98) rfl (by kernel_rfl) (by kernel_rfl) rfl rfl) ?_
    refine wpK_nil ?_
    refine cp_then ?_
    refine cp_cond_false rfl ?_
    refine cp_skip ?_
    -- the end of the body
    exact fun a ha => ⟨ha.defers, _, results_none rfl _ _ _, rfl, hb, rfl, rfl, rfl, Nat.le_refl _, fun _ _ _ => rfl⟩

set_option maxHeartbeats 1000000 in
theorem Builder_WriteString {w : World} {B b : Nat} {l : List UInt8} {s : ByteArray} (h : Lib.IsBuilder 98 5 B b (Lib.byteCells l) w) (hbw : B ≤ w.heap.size) (hls : l.length + s.size ≤ 140737488355328) :
    CallTo Tryd.prog 74 #[.pointer (some ⟨b, 0, none⟩), .string s] w (fun e w2 => (∃ r, e = .returned r) ∧ Lib.IsBuilder 98 5 B b (Lib.byteCells (l ++ Lb s)) w2 ∧ Below B w w2) := by
  refine CallTo.enter (vs := [.pointer (some ⟨b, 0, none⟩), .string s]) (by kernel_rfl : Tryd.prog.funcs[74]? = some Tryd.f74) (by kernel_rfl) rfl rfl rfl ?_
  have hst := (rfl : AtW w w)
  obtain ⟨p, hp, hB, v, hb, hown, hne⟩ : ∃ p, (p = none ∨ p = some ⟨b, 0, none⟩) ∧ Lib.BuilderAt 98 5 B b (.pointer p) (Lib.byteCells l) w := by
    rcases h with h | h
    · exact ⟨none, .inl rfl, h⟩
    · exact ⟨some ⟨b, 0, none⟩, .inr rfl, h⟩
  rw [Lib.byteCells_length] at hown
  refine cp_seq ?_
  refine cp_region ?_
  refine stepK_d rfl rfl rfl hst (does_assign rfl rfl) ?_
  refine stepK_d rfl rfl rfl hst (does_assign rfl rfl) ?_
  refine wpK_nil ?_
  refine cp_then ?_
  refine cp_seq ?_
  refine cp_region ?_
  refine stepK_d rfl rfl rfl hst (does_move rfl rfl) ?_
  refine stepK_callR rfl rfl rfl rfl rfl (Builder_copyCheck hb hp) ?_
  rintro e w1 ⟨rfl, hb1, hg1⟩
  refine ⟨_, rfl, ?_⟩
  clear hst
  have hst := (rfl : AtW w1 w1)
  have hown1 := hown.kept hg1 (.inr hne)
  refine wpK_nil ?_
  refine cp_then ?_
  refine cp_seq ?_
  refine cp_region ?_
  refine stepK_d rfl rfl rfl hst (does_move rfl rfl) ?_
  refine stepK_d rfl rfl rfl hst (does_move rfl rfl) ?_
  refine stepK_d rfl rfl rfl hst (does_nilCheck rfl rfl) ?_
  refine stepK_d rfl rfl rfl hst (does_fieldAddr rfl (by kernel_rfl : fieldOf Tryd.prog 98 1 = some (1, 0 + 1, false)) rfl) ?_
  refine stepK_d rfl rfl rfl hst (does_load1 (v := v) rfl (by kernel_rfl) rfl (fun _ h => AtW.cell h (cell_at (i := 1) hb1 rfl))) ?_
  refine stepK_d rfl rfl rfl hst (does_move rfl rfl) ?_
  obtain ⟨i, hi, hiz⟩ := Option.map_eq_some_iff.1 (show (Tryd.prog.info? 5).map (fun i => (i.zero, i.size, i.bytes)) = some (some (.int .u8 0), 1, 1) by kernel_rfl)
  have hi1 : i.zero = some (.int .u8 0) := congrArg (·.1) hiz
  have hi2 : i.size = 1 := congrArg (·.2.1) hiz
  have hi3 : i.bytes = 1 := congrArg (·.2.2) hiz
  obtain ⟨v2, w2, hr, hown2, hg2, _⟩ := Lib.run_append_own_string (P := Tryd.prog) w1 B 23 9 23 5 i (by kernel_rfl) (by kernel_rfl) hi hi1 hi2 hi3 v l.length _ hown1 s (by simp only [maxLen]; omega) hls (Nat.le_trans hbw hg1.size)
  refine stepK_run (v := v2) (w' := w2) rfl rfl rfl (fun ρ hρ => by
    have h1 := hρ (.tmp 12) _ rfl
    have h2 := hρ (.tmp 13) _ rfl
    simp only [execOp, resolve, invoke, builtin, Sem.run_bind, Sem.run_pure, Result.andThen_ok, List.map_toArray, List.map_cons, List.map_nil, h1, h2, hr]) ?_
  clear hst
  have hst := (rfl : AtW w2 w2)
  have hb2 : w2.heap[b]? = _ := (hg2.block b (by exact (Array.getElem?_eq_some_iff.1 hb1).1) hne.symm).trans hb1
  refine stepK_d rfl rfl rfl hst (does_nilCheck rfl rfl) ?_
  refine stepK_d rfl rfl rfl hst (does_fieldAddr rfl (by kernel_rfl : fieldOf Tryd.prog 98 1 = some (1, 0 + 1, false)) rfl) ?_
  obtain ⟨A9, c9, rfl⟩ : ∃ A9 c9, v2 = .slice A9 (l.length + s.size) c9 := by
    rcases hown2.2 with ⟨h8, h9⟩ | ⟨g9, cap, cur, h8, _⟩
    · exact ⟨none, 0, by rw [h8, h9]⟩
    · exact ⟨_, _, h8⟩
  refine stepK_storeW rfl rfl rfl rfl rfl rfl (by kernel_rfl) rfl hb2 (by simp) ?_
  clear hst
  have hst := (rfl : AtW (w2.setRow b (#[.pointer (some ⟨b, 0, none⟩), v].setIfInBounds (0 + 1) (.slice A9 (l.length + s.size) c9))) (w2.setRow b (#[.pointer (some ⟨b, 0, none⟩), v].setIfInBounds (0 + 1) (.slice A9 (l.length + s.size) c9))))
  refine wpK_nil ?_
  refine cp_then ?_
  refine cp_seq ?_
  refine cp_region ?_
  refine stepK_d rfl rfl rfl hst (does_move rfl rfl) ?_
  refine stepK_d rfl rfl rfl hst (does_len_string rfl (by kernel_rfl) rfl) ?_
  refine stepK_d rfl rfl rfl hst (does_assign rfl rfl) ?_
  refine stepK_d rfl rfl rfl hst (does_assign rfl rfl) ?_
  refine wpK_nil ?_
  refine cp_then ?_
  refine cp_ret ?_
  refine fun a ha => ⟨ha.defers, _, by rw [results_tmp2 rfl, ha.get _ _ rfl, ha.get _ _ rfl], ⟨_, rfl⟩, .inr ⟨hB, _, setRow_heap _ _ _ _ _ _ hb2, ?_, ?_⟩, ?_⟩
  · rw [Lib.byteCells_length, List.length_append, Lb_length, Lib.byteCells_append]
    exact hown2.kept (grown_setRow _ _ _) (.inr (Lib.ownBlock_ne hown2 hb2 (by decide)))
  · exact Lib.ownBlock_ne hown2 hb2 (by decide)
  · refine ⟨hg2.os.trans hg1.os, hg2.tape.trans hg1.tape, hg2.output.trans hg1.output, Nat.le_trans hg1.size (Nat.le_trans hg2.size (by simp)), fun k hk => ?_⟩
    have hkl : k < w.heap.size := Nat.lt_of_lt_of_le hk hbw
    rw [setRow_other _ _ _ _ (by omega), hg2.block k (Nat.lt_of_lt_of_le hkl hg1.size) ?_, hg1.block k hkl (by intro e; cases e; omega)]
    intro e
    rcases hown1.2 with ⟨h8, h9⟩ | ⟨g9, cap, cur, h8, h9, _⟩
    · rw [h8] at e; cases e
    · rw [h8] at e; simp [Value.ownBlock] at e; omega

end Go.Proofs.YtbamjcfdlgnicaaDoor

namespace Go.Proofs.YtbamjcfdlgnicaaDoor
open Go Go.RowKit Go.Proofs.Vc
set_option linter.unusedVariables false
set_option linter.unusedSimpArgs false

set_option maxHeartbeats 4000000 in
theorem num_text {g : Mem} {w : World} (hag : Agree g w) {A : Option Addr} {n c N : Nat} (ha : IsNat g A n N) (hn : n ≤ 1099511627776) :
    CallTo Tryd.prog 58 #[.slice A n c] w (Ret w g fun v g => v = .string ⟨(Lib.decDigits N).toArray⟩) := by
  refine CallTo.enter (vs := [.slice A n c]) (by kernel_rfl : Tryd.prog.funcs[58]? = some Tryd.f58) (by kernel_rfl) rfl rfl rfl ?_
  have hst := St.init hag
  have hNB : N < 18446744073709551616 ^ n := ha.lt
  refine cp_seq ?_
  refine cp_region ?_
  refine stepK_d rfl rfl rfl hst (does_assign rfl rfl) ?_
  refine wpK_nil ?_
  refine cp_then ?_
  refine cp_seq ?_
  refine cp_seq ?_
  refine cp_region ?_
  refine stepK_d rfl rfl rfl hst (does_move rfl rfl) ?_
  refine stepK_d rfl rfl rfl hst (does_len_slice rfl (by kernel_rfl : Program.underlying Tryd.prog 64 = some (.slice 66)) rfl) ?_
  refine stepK_d rfl rfl rfl hst (does_eql rfl rfl rfl) ?_
  refine wpK_nil ?_
  refine cp_then ?_
  refine cp_if rfl ?_ ?_
  · intro c13
    refine cp_seq ?_
    refine cp_region ?_
    refine stepK_d rfl rfl rfl hst (does_assign rfl rfl) ?_
    refine wpK_nil ?_
    refine cp_then ?_
    refine cp_ret ?_
    refine at_then_ret ?_
    refine ret1 rfl rfl hst ?_
    rw [ha.zero_iff.1 (by omega), Lib.decDigits_one (by decide)]
    rfl
  · intro c13
    have c13n : n ≠ 0 := by omega
    refine cp_skip ?_
    refine cp_then ?_
    refine cp_seq ?_
    refine cp_region ?_
    refine stepK_d rfl rfl rfl hst (does_assign rfl rfl) ?_
    refine wpK_nil ?_
    refine cp_then ?_
    refine cp_seq ?_
    refine cp_block ?_
    refine cp_loop (ι := Option Addr × Nat × Nat × Nat × Option Addr × Nat × List Nat) (fun (A, m, c, X, P, cp, ps) => [(0, .slice A m c), (3, .slice P ps.length cp)]) (fun (A, m, c, X, P, cp, ps) w1 => ∃ g1, Row w [] g g1 [] 66 1 (.slice P ps.length cp) ps.length (uN .u64 ps) w1 ∧ IsNat g1 A m X ∧ m ≤ n ∧ N = X * 10000000000000000000 ^ ps.length + pv ps ∧ (∀ d ∈ ps, d < 10000000000000000000) ∧ (X = 0 → ps ≠ [] ∧ ps.getLast? ≠ some 0) ∧ ps.length ≤ 2 * n + 1) (fun (A, m, c, X, P, cp, ps) => X) (A, n, c, N, none, 0, []) ?k1 ?i1 ?r1
    case k1 => exact ⟨rfl, rfl, trivial⟩
    case i1 =>
      exact ⟨_, Row.nil hst, ha, Nat.le_refl _, by simp [pv], by simp, fun e => absurd (ha.zero_iff.2 e) c13n, by simp⟩
    case r1 =>
      clear hst
      rintro ⟨A, m, c, X, P, cp, ps⟩ w1 ⟨g1, hrow, hX, hmn, hval, hps, hlast, hpl⟩
      have hst := hrow.st
      refine cp_seq ?_
      refine cp_seq ?_
      refine cp_region ?_
      refine stepK_d rfl rfl rfl hst (does_move rfl rfl) ?_
      refine stepK_d rfl rfl rfl hst (does_len_slice rfl (by kernel_rfl : Program.underlying Tryd.prog 64 = some (.slice 66)) rfl) ?_
      refine stepK_d rfl rfl rfl hst (does_gtr rfl rfl rfl) ?_
      refine wpK_nil ?_
      refine cp_then ?_
      refine cp_if rfl ?_ ?_
      · intro c16
        refine cp_skip ?_
        refine cp_then ?_
        refine cp_block ?_
        refine cp_seq ?_
        have hX0 : 0 < X := Nat.pos_of_ne_zero fun e => by have := hX.zero_iff.2 e; omega
        refine cp_region ?_
        refine stepK_d rfl rfl rfl hst (does_assign rfl rfl) ?_
        refine wpK_nil ?_
        refine cp_then ?_
        refine cp_seq ?_
        refine cp_region ?_
        refine stepK_d rfl rfl rfl hst (does_move rfl rfl) ?_
        refine stepK_call rfl rfl rfl rfl rfl hst (num_byWord hst.agree hX (x := 10000000000000000000) (by decide) (by decide) (by omega)) ?_
        clear hst
        intro v2 g2 w2 hst hle2 hcs2 hp2
        replace hX := hX.mono hle2
        obtain ⟨A9, m9, c9, rfl, hX9⟩ := hp2
        replace hrow := hrow.call (by assumption)
        have hm9 : m9 ≤ m := hX9.len (Nat.lt_of_le_of_lt (Nat.div_le_self _ _) hX.lt)
        refine stepK_d rfl rfl rfl hst (does_move rfl rfl) ?_
        refine stepK_d rfl rfl rfl hst (does_extract rfl rfl rfl) ?_
        refine stepK_d rfl rfl rfl hst (does_extract rfl rfl rfl) ?_
        refine stepK_d rfl rfl rfl hst (does_assign rfl rfl) ?_
        refine stepK_d rfl rfl rfl hst (does_assign rfl rfl) ?_
        refine wpK_nil ?_
        refine cp_then ?_
        refine cp_region ?_
        refine stepK_d rfl rfl rfl hst (does_move rfl rfl) ?_
        refine stepK_d rfl rfl rfl hst (does_move rfl rfl) ?_
        refine stepK_buildSlice_row rfl rfl rfl rfl (by kernel_rfl : Program.underlying Tryd.prog 63 = some (.slice 66)) (by kernel_rfl : elemInfo Tryd.prog 66 = some ((.int .u64 0), 1, 8)) rfl rfl (by decide) (by decide) (by decide) rfl rfl hrow ?_
        clear hst
        intro bx w9 hrow
        have hst := hrow.st
        refine stepK_append rfl rfl rfl rfl (by kernel_rfl : Program.underlying Tryd.prog 63 = some (.slice 66)) (by kernel_rfl : elemInfo Tryd.prog 66 = some ((.int .u64 0), 1, 8)) rfl (by decide) rfl rfl (hrow) (k := 1) rfl (fun j u hj => by rw [addr_add, Nat.zero_add]; exact hst.cell_own 0 rfl (by simpa using hj)) (by simp [Value.oneCell']) (by omega) (by omega) ?_
        clear hst
        intro vr3 w3 hrow
        obtain ⟨Ar, cr, rfl⟩ := hrow.shape
        have hst := hrow.st
        refine stepK_d rfl rfl rfl hst (does_assign rfl rfl) ?_
        refine wpK_nil ?_
        refine at_block_normal ?_
        refine round_end ((A9, m9, c9, X / 10000000000000000000, Ar, cr, ps ++ [X % 10000000000000000000])) ?_ ?_ ?_
        · exact ⟨rfl, by rw [List.length_append]; rfl, trivial⟩
        · refine ⟨_, by rw [List.length_append, uN_append]; exact hrow.sub (List.nil_sublist _), hX9, by omega, ?_, ?_, ?_, ?_⟩
          · rw [hval, pv_snoc, List.length_append, List.length_singleton, Nat.pow_succ]
            have h8 := Nat.div_add_mod X 10000000000000000000
            generalize X / 10000000000000000000 = a at *
            generalize X % 10000000000000000000 = b at *
            rw [← h8]
            grind
          · intro d hd
            rw [List.mem_append] at hd
            rcases hd with hd | hd
            · exact hps d hd
            · have : d = X % 10000000000000000000 := by simpa using hd
              omega
          · intro e
            refine ⟨by simp, ?_⟩
            rw [List.getLast?_concat]
            intro e2
            have : X % 10000000000000000000 = 0 := by simpa using e2
            omega
          · rw [List.length_append, List.length_singleton]
            have := parts_len (X := X) (k := ps.length) hX0 (by rw [hval]; exact Nat.le_add_right _ _) hNB
            omega
        · show X / 10000000000000000000 < X
          omega
      · intro c16
        refine cp_exit ?_
        refine at_then_exit ?_
        refine at_then_exit ?_
        refine cp_exit_here ?_
        refine cp_then ?_
        refine cp_seq ?_
        refine cp_region ?_
        obtain ⟨g2, P2, c2, e2, hc2, hst, hle2, hsv⟩ := hrow.publish
        cases e2
        obtain rfl : X = 0 := hX.zero_iff.1 (by omega)
        rw [Nat.zero_mul, Nat.zero_add] at hval
        obtain ⟨hpne, hplast⟩ := hlast rfl
        have hpp := SlV.toN hsv rfl
        have hst6 := hst
        refine stepK_allocW rfl rfl rfl rfl (by kernel_rfl : zeroOf Tryd.prog 98 = some (.agg #[.pointer none, .slice none 0 0])) rfl ?_
        have hbel : Below w1.heap.size w1 (w1.alloc (.cells [.pointer none, .slice none 0 0].toArray 98)) := ⟨rfl, rfl, rfl, by simp, fun k hk => Below.heap_alloc _ _ _ hk⟩
        have hbld : Lib.IsBuilder 98 5 w1.heap.size w1.heap.size (Lib.byteCells []) (w1.alloc (.cells [.pointer none, .slice none 0 0].toArray 98)) := .inl ⟨Nat.le_refl _, _, heap_alloc_new _ _, World.ownsRow_nil _ _ _ _, by simp [Value.ownBlock]⟩
        clear hst
        have hst := hst6.later hbel
        refine wpK_nil ?_
        refine cp_then ?_
        refine cp_seq ?_
        refine cp_seq ?_
        refine cp_region ?_
        refine stepK_d rfl rfl rfl hst (does_move rfl rfl) ?_
        refine stepK_d rfl rfl rfl hst (does_len_slice rfl (by kernel_rfl : Program.underlying Tryd.prog 63 = some (.slice 66)) rfl) ?_
        refine stepK_d rfl rfl rfl hst (Does.int (does_sub rfl rfl rfl) (wrap_i64 (by omega) (by omega))) ?_
        refine stepK_d rfl rfl rfl hst (does_assign rfl rfl) ?_
        refine wpK_nil ?_
        refine cp_then ?_
        refine cp_block ?_
        refine cp_loop (ι := Nat × List UInt8) (fun (k, acc) => [(3, .slice P ps.length cp), (5, .pointer (some ⟨w1.heap.size, 0, none⟩)), (6, .int .i64 ((k : Int) - 1))]) (fun (k, acc) w3 => Below w1.heap.size w1 w3 ∧ Lib.IsBuilder 98 5 w1.heap.size w1.heap.size (Lib.byteCells acc) w3 ∧ k ≤ ps.length ∧ acc = (if k = ps.length then [] else Lib.decDigits (pv (ps.drop k)))) (fun (k, acc) => k) (ps.length, []) ?k4 ?i4 ?r4
        case k4 => exact ⟨rfl, rfl, kint (by omega), trivial⟩
        case i4 =>
          refine ⟨hbel, hbld, Nat.le_refl _, by rw [if_pos rfl]⟩
        case r4 =>
          clear hst
          rintro ⟨k, acc⟩ w3 ⟨hbel, hbld, hk, hacc⟩
          have hst := hst6.later hbel
          refine cp_seq ?_
          refine cp_seq ?_
          refine cp_region ?_
          refine stepK_d rfl rfl rfl hst (does_move rfl rfl) ?_
          refine stepK_d rfl rfl rfl hst (does_geq rfl rfl rfl) ?_
          refine wpK_nil ?_
          refine cp_then ?_
          refine cp_if rfl ?_ ?_
          · intro c30
            refine cp_skip ?_
            refine cp_then ?_
            refine cp_seq ?_
            refine cp_block ?_
            refine cp_seq ?_
            obtain ⟨b8, o8, rfl, hb8⟩ := hpp.some_ (by omega)
            obtain ⟨x, hx⟩ := get_of_lt (ws := ps) (j := k - 1) (by omega)
            have hxl : x < 10000000000000000000 := hps x (List.mem_of_getElem? hx)
            have hout := hst
            replace hst := St.init hst.agree
            refine cp_region ?_
            refine stepK_alloc rfl rfl rfl rfl (by kernel_rfl : zeroOf Tryd.prog 99 = some (.agg #[.int .u8 0, .int .u8 0, .int .u8 0, .int .u8 0, .int .u8 0, .int .u8 0, .int .u8 0, .int .u8 0, .int .u8 0, .int .u8 0, .int .u8 0, .int .u8 0, .int .u8 0, .int .u8 0, .int .u8 0, .int .u8 0, .int .u8 0, .int .u8 0, .int .u8 0])) rfl hst ?_
            clear hst
            intro bd w5 hst
            replace hst : St w3 [] g2 g2 [(bd, .cells (uN .u8 (List.replicate 19 0)).toArray 99 (0, 0))] _ := hst
            refine wpK_nil ?_
            refine cp_then ?_
            refine cp_seq ?_
            refine cp_region ?_
            refine stepK_d rfl rfl rfl hst (does_move rfl rfl) ?_
            refine stepK_d rfl rfl rfl hst (does_move rfl rfl) ?_
            refine stepK_d rfl rfl rfl hst (does_indexAddr1 (j := (k - 1)) rfl (by kernel_rfl : Program.underlying Tryd.prog 63 = some (.slice 66)) (by kernel_rfl) rfl rfl (by omega) (by omega)) ?_
            refine stepK_d rfl rfl rfl hst (does_load_g1 rfl (by kernel_rfl) rfl (hb8.at_ _ _ hx)) ?_
            refine stepK_d rfl rfl rfl hst (does_assign rfl rfl) ?_
            refine wpK_nil ?_
            refine cp_then ?_
            refine cp_seq ?_
            refine cp_seq ?_
            refine cp_region ?_
            refine stepK_d rfl rfl rfl hst (does_assign rfl rfl) ?_
            refine wpK_nil ?_
            refine cp_then ?_
            refine cp_block ?_
            refine cp_loop (ι := Nat × Nat × List Nat) (fun (j, Y, ds) => [(3, .slice (some ⟨b8, o8, none⟩) ps.length cp), (5, .pointer (some ⟨w1.heap.size, 0, none⟩)), (6, .int .i64 ((k : Int) - 1)), (7, .pointer (some ⟨bd, 0, none⟩)), (8, .int .u64 (Y : Int)), (9, .int .i64 ((j : Int) - 1))]) (fun (j, Y, ds) w4 => St w3 [] g2 g2 [(bd, .cells (uN .u8 ds).toArray 99 (0, 0))] w4 ∧ j ≤ 19 ∧ ds.length = 19 ∧ Y < 10 ^ j ∧ (∀ d ∈ ds.drop j, 48 ≤ d ∧ d ≤ 57) ∧ Y * 10 ^ (19 - j) + dvL ((ds.drop j).map UInt8.ofNat) = x) (fun (j, Y, ds) => j) (19, x, List.replicate 19 0) ?k6 ?i6 ?r6
            case k6 => exact ⟨rfl, rfl, rfl, rfl, rfl, rfl, trivial⟩
            case i6 =>
              exact ⟨hst, Nat.le_refl _, by simp, hxl, by simp, by simp [dvL]⟩
            case r6 =>
              clear hst
              rintro ⟨j, Y, ds⟩ w4 ⟨hst, hj, hdl, hY, hdd, hdv⟩
              have hYl : Y < 18446744073709551616 := Nat.lt_of_lt_of_le hY (Nat.le_trans (Nat.pow_le_pow_right (by decide) hj) (by decide))
              refine cp_seq ?_
              refine cp_seq ?_
              refine cp_region ?_
              refine stepK_d rfl rfl rfl hst (does_move rfl rfl) ?_
              refine stepK_d rfl rfl rfl hst (does_geq rfl rfl rfl) ?_
              refine wpK_nil ?_
              refine cp_then ?_
              refine cp_if rfl ?_ ?_
              · intro c38
                refine cp_skip ?_
                refine cp_then ?_
                refine cp_seq ?_
                refine cp_block ?_
                refine cp_seq ?_
                refine cp_region ?_
                refine stepK_d rfl rfl rfl hst (does_move rfl rfl) ?_
                refine stepK_d rfl rfl rfl hst (does_move rfl rfl) ?_
                refine stepK_d rfl rfl rfl hst (does_rem_n (b := 10) rfl rfl rfl (by omega)) ?_
                refine stepK_d rfl rfl rfl hst (Does.nat (b := 48 + Y % 10) (does_add_u64 (a := 48) rfl rfl rfl) (by omega)) ?_
                refine stepK_d rfl rfl rfl hst (Does.nat (b := 48 + Y % 10) (does_conv_n_u8 rfl (by kernel_rfl) (by kernel_rfl) rfl) (by omega)) ?_
                refine stepK_d rfl rfl rfl hst (does_indexAddr_arr (j := (j - 1)) rfl (by kernel_rfl : Program.underlying Tryd.prog 99 = some (.array 19 5)) (by kernel_rfl : sizeB Tryd.prog 5 = some 1) rfl rfl (by omega) (by omega)) ?_
                refine stepK_store 0 rfl rfl rfl rfl rfl rfl (by kernel_rfl : sizeB Tryd.prog 5 = some 1) rfl rfl hst rfl (by first | (simp [uN_length]; omega) | simp) ?_
                clear hst
                intro w7 hst
                rw [Nat.mul_one, Nat.zero_add, splice_uN _ _ _ _ (by omega)] at hst
                simp only [List.set_cons_zero] at hst
                refine wpK_nil ?_
                refine cp_then ?_
                refine cp_region ?_
                refine stepK_d rfl rfl rfl hst (does_move rfl rfl) ?_
                refine stepK_d rfl rfl rfl hst (Does.nat (b := Y / 10) (does_quo_u64 (b := 10) rfl rfl rfl (by omega) (by omega)) rfl) ?_
                refine stepK_d rfl rfl rfl hst (does_assign rfl rfl) ?_
                refine wpK_nil ?_
                refine at_block_normal ?_
                refine cp_then ?_
                refine cp_region ?_
                refine stepK_d rfl rfl rfl hst (does_move rfl rfl) ?_
                refine stepK_d rfl rfl rfl hst (Does.int (does_sub rfl rfl rfl) (wrap_i64 (by omega) (by omega))) ?_
                refine stepK_d rfl rfl rfl hst (does_assign rfl rfl) ?_
                refine wpK_nil ?_
                refine round_end ((j - 1, Y / 10, ds.set (j - 1) (48 + Y % 10))) ?_ ?_ ?_
                · exact ⟨rfl, rfl, rfl, rfl, rfl, kint (by omega), trivial⟩
                · exact ⟨hst, by omega, by simp [hdl], digit_lt hY (by omega), digit_ok hdd (by omega), digit_put hdv hdd (by omega) hj hdl⟩
                · show j - 1 < j
                  omega
              · intro c38
                refine cp_exit ?_
                refine at_then_exit ?_
                refine at_then_exit ?_
                refine cp_exit_here ?_
                refine cp_then ?_
                refine cp_seq ?_
                obtain rfl : j = 0 := by omega
                rw [List.drop_zero] at hdd hdv
                obtain rfl : Y = 0 := by simpa using hY
                rw [Nat.zero_mul, Nat.zero_add] at hdv
                have hdig : DigL (ds.map UInt8.ofNat) := digL_map hdd
                refine cp_region ?_
                refine stepK_d rfl rfl rfl hst (does_slice_arr (N := 19) (e := 5) rfl (by kernel_rfl) (by kernel_rfl) rfl (by decide)) ?_
                refine stepK_d rfl rfl rfl hst (does_conv_bytes (e := 5) 0 rfl (by kernel_rfl) (by kernel_rfl) (by kernel_rfl) rfl rfl hdl) ?_
                refine stepK_d rfl rfl rfl hst (does_assign rfl rfl) ?_
                refine wpK_nil ?_
                refine cp_then ?_
                refine cp_join (ι := ByteArray) (fun s2 => [(3, .slice (some ⟨b8, o8, none⟩) ps.length cp), (5, .pointer (some ⟨w1.heap.size, 0, none⟩)), (6, .int .i64 ((k : Int) - 1)), (10, .string s2)]) (fun s2 w5 => Below w3.heap.size w3 w5 ∧ s2.size ≤ 19 ∧ acc ++ Lb s2 = Lib.decDigits (pv (ps.drop (k - 1)))) ?c8 ?d8
                case c8 =>
                  refine cp_seq ?_
                  refine cp_region ?_
                  refine stepK_d rfl rfl rfl hst (does_move rfl rfl) ?_
                  refine stepK_d rfl rfl rfl hst (does_move rfl rfl) ?_
                  refine stepK_d rfl rfl rfl hst (does_len_slice rfl (by kernel_rfl : Program.underlying Tryd.prog 63 = some (.slice 66)) rfl) ?_
                  refine stepK_d rfl rfl rfl hst (Does.int (does_sub rfl rfl rfl) (wrap_i64 (by omega) (by omega))) ?_
                  refine stepK_d rfl rfl rfl hst (does_eql rfl rfl rfl) ?_
                  refine wpK_nil ?_
                  refine cp_then ?_
                  refine cp_if rfl ?_ ?_
                  · intro c55
                    refine cp_region ?_
                    refine stepK_d rfl rfl rfl hst (does_move rfl rfl) ?_
                    refine stepK_call rfl rfl rfl rfl rfl hst (strings_TrimLeft hst.agree (c := 48) (by show _ ≤ _; rw [← Lb_length, Lb_mk, List.length_map, hdl]; decide) (by decide)) ?_
                    clear hst
                    intro v9 g9 w9 hst hle9 hcs9 hp9
                    obtain rfl := hp9
                    refine stepK_d rfl rfl rfl hst (does_assign rfl rfl) ?_
                    refine wpK_nil ?_
                    refine join_end (⟨((Lb ⟨(ds.map UInt8.ofNat).toArray⟩).dropWhile (· == 48)).toArray⟩) ?_ ?_
                    · exact ⟨rfl, rfl, rfl, rfl, trivial⟩
                    · exact ⟨hst.below, strip_size hdl, text_first hacc hdig hdv hx (by omega) hplast⟩
                  · intro c55
                    refine cp_skip ?_
                    refine join_end (⟨(ds.map UInt8.ofNat).toArray⟩) ?_ ?_
                    · exact ⟨rfl, rfl, rfl, rfl, trivial⟩
                    · exact ⟨hst.below, by rw [← Lb_length, Lb_mk, List.length_map, hdl]; exact Nat.le_refl _, text_next hacc hdig (by rw [List.length_map]; exact hdl) hdv hx (by omega) (by omega) hplast⟩
                case d8 =>
                  clear hst
                  rintro s2 w5 ⟨hb35, hs2, hacc2⟩
                  have hst := hout.later hb35
                  refine cp_region ?_
                  refine stepK_d rfl rfl rfl hst (does_move rfl rfl) ?_
                  refine stepK_callR rfl rfl rfl rfl rfl (Builder_WriteString (IsBuilder.later hbld hb35) (Nat.le_trans hbel.size hb35.size) (by have := acc_len hacc hps hk; omega)) ?_
                  rintro e w6 ⟨⟨r9, rfl⟩, hbld9, hb56⟩
                  refine ⟨_, rfl, ?_⟩
                  have hbel9 : Below w1.heap.size w1 w6 := hbel.trans (Below.trans ⟨hb35.os, hb35.tape, hb35.output, hb35.size, fun k hk => hb35.block k (Nat.lt_of_lt_of_le hk hbel.size)⟩ hb56)
                  have hacc9 : acc ++ Lb s2 = (if k - 1 = ps.length then [] else Lib.decDigits (pv (ps.drop (k - 1)))) := by
                    rw [if_neg (by omega)]
                    exact hacc2
                  clear hst
                  have hst := hst6.later hbel9
                  refine wpK_nil ?_
                  refine at_block_normal ?_
                  refine cp_then ?_
                  refine cp_region ?_
                  refine stepK_d rfl rfl rfl hst (does_move rfl rfl) ?_
                  refine stepK_d rfl rfl rfl hst (Does.int (does_sub rfl rfl rfl) (wrap_i64 (by omega) (by omega))) ?_
                  refine stepK_d rfl rfl rfl hst (does_assign rfl rfl) ?_
                  refine wpK_nil ?_
                  refine round_end ((k - 1, acc ++ Lb s2)) ?_ ?_ ?_
                  · exact ⟨rfl, rfl, kint (by omega), trivial⟩
                  · exact ⟨hbel9, hbld9, by omega, hacc9⟩
                  · show k - 1 < k
                    omega
          · intro c30
            refine cp_exit ?_
            refine at_then_exit ?_
            refine at_then_exit ?_
            refine cp_exit_here ?_
            refine cp_then ?_
            refine cp_seq ?_
            refine cp_region ?_
            obtain rfl : k = 0 := by omega
            rw [if_neg (by have := List.length_pos_iff.2 hpne; omega), List.drop_zero, ← hval] at hacc
            subst hacc
            refine stepK_callR rfl rfl rfl rfl rfl (.inl ⟨enters (by kernel_rfl : Tryd.prog.funcs[75]? = some Tryd.f75) (by kernel_rfl) rfl _ _, Tryd.Builder_String_any _ _ _ _ hbld hbel.size⟩) ?_
            rintro e w9 ⟨rfl, hb9⟩
            refine ⟨_, rfl, ?_⟩
            clear hst
            have hst := hst6.later (hbel.trans hb9)
            refine stepK_d rfl rfl rfl hst (does_assign rfl rfl) ?_
            refine wpK_nil ?_
            refine cp_then ?_
            refine cp_ret ?_
            refine ret1 rfl rfl hst ?_
            rfl

end Go.Proofs.YtbamjcfdlgnicaaDoor

namespace Go.Proofs.YtbamjcfdlgnicaaDoor
open Go Go.RowKit Go.Proofs.Vc
set_option linter.unusedVariables false
set_option linter.unusedSimpArgs false

set_option maxHeartbeats 1000000 in
theorem Rat_String {g : Mem} {w : World} (hag : Agree g w) (hT : TabG Tryd.prog g) {p q : Int} {a : Option Addr} {r : Rat} (ha : IsRat g p q a r) (hfa : Fit r) :
    CallTo Tryd.prog 30 #[.agg #[.int .i64 p, .int .i64 q, .pointer a]] w (Ret w g fun v g => v = .string (ratS r)) := by
  refine CallTo.enter (vs := [.agg #[.int .i64 p, .int .i64 q, .pointer a]]) (by kernel_rfl : Tryd.prog.funcs[30]? = some Tryd.f30) (by kernel_rfl) rfl rfl rfl ?_
  have hst := St.init hag
  refine cp_seq ?_
  refine cp_region ?_
  refine stepK_box rfl rfl rfl rfl rfl rfl hst ?_
  clear hst
  intro rb w1 hst
  refine stepK_d rfl rfl rfl hst (does_assign rfl rfl) ?_
  refine wpK_nil ?_
  refine cp_then ?_
  refine cp_seq ?_
  refine cp_seq ?_
  refine cp_region ?_
  refine stepK_d rfl rfl rfl hst (does_fieldAddr rfl (by kernel_rfl : fieldOf Tryd.prog 41 2 = some (2, 0 + 1, false)) rfl) ?_
  refine stepK_d rfl rfl rfl hst (does_load_ownL 0 rfl (by kernel_rfl) rfl rfl rfl) ?_
  refine stepK_d rfl rfl rfl hst (does_eql_nilD rfl (by kernel_rfl : Program.underlying Tryd.prog 39 = some (.pointer 80)) rfl rfl) ?_
  refine wpK_nil ?_
  refine cp_then ?_
  refine cp_if rfl ?_ ?_
  · intro c8
    obtain rfl : a = none := c8
    have hl := ha.low
    have hbd := hl.1.bound
    refine cp_seq ?_
    refine cp_region ?_
    refine stepK_d rfl rfl rfl hst (does_load_ownN 0 rfl (by kernel_rfl) (by kernel_rfl : sizeB Tryd.prog 41 = some 3) rfl rfl rfl) ?_
    refine stepK_call rfl rfl rfl rfl rfl hst (Rat_low hst.agree hl) ?_
    clear hst
    intro v2 g2 w2 hst hle2 hcs2 hp2
    replace ha := ha.mono hle2
    replace hT := hT.mono hle2
    obtain rfl := hp2
    refine stepK_d rfl rfl rfl hst (does_move rfl rfl) ?_
    refine stepK_d rfl rfl rfl hst (does_extract rfl rfl rfl) ?_
    refine stepK_d rfl rfl rfl hst (does_extract rfl rfl rfl) ?_
    refine stepK_d rfl rfl rfl hst (does_assign rfl rfl) ?_
    refine stepK_d rfl rfl rfl hst (does_assign rfl rfl) ?_
    refine wpK_nil ?_
    refine cp_then ?_
    refine cp_seq ?_
    refine cp_seq ?_
    refine cp_region ?_
    refine stepK_d rfl rfl rfl hst (does_move rfl rfl) ?_
    refine stepK_d rfl rfl rfl hst (does_eql rfl rfl rfl) ?_
    refine wpK_nil ?_
    refine cp_then ?_
    refine cp_if rfl ?_ ?_
    · intro c15
      refine cp_seq ?_
      refine cp_region ?_
      refine stepK_d rfl rfl rfl hst (does_move rfl rfl) ?_
      refine stepK_call rfl rfl rfl rfl rfl hst (FormatInt hst.agree hT (by omega) (by omega)) ?_
      clear hst
      intro v3 g3 w3 hst hle3 hcs3 hp3
      replace ha := ha.mono hle3
      replace hT := hT.mono hle3
      obtain rfl := hp3
      refine stepK_d rfl rfl rfl hst (does_assign rfl rfl) ?_
      refine wpK_nil ?_
      refine cp_then ?_
      refine cp_ret ?_
      refine at_then_ret ?_
      refine at_then_ret ?_
      refine ret1 rfl rfl hst ?_
      rw [ratS_of (itoa_one_den (by omega)).symm]
    · intro c15
      refine cp_skip ?_
      refine cp_then ?_
      refine cp_seq ?_
      refine cp_region ?_
      refine stepK_d rfl rfl rfl hst (does_move rfl rfl) ?_
      refine stepK_call rfl rfl rfl rfl rfl hst (FormatInt hst.agree hT (by omega) (by omega)) ?_
      clear hst
      intro v4 g4 w4 hst hle4 hcs4 hp4
      replace ha := ha.mono hle4
      replace hT := hT.mono hle4
      obtain rfl := hp4
      have k1 := itoa_len r.num
      have k2 := len_small hl.1.1
      have k3 := itoa_len (r.den : Int)
      have k4 := len_small hl.1.2
      rw [show (r.den : Int).natAbs = r.den by omega] at k3
      refine stepK_d rfl rfl rfl hst (does_add_L (b := [47]) rfl rfl rfl (by simp; omega)) ?_
      refine stepK_d rfl rfl rfl hst (does_move rfl rfl) ?_
      refine stepK_call rfl rfl rfl rfl rfl hst (FormatInt hst.agree hT (by omega) (by omega)) ?_
      clear hst
      intro v5 g5 w5 hst hle5 hcs5 hp5
      replace ha := ha.mono hle5
      replace hT := hT.mono hle5
      obtain rfl := hp5
      refine stepK_d rfl rfl rfl hst (does_add_L rfl rfl rfl (by simp; omega)) ?_
      refine stepK_d rfl rfl rfl hst (does_assign rfl rfl) ?_
      refine wpK_nil ?_
      refine cp_then ?_
      refine cp_ret ?_
      refine at_then_ret ?_
      refine ret1 rfl rfl hst ?_
      refine congrArg Value.string (ratS_of ?_)
      rw [itoa_den, ratL, if_neg (by omega)]
      simp
  · intro c8
    obtain ⟨rfl, rfl, bl, rfl, hb9⟩ := ha.big c8
    obtain ⟨hs, A, n, c, B, m, d, e0, e1, e2, e3, e4⟩ := hb9
    have l1 := e3.len hfa.1
    have l2 := e4.len hfa.2
    have k1 := len_big hfa.1 (by decide)
    have k2 := len_big hfa.2 (by decide)
    refine cp_skip ?_
    refine cp_then ?_
    refine cp_seq ?_
    refine cp_region ?_
    refine stepK_d rfl rfl rfl hst (does_fieldAddr rfl (by kernel_rfl : fieldOf Tryd.prog 41 2 = some (2, 0 + 1, false)) rfl) ?_
    refine stepK_d rfl rfl rfl hst (does_load_ownL 0 rfl (by kernel_rfl) rfl rfl rfl) ?_
    refine stepK_d rfl rfl rfl hst (does_nilCheck rfl rfl) ?_
    refine stepK_d rfl rfl rfl hst (does_fieldAddr rfl (by kernel_rfl : fieldOf Tryd.prog 80 1 = some (1, 0 + 1, false)) rfl) ?_
    refine stepK_d rfl rfl rfl hst (does_load_g1 rfl (by kernel_rfl) rfl e1) ?_
    refine stepK_call rfl rfl rfl rfl rfl hst (num_text hst.agree e3 (by omega)) ?_
    clear hst
    intro v6 g6 w6 hst hle6 hcs6 hp6
    replace ha := ha.mono hle6
    replace hT := hT.mono hle6
    obtain rfl := hp6
    refine stepK_d rfl rfl rfl hst (does_assign rfl rfl) ?_
    refine wpK_nil ?_
    refine cp_then ?_
    refine cp_join (ι := List UInt8) (fun u => [(1, .pointer (some ⟨rb, 0, none⟩)), (5, .string ⟨u.toArray⟩)]) (fun u w2 => ∃ g2, St w [] g g2 [(rb, .cells #[.int .i64 0, .int .i64 0, .pointer (some ⟨bl, 0, none⟩)] 41 (0, 0))] w2 ∧ TabG Tryd.prog g2 ∧ GCell g2 bl 2 (.slice B m d) ∧ IsNat g2 B m r.den ∧ u = (if r.num < 0 then 45 :: Lib.decDigits r.num.natAbs else Lib.decDigits r.num.natAbs)) ?c7 ?d7
    case c7 =>
      refine cp_seq ?_
      refine cp_region ?_
      replace e0 := gcell_le (by assumption) e0
      replace e2 := gcell_le (by assumption) e2
      replace e3 := e3.mono (by assumption)
      replace e4 := e4.mono (by assumption)
      refine stepK_d rfl rfl rfl hst (does_fieldAddr rfl (by kernel_rfl : fieldOf Tryd.prog 41 2 = some (2, 0 + 1, false)) rfl) ?_
      refine stepK_d rfl rfl rfl hst (does_load_ownL 0 rfl (by kernel_rfl) rfl rfl rfl) ?_
      refine stepK_d rfl rfl rfl hst (does_nilCheck rfl rfl) ?_
      refine stepK_d rfl rfl rfl hst (does_fieldAddr rfl (by kernel_rfl : fieldOf Tryd.prog 80 0 = some (0, 0 + 1, false)) rfl) ?_
      refine stepK_d rfl rfl rfl hst (does_load_g1 rfl (by kernel_rfl) rfl e0) ?_
      refine wpK_nil ?_
      refine cp_then ?_
      refine cp_if rfl ?_ ?_
      · intro c34
        refine cp_region ?_
        refine stepK_d rfl rfl rfl hst (does_move rfl rfl) ?_
        refine stepK_d rfl rfl rfl hst (does_add_L (a := [45]) rfl rfl rfl (by simp; omega)) ?_
        refine stepK_d rfl rfl rfl hst (does_assign rfl rfl) ?_
        refine wpK_nil ?_
        refine join_end (45 :: Lib.decDigits r.num.natAbs) ?_ ?_
        · exact ⟨rfl, rfl, trivial⟩
        · exact ⟨_, hst, hT, e2, e4, (if_pos c34).symm⟩
      · intro c34
        refine cp_skip ?_
        refine join_end (Lib.decDigits r.num.natAbs) ?_ ?_
        · exact ⟨rfl, rfl, trivial⟩
        · exact ⟨_, hst, hT, e2, e4, (if_neg c34).symm⟩
    case d7 =>
      clear hst
      rintro u w2 ⟨g2, hst, hT, e2, e4, hu⟩
      have hul : u.length ≤ 20 * 1099511627776 + 1 := by rw [hu]; split <;> simp <;> omega
      refine cp_join (ι := List UInt8) (fun u2 => [(5, .string ⟨u2.toArray⟩)]) (fun u2 w4 => ∃ g4, St w [] g g4 [] w4 ∧ u2 = ratL r) ?c8 ?d8
      case c8 =>
        refine cp_seq ?_
        refine cp_region ?_
        refine stepK_d rfl rfl rfl hst (does_fieldAddr rfl (by kernel_rfl : fieldOf Tryd.prog 41 2 = some (2, 0 + 1, false)) rfl) ?_
        refine stepK_d rfl rfl rfl hst (does_load_ownL 0 rfl (by kernel_rfl) rfl rfl rfl) ?_
        refine stepK_d rfl rfl rfl hst (does_nilCheck rfl rfl) ?_
        refine stepK_d rfl rfl rfl hst (does_fieldAddr rfl (by kernel_rfl : fieldOf Tryd.prog 80 2 = some (2, 0 + 1, false)) rfl) ?_
        refine stepK_d rfl rfl rfl hst (does_load_g1 rfl (by kernel_rfl) rfl e2) ?_
        refine stepK_buildSlice rfl rfl rfl rfl (by kernel_rfl : Program.underlying Tryd.prog 64 = some (.slice 66)) (by kernel_rfl : elemInfo Tryd.prog 66 = some ((.int .u64 0), 1, 8)) rfl rfl (by decide) (by decide) (by decide) rfl rfl hst ?_
        clear hst
        intro b9 w9 hst
        obtain ⟨g9, hst, hle9, h1⟩ := hst.lit (x := 1) (by decide) (by decide)
        replace hT := hT.mono hle9
        replace e4 := e4.mono hle9
        replace e2 := e2.mono hle9
        refine stepK_call rfl rfl rfl rfl rfl hst (num_compare hst.agree e4 h1 (by omega)) ?_
        clear hst
        intro v10 g10 w10 hst hle10 hcs10 hp10
        replace hT := hT.mono hle10
        replace e4 := e4.mono hle10
        replace e2 := e2.mono hle10
        replace h1 := h1.mono hle10
        obtain rfl := hp10
        refine stepK_d rfl rfl rfl hst (does_neq rfl rfl rfl) ?_
        refine wpK_nil ?_
        refine cp_then ?_
        refine cp_if rfl ?_ ?_
        · intro c44
          refine cp_region ?_
          refine stepK_d rfl rfl rfl hst (does_move rfl rfl) ?_
          refine stepK_d rfl rfl rfl hst (does_fieldAddr rfl (by kernel_rfl : fieldOf Tryd.prog 41 2 = some (2, 0 + 1, false)) rfl) ?_
          refine stepK_d rfl rfl rfl hst (does_load_ownL 0 rfl (by kernel_rfl) rfl rfl rfl) ?_
          refine stepK_d rfl rfl rfl hst (does_nilCheck rfl rfl) ?_
          refine stepK_d rfl rfl rfl hst (does_fieldAddr rfl (by kernel_rfl : fieldOf Tryd.prog 80 2 = some (2, 0 + 1, false)) rfl) ?_
          refine stepK_d rfl rfl rfl hst (does_load_g1 rfl (by kernel_rfl) rfl e2) ?_
          refine stepK_call rfl rfl rfl rfl rfl hst (num_text hst.agree e4 (by omega)) ?_
          clear hst
          intro v11 g11 w11 hst hle11 hcs11 hp11
          replace hT := hT.mono hle11
          replace e4 := e4.mono hle11
          replace e2 := e2.mono hle11
          replace h1 := h1.mono hle11
          obtain rfl := hp11
          refine stepK_d rfl rfl rfl hst (does_add_L (a := [47]) rfl rfl rfl (by simp; omega)) ?_
          refine stepK_d rfl rfl rfl hst (does_add_L rfl rfl rfl (by simp; omega)) ?_
          refine stepK_d rfl rfl rfl hst (does_assign rfl rfl) ?_
          refine wpK_nil ?_
          have hd1 : r.den ≠ 1 := fun e => c44 (cmpN_zero.2 e)
          refine join_end (u ++ (47 :: Lib.decDigits r.den)) ?_ ?_
          · exact ⟨rfl, trivial⟩
          · exact ⟨_, hst.forget, by rw [ratL_cut, if_neg hd1, hu]⟩
        · intro c44
          refine cp_skip ?_
          have hd1 : r.den = 1 := cmpN_zero.1 (Decidable.byContradiction c44)
          refine join_end (u) ?_ ?_
          · exact ⟨rfl, trivial⟩
          · exact ⟨_, hst.forget, by rw [ratL_cut, if_pos hd1, hu, List.append_nil]⟩
      case d8 =>
        clear hst
        rintro u2 w4 ⟨g4, hst, hu2⟩
        refine cp_seq ?_
        refine cp_region ?_
        refine stepK_d rfl rfl rfl hst (does_move rfl rfl) ?_
        refine stepK_d rfl rfl rfl hst (does_assign rfl rfl) ?_
        refine wpK_nil ?_
        refine cp_then ?_
        refine cp_ret ?_
        refine ret1 rfl rfl hst ?_
        rw [hu2]
        rfl

end Go.Proofs.YtbamjcfdlgnicaaDoor

namespace Go.Proofs.Vc
open Go Go.Lib
set_option linter.unusedVariables false
def Sz (k : Nat) (r : Rat) : Prop := r.num.natAbs < 10 ^ k ∧ r.den < 10 ^ k
theorem Sz.fit {k : Nat} {r : Rat} (h : Sz k r) (hk : k ≤ 1099511627776) : Fit r := fit_of h.1 h.2 hk
theorem Sz.mono {k m : Nat} {r : Rat} (h : Sz k r) (hk : k ≤ m) : Sz m r := ⟨Nat.lt_of_lt_of_le h.1 (Nat.pow_le_pow_right (by decide) hk), Nat.lt_of_lt_of_le h.2 (Nat.pow_le_pow_right (by decide) hk)⟩
theorem mkRat_le {n : Int} {d : Nat} (hd : d ≠ 0) : (mkRat n d).num.natAbs ≤ n.natAbs ∧ (mkRat n d).den ≤ d := by
  obtain ⟨m, hm, h1, h2⟩ := Rat.mkRat_num_den (n := n) (n' := (mkRat n d).num) (d' := (mkRat n d).den) (z' := (mkRat n d).den_nz) (c := (mkRat n d).reduced) hd rfl
  have hm1 : 1 ≤ m := by omega
  refine ⟨?_, ?_⟩
  · have h3 : n.natAbs = (mkRat n d).num.natAbs * m := by
      conv => lhs; rw [h1]
      rw [Int.natAbs_mul, Int.natAbs_natCast]
    rw [h3]
    exact Nat.le_mul_of_pos_right _ hm1
  · conv => rhs; rw [h2]
    exact Nat.le_mul_of_pos_right _ hm1
theorem Sz.add {k m : Nat} {r x : Rat} (h : Sz k r) (hx : Sz m x) : Sz (k + m + 1) (r + x) := by
  rw [← rat_add]
  obtain ⟨h1, h2⟩ := mkRat_le (n := r.num * (x.den : Int) + x.num * (r.den : Int)) (d := r.den * x.den) (Nat.mul_ne_zero r.den_nz x.den_nz)
  have e1 : (r.num * (x.den : Int) + x.num * (r.den : Int)).natAbs ≤ r.num.natAbs * x.den + x.num.natAbs * r.den := by
    refine Nat.le_trans (Int.natAbs_add_le _ _) ?_
    rw [Int.natAbs_mul, Int.natAbs_mul, Int.natAbs_natCast, Int.natAbs_natCast]
    exact Nat.le_refl _
  have e2 : r.num.natAbs * x.den < 10 ^ (k + m) := by rw [Nat.pow_add]; exact Nat.mul_lt_mul'' h.1 hx.2
  have e3 : x.num.natAbs * r.den < 10 ^ (k + m) := by rw [Nat.add_comm k m, Nat.pow_add]; exact Nat.mul_lt_mul'' hx.1 h.2
  have e4 : r.den * x.den < 10 ^ (k + m) := by rw [Nat.pow_add]; exact Nat.mul_lt_mul'' h.2 hx.2
  refine ⟨?_, ?_⟩
  · rw [Nat.pow_succ]
    omega
  · rw [Nat.pow_succ]
    omega
theorem Sz.mul {k m : Nat} {r x : Rat} (h : Sz k r) (hx : Sz m x) : Sz (k + m) (r * x) := by
  rw [← rat_mul]
  obtain ⟨h1, h2⟩ := mkRat_le (n := r.num * x.num) (d := r.den * x.den) (Nat.mul_ne_zero r.den_nz x.den_nz)
  rw [Int.natAbs_mul] at h1
  have e2 : r.num.natAbs * x.num.natAbs < 10 ^ (k + m) := by rw [Nat.pow_add]; exact Nat.mul_lt_mul'' h.1 hx.1
  have e4 : r.den * x.den < 10 ^ (k + m) := by rw [Nat.pow_add]; exact Nat.mul_lt_mul'' h.2 hx.2
  exact ⟨Nat.lt_of_le_of_lt h1 e2, Nat.lt_of_le_of_lt h2 e4⟩
theorem Sz.neg {k : Nat} {r : Rat} (h : Sz k r) : Sz k (-r) := ⟨by rw [Rat.neg_num, Int.natAbs_neg]; exact h.1, by rw [Rat.neg_den]; exact h.2⟩
theorem Sz.sub {k m : Nat} {r x : Rat} (h : Sz k r) (hx : Sz m x) : Sz (k + m + 1) (r - x) := by
  rw [Rat.sub_eq_add_neg]
  exact h.add hx.neg
theorem Sz.inv {k : Nat} {r : Rat} (h : Sz k r) : Sz k r⁻¹ := by
  by_cases h0 : r.num = 0
  · have : r = 0 := rat_zero_iff.1 h0
    subst this
    rw [Rat.inv_zero]
    exact h
  · have h1 := mkRat_num (b := decide (r.num < 0)) (N := r.den) (M := r.num.natAbs) (by omega) (by rw [Nat.gcd_comm]; exact r.reduced)
    rw [rat_inv] at h1
    exact ⟨by rw [h1.1, sg_natAbs]; exact h.2, by rw [h1.2]; exact h.1⟩
theorem Sz.div {k m : Nat} {r x : Rat} (h : Sz k r) (hx : Sz m x) : Sz (k + m) (r / x) := by
  rw [Rat.div_def]
  exact h.mul hx.inv
theorem getR_sz (s : ByteArray) : Sz (s.size + 1) (getR s) := by
  unfold getR
  cases h : readR s with
  | none => exact ⟨Nat.pow_pos (by decide), Nat.one_lt_pow (by omega) (by decide)⟩
  | some r =>
    obtain ⟨h1, h2⟩ := text_fit (readR_is h)
    exact ⟨Nat.lt_of_lt_of_le h1 (Nat.pow_le_pow_right (by decide) (by omega)), h2⟩
theorem getR_text (r : Rat) : getR (ratS r) = r := by
  unfold getR
  rw [readR_text]
  rfl
theorem ratS_size {k : Nat} {r : Rat} (h : Sz k r) : (ratS r).size ≤ 2 * k + 2 := by
  have hk : 0 < k := Nat.pos_of_ne_zero fun e => by
    subst e
    have := h.2
    have := r.den_nz
    simp at *
    omega
  have h1 := itoa_len r.num
  have h2 := decDigits_len (k - 1) r.num.natAbs (by rw [show k - 1 + 1 = k by omega]; exact h.1)
  have h3 := decDigits_len (k - 1) r.den (by rw [show k - 1 + 1 = k by omega]; exact h.2)
  rw [← Lb_length]
  show (ratL r).length ≤ _
  unfold ratL
  rw [List.length_append]
  split <;> simp <;> omega
theorem ratS_inj {a b : Rat} (h : ratS a = ratS b) : a = b := by
  have h1 := getR_text a
  rw [h, getR_text] at h1
  exact h1.symm
end Go.Proofs.Vc
namespace Go.Proofs.Vc
open Go Go.Lib
/-! texts of small numbers -/
theorem ratS_eval {r : Rat} {n : Int} {d : Nat} (hn : r.num = n) (hd : r.den = d) : ratS r = ⟨(itoa n ++ if d = 1 then [] else 47 :: decDigits d).toArray⟩ := by
  subst hn hd
  rfl
theorem getR_eval {s : ByteArray} {r : Rat} (h : ratS r = s) : getR s = r := by rw [← h, getR_text]
theorem t1 : ratS 1 = ⟨#[49]⟩ := by rw [ratS_eval (n := 1) (d := 1) rfl rfl]; simp [itoa, decDigits_one]
theorem t3 : ratS 3 = ⟨#[51]⟩ := by rw [ratS_eval (n := 3) (d := 1) rfl rfl]; simp [itoa, decDigits_one]
theorem t1_2 : ratS (1 / 2) = ⟨#[49, 47, 50]⟩ := by rw [ratS_eval (n := 1) (d := 2) (by decide +kernel) (by decide +kernel)]; simp [itoa, decDigits_one]
theorem t1_3 : ratS (1 / 3) = ⟨#[49, 47, 51]⟩ := by rw [ratS_eval (n := 1) (d := 3) (by decide +kernel) (by decide +kernel)]; simp [itoa, decDigits_one]
theorem tm2_3 : ratS (-2 / 3) = ⟨#[45, 50, 47, 51]⟩ := by rw [ratS_eval (n := -2) (d := 3) (by decide +kernel) (by decide +kernel)]; simp [itoa, decDigits_one]
theorem t5_6 : ratS (1 / 2 + 1 / 3) = ⟨#[53, 47, 54]⟩ := by rw [ratS_eval (n := 5) (d := 6) (by decide +kernel) (by decide +kernel)]; simp [itoa, decDigits_one]
theorem tm2 : ratS (-2 / 3 * 3) = ⟨#[45, 50]⟩ := by rw [ratS_eval (n := -2) (d := 1) (by decide +kernel) (by decide +kernel)]; simp [itoa, decDigits_one]
theorem tm3_2 : ratS (-((6 : Rat) / 4)) = ⟨#[45, 51, 47, 50]⟩ := by rw [ratS_eval (n := -3) (d := 2) (by decide +kernel) (by decide +kernel)]; simp [itoa, decDigits_one]
end Go.Proofs.Vc
namespace Go.Proofs.Vc
open Go
theorem prefix_iff {s : ByteArray} {c : UInt8} (h : 0 < s.size) : s.extract 0 1 = ⟨#[c]⟩ ↔ (0 < s.size ∧ bt s 0 = c.toNat) := by
  have h1 : bt (s.extract 0 1) 0 = bt s 0 := bt_extract (by omega) (by omega)
  constructor
  · intro e
    refine ⟨h, ?_⟩
    rw [← h1, e]
    rfl
  · intro e
    refine bytes_ext (by rw [ByteArray.size_extract, show (⟨#[c]⟩ : ByteArray).size = 1 from rfl]; omega) fun i hi => ?_
    rw [ByteArray.size_extract] at hi
    obtain rfl : i = 0 := by omega
    rw [h1, e.2]
    rfl
end Go.Proofs.Vc
namespace Go.Proofs.Vc
open Go
instance (s : ByteArray) : Decidable (AllDig s) := inferInstanceAs (Decidable (∀ i, i < s.size → (48 ≤ bt s i ∧ bt s i ≤ 57)))
/-- what is left behind the prefix c, and whether it was there -/
def Cut1 (s : ByteArray) (c : UInt8) (t : ByteArray) (ok : Bool) : Prop := (ok = true ∧ (0 < s.size ∧ bt s 0 = c.toNat) ∧ t = s.extract 1 s.size) ∨ (ok = false ∧ ¬ (0 < s.size ∧ bt s 0 = c.toNat) ∧ t = s)
end Go.Proofs.Vc
namespace Go.Proofs.Vc
open Go
theorem Does.str {P : Program} {S : World → Prop} {kn : Kn} {o : Oper} {a b : ByteArray} (h : Does P S kn o (.string a)) (e : a = b) : Does P S kn o (.string b) := e ▸ h
end Go.Proofs.Vc
namespace Go.Proofs.Vc
open Go
theorem Does.yes {P : Program} {S : World → Prop} {kn : Kn} {o : Oper} {p : Prop} [Decidable p] (h : Does P S kn o (.bool (decide p))) (hp : p) : Does P S kn o (.bool true) := by
  rw [decide_eq_true hp] at h
  exact h
end Go.Proofs.Vc
namespace Go.Proofs.Vc
open Go Go.Lib
theorem Does.no {P : Program} {S : World → Prop} {kn : Kn} {o : Oper} {p : Prop} [Decidable p] (h : Does P S kn o (.bool (decide p))) (hp : ¬ p) : Does P S kn o (.bool false) := by
  rw [decide_eq_false hp] at h
  exact h
theorem t0 : ratS 0 = ⟨#[48]⟩ := by rw [ratS_eval (n := 0) (d := 1) rfl rfl]; simp [itoa, decDigits_one]
theorem rat_shift (x y z : Rat) : x + z - (y + z) = x - y := by grind
theorem rat_back (x y : Rat) : x - y + y = x + 0 := by grind
theorem ratS_lt {k : Nat} {r : Rat} (h : Sz k r) (hk : k ≤ 100000000) : (ratS r).size < 1073741824 := by
  have := ratS_size h
  omega
end Go.Proofs.Vc

namespace Go.Proofs.YtbamjcfdlgnicaaDoor
open Go Go.RowKit Go.Proofs.Vc
set_option linter.unusedVariables false
set_option linter.unusedSimpArgs false

set_option maxHeartbeats 1000000 in
theorem num_Digits {g : Mem} {w : World} (hag : Agree g w) {s : ByteArray} (hs : s.size ≤ 1099511627776) :
    CallTo Tryd.prog 21 #[.string s] w (Ret w g fun v g => ∃ p q a, v = .tuple #[.agg #[.int .i64 p, .int .i64 q, .pointer a], .bool (decide (0 < s.size ∧ AllDig s))] ∧ IsRat g p q a (if 0 < s.size ∧ AllDig s then ((dvL (Lb s) : Nat) : Rat) else 0)) := by
  refine CallTo.enter (vs := [.string s]) (by kernel_rfl : Tryd.prog.funcs[21]? = some Tryd.f21) (by kernel_rfl) rfl rfl rfl ?_
  have hst := St.init hag
  refine cp_seq ?_
  refine cp_region ?_
  refine stepK_alloc rfl rfl rfl rfl (by kernel_rfl : zeroOf Tryd.prog 41 = some (.agg #[.int .i64 0, .int .i64 0, .pointer none])) rfl hst ?_
  clear hst
  intro r0 w1 hst
  refine stepK_d rfl rfl rfl hst (does_assign rfl rfl) ?_
  refine wpK_nil ?_
  refine cp_then ?_
  refine cp_seq ?_
  refine cp_seq ?_
  refine cp_region ?_
  refine stepK_d rfl rfl rfl hst (does_move rfl rfl) ?_
  refine stepK_d rfl rfl rfl hst (does_eql_string rfl rfl rfl) ?_
  refine wpK_nil ?_
  refine cp_then ?_
  refine cp_if rfl ?_ ?_
  · intro c6
    have hno : ¬ (0 < s.size ∧ AllDig s) := fun h => by have := h.1; rw [c6] at this; exact absurd this (by decide)
    refine cp_seq ?_
    refine cp_region ?_
    refine stepK_d rfl rfl rfl hst (does_build rfl (by kernel_rfl : layOf Tryd.prog 41 = some ([(0, 1), (1, 1), (2, 1)], [.int .i64 0, .int .i64 0, .pointer none])) rfl rfl) ?_
    refine stepK_store 0 rfl rfl rfl rfl rfl rfl (by kernel_rfl : sizeB Tryd.prog 41 = some 3) rfl rfl hst rfl (by first | (simp [uN_length]; omega) | simp) ?_
    clear hst
    intro w2 hst
    simp only [List.nil_append, List.cons_append, List.set_cons_zero, List.set_cons_succ, splice, List.toList_toArray, List.take_zero, List.take_succ_cons, List.take_nil, List.drop_zero, List.drop_succ_cons, List.drop_nil, List.length_cons, List.length_nil, Nat.zero_add, Nat.add_zero, Nat.reduceAdd, List.append_nil] at hst
    refine stepK_d rfl rfl rfl hst (does_assign rfl rfl) ?_
    refine wpK_nil ?_
    refine cp_then ?_
    refine cp_ret ?_
    refine at_then_ret ?_
    refine ret2c (k := 0) rfl rfl (by kernel_rfl) (by kernel_rfl) rfl rfl hst rfl ?_
    rw [if_neg hno, decide_eq_false hno]
    exact ⟨_, _, _, rfl, IsRat.zero _⟩
  · intro c6
    have h0 := size_pos_of_ne c6
    refine cp_skip ?_
    refine cp_then ?_
    refine cp_seq ?_
    refine cp_seq ?_
    refine cp_region ?_
    refine stepK_d rfl rfl rfl hst (does_move rfl rfl) ?_
    refine stepK_d rfl rfl rfl hst (does_len_string rfl (by kernel_rfl) rfl) ?_
    refine stepK_d rfl rfl rfl hst (does_move rfl rfl) ?_
    refine wpK_nil ?_
    refine cp_then ?_
    refine cp_block ?_
    refine cp_loop (ι := Nat) (fun k => [(0, .string s), (2, .pointer (some ⟨r0, 0, none⟩)), (9, .int .i64 (s.size : Int)), (10, .int .i64 (k : Int))]) (fun k w1 => St w [] g g [(r0, .cells #[.int .i64 0, .int .i64 0, .pointer none] 41 (0, 0))] w1 ∧ k ≤ s.size ∧ ∀ j, j < k → 48 ≤ bt s j ∧ bt s j ≤ 57) (fun k => s.size - k) 0 ?k3 ?i3 ?r3
    case k3 => exact ⟨rfl, rfl, rfl, rfl, trivial⟩
    case i3 =>
      exact ⟨hst, Nat.zero_le _, fun j h => absurd h (Nat.not_lt_zero _)⟩
    case r3 =>
      clear hst
      rintro k w1 ⟨hst, hk, hd⟩
      refine cp_seq ?_
      refine cp_region ?_
      refine stepK_d rfl rfl rfl hst (does_lss rfl rfl rfl) ?_
      refine wpK_nil ?_
      refine cp_then ?_
      refine cp_seq ?_
      refine cp_if rfl ?_ ?_
      · intro c11
        refine cp_skip ?_
        refine cp_then ?_
        refine cp_seq ?_
        refine cp_block ?_
        refine cp_seq ?_
        refine cp_region ?_
        refine stepK_d rfl rfl rfl hst (does_move rfl rfl) ?_
        refine stepK_d rfl rfl rfl hst (does_assign rfl rfl) ?_
        refine wpK_nil ?_
        refine cp_then ?_
        refine cp_seq ?_
        refine cp_region ?_
        refine stepK_d rfl rfl rfl hst (does_move rfl rfl) ?_
        refine stepK_d rfl rfl rfl hst (does_move rfl rfl) ?_
        refine stepK_d rfl rfl rfl hst (does_index_bt rfl (by kernel_rfl) rfl rfl rfl (by omega)) ?_
        refine stepK_d rfl rfl rfl hst (does_lss_n (b := 48) rfl rfl rfl) ?_
        refine stepK_d rfl rfl rfl hst (does_move rfl rfl) ?_
        refine wpK_split (t := 17) rfl ?_ ?_
        · intro s17
          refine stepK_pass rfl rfl rfl rfl rfl rfl rfl ?_
          refine stepK_pass rfl rfl rfl rfl rfl rfl rfl ?_
          refine stepK_pass rfl rfl rfl rfl rfl rfl rfl ?_
          refine stepK_pass rfl rfl rfl rfl rfl rfl rfl ?_
          refine stepK_d rfl rfl rfl hst (does_pick_true rfl rfl rfl) ?_
          refine wpK_nil ?_
          refine cp_then ?_
          refine cp_cond_true rfl ?_
          refine cp_seq ?_
          refine cp_region ?_
          have hno : ¬ (0 < s.size ∧ AllDig s) := fun h => by have := h.2 k (by omega); omega
          refine stepK_d rfl rfl rfl hst (does_build rfl (by kernel_rfl : layOf Tryd.prog 41 = some ([(0, 1), (1, 1), (2, 1)], [.int .i64 0, .int .i64 0, .pointer none])) rfl rfl) ?_
          refine stepK_store 0 rfl rfl rfl rfl rfl rfl (by kernel_rfl : sizeB Tryd.prog 41 = some 3) rfl rfl hst rfl (by first | (simp [uN_length]; omega) | simp) ?_
          clear hst
          intro w4 hst
          simp only [List.nil_append, List.cons_append, List.set_cons_zero, List.set_cons_succ, splice, List.toList_toArray, List.take_zero, List.take_succ_cons, List.take_nil, List.drop_zero, List.drop_succ_cons, List.drop_nil, List.length_cons, List.length_nil, Nat.zero_add, Nat.add_zero, Nat.reduceAdd, List.append_nil] at hst
          refine stepK_d rfl rfl rfl hst (does_assign rfl rfl) ?_
          refine wpK_nil ?_
          refine cp_then ?_
          refine cp_ret ?_
          refine at_block_ret ?_
          refine at_then_ret ?_
          refine at_then_ret ?_
          refine at_block_ret ?_
          refine at_then_ret ?_
          refine ret2c (k := 0) rfl rfl (by kernel_rfl) (by kernel_rfl) rfl rfl hst rfl ?_
          rw [if_neg hno, decide_eq_false hno]
          exact ⟨_, _, _, rfl, IsRat.zero _⟩
        · intro s17
          refine stepK_guard rfl rfl rfl rfl rfl rfl hst (does_move rfl rfl) ?_
          refine stepK_guard rfl rfl rfl rfl rfl rfl hst (does_move rfl rfl) ?_
          refine stepK_guard rfl rfl rfl rfl rfl rfl hst (does_index_bt rfl (by kernel_rfl) rfl rfl rfl (by omega)) ?_
          refine stepK_guard rfl rfl rfl rfl rfl rfl hst (does_gtr_n (b := 57) rfl rfl rfl) ?_
          refine stepK_d rfl rfl rfl hst (does_pick_false rfl rfl rfl) ?_
          refine wpK_nil ?_
          refine cp_then ?_
          refine cp_if rfl ?_ ?_
          · intro c22
            refine cp_seq ?_
            refine cp_region ?_
            have hno : ¬ (0 < s.size ∧ AllDig s) := fun h => by have := h.2 k (by omega); omega
            refine stepK_d rfl rfl rfl hst (does_build rfl (by kernel_rfl : layOf Tryd.prog 41 = some ([(0, 1), (1, 1), (2, 1)], [.int .i64 0, .int .i64 0, .pointer none])) rfl rfl) ?_
            refine stepK_store 0 rfl rfl rfl rfl rfl rfl (by kernel_rfl : sizeB Tryd.prog 41 = some 3) rfl rfl hst rfl (by first | (simp [uN_length]; omega) | simp) ?_
            clear hst
            intro w5 hst
            simp only [List.nil_append, List.cons_append, List.set_cons_zero, List.set_cons_succ, splice, List.toList_toArray, List.take_zero, List.take_succ_cons, List.take_nil, List.drop_zero, List.drop_succ_cons, List.drop_nil, List.length_cons, List.length_nil, Nat.zero_add, Nat.add_zero, Nat.reduceAdd, List.append_nil] at hst
            refine stepK_d rfl rfl rfl hst (does_assign rfl rfl) ?_
            refine wpK_nil ?_
            refine cp_then ?_
            refine cp_ret ?_
            refine at_block_ret ?_
            refine at_then_ret ?_
            refine at_then_ret ?_
            refine at_block_ret ?_
            refine at_then_ret ?_
            refine ret2c (k := 0) rfl rfl (by kernel_rfl) (by kernel_rfl) rfl rfl hst rfl ?_
            rw [if_neg hno, decide_eq_false hno]
            exact ⟨_, _, _, rfl, IsRat.zero _⟩
          · intro c22
            refine cp_skip ?_
            refine at_block_normal ?_
            refine cp_then ?_
            refine cp_region ?_
            refine stepK_d rfl rfl rfl hst (Does.int (does_add rfl rfl rfl) (wrap_i64 (by omega) (by omega))) ?_
            refine stepK_d rfl rfl rfl hst (does_move rfl rfl) ?_
            refine wpK_nil ?_
            refine round_end (k + 1) ?_ ?_ ?_
            · exact ⟨rfl, rfl, rfl, rfl, trivial⟩
            · exact ⟨hst, by omega, fun j h => by
                rcases Nat.lt_or_ge j k with h9 | h9
                · exact hd j h9
                · obtain rfl : j = k := by omega
                  omega⟩
            · omega
      · intro c11
        refine cp_exit ?_
        refine at_then_exit ?_
        refine at_then_exit ?_
        refine cp_exit_here ?_
        refine cp_then ?_
        refine cp_seq ?_
        obtain rfl : k = s.size := by omega
        have hyes : 0 < s.size ∧ AllDig s := ⟨h0, hd⟩
        refine cp_region ?_
        refine stepK_d rfl rfl rfl hst (does_move rfl rfl) ?_
        refine stepK_call rfl rfl rfl rfl rfl hst (num_digits hst.agree hyes.2 hs) ?_
        clear hst
        intro v6 g6 w6 hst hle6 hcs6 hp6
        obtain ⟨A1, n1, c1, rfl, h1⟩ := hp6
        refine stepK_buildSlice rfl rfl rfl rfl (by kernel_rfl : Program.underlying Tryd.prog 64 = some (.slice 66)) (by kernel_rfl : elemInfo Tryd.prog 66 = some ((.int .u64 0), 1, 8)) rfl rfl (by decide) (by decide) (by decide) rfl rfl hst ?_
        clear hst
        intro b7 w7 hst
        obtain ⟨g7, hst, hle7, h9⟩ := hst.lit (x := 1) (by decide) (by decide)
        replace h1 := h1.mono hle7
        refine stepK_call rfl rfl rfl rfl rfl hst (num_lowest hst.agree h1 h9 (by decide) (Nat.gcd_one_right _)) ?_
        clear hst
        intro v8 g8 w8 hst hle8 hcs8 hp8
        replace h1 := h1.mono hle8
        replace h9 := h9.mono hle8
        obtain ⟨p9, q9, a9, rfl, hr9⟩ := hp8
        refine stepK_store 0 rfl rfl rfl rfl rfl rfl (by kernel_rfl : sizeB Tryd.prog 41 = some 3) rfl rfl hst rfl (by first | (simp [uN_length]; omega) | simp) ?_
        clear hst
        intro w9 hst
        simp only [List.nil_append, List.cons_append, List.set_cons_zero, List.set_cons_succ, splice, List.toList_toArray, List.take_zero, List.take_succ_cons, List.take_nil, List.drop_zero, List.drop_succ_cons, List.drop_nil, List.length_cons, List.length_nil, Nat.zero_add, Nat.add_zero, Nat.reduceAdd, List.append_nil] at hst
        refine stepK_d rfl rfl rfl hst (does_assign rfl rfl) ?_
        refine wpK_nil ?_
        refine cp_then ?_
        refine cp_ret ?_
        refine ret2c (k := 0) rfl rfl (by kernel_rfl) (by kernel_rfl) rfl rfl hst rfl ?_
        rw [if_pos hyes, decide_eq_true hyes]
        rw [mkRat_one, dval_all] at hr9
        exact ⟨_, _, _, rfl, hr9⟩

set_option maxHeartbeats 1000000 in
theorem rational_signed {g : Mem} {w : World} (hag : Agree g w) (hT : TabG Tryd.prog g) {p q : Int} {a : Option Addr} {r : Rat} (ha : IsRat g p q a r) (hfa : Fit r) {neg : Bool} :
    CallTo Tryd.prog 22 #[.agg #[.int .i64 p, .int .i64 q, .pointer a], .bool neg] w (Ret w g fun v g => v = .string (ratS (if neg then -r else r))) := by
  refine CallTo.enter (vs := [.agg #[.int .i64 p, .int .i64 q, .pointer a], .bool neg]) (by kernel_rfl : Tryd.prog.funcs[22]? = some Tryd.f22) (by kernel_rfl) rfl rfl rfl ?_
  have hst := St.init hag
  refine cp_seq ?_
  refine cp_region ?_
  refine stepK_box rfl rfl rfl rfl rfl rfl hst ?_
  clear hst
  intro b1 w1 hst
  refine stepK_d rfl rfl rfl hst (does_assign rfl rfl) ?_
  refine wpK_nil ?_
  refine cp_then ?_
  refine cp_seq ?_
  refine cp_seq ?_
  refine cp_region ?_
  refine stepK_d rfl rfl rfl hst (does_move rfl rfl) ?_
  refine wpK_nil ?_
  refine cp_then ?_
  refine cp_cond rfl ?_ ?_
  · intro c5
    refine cp_region ?_
    refine stepK_d rfl rfl rfl hst (does_load_ownN 0 rfl (by kernel_rfl) (by kernel_rfl : sizeB Tryd.prog 41 = some 3) rfl rfl rfl) ?_
    refine stepK_call rfl rfl rfl rfl rfl hst (Rat_Neg hst.agree ha) ?_
    clear hst
    intro v2 g2 w2 hst hle2 hcs2 hp2
    replace ha := ha.mono hle2
    replace hT := hT.mono hle2
    obtain ⟨p9, q9, a9, rfl, hr9⟩ := hp2
    refine stepK_store 0 rfl rfl rfl rfl rfl rfl (by kernel_rfl : sizeB Tryd.prog 41 = some 3) rfl rfl hst rfl (by first | (simp [uN_length]; omega) | simp) ?_
    clear hst
    intro w3 hst
    simp only [List.nil_append, List.cons_append, List.set_cons_zero, List.set_cons_succ, splice, List.toList_toArray, List.take_zero, List.take_succ_cons, List.take_nil, List.drop_zero, List.drop_succ_cons, List.drop_nil, List.length_cons, List.length_nil, Nat.zero_add, Nat.add_zero, Nat.reduceAdd, List.append_nil] at hst
    refine wpK_nil ?_
    refine cp_then ?_
    refine cp_seq ?_
    refine cp_region ?_
    refine stepK_d rfl rfl rfl hst (does_load_ownN 0 rfl (by kernel_rfl) (by kernel_rfl : sizeB Tryd.prog 41 = some 3) rfl rfl rfl) ?_
    refine stepK_call rfl rfl rfl rfl rfl hst (by
      first
      | exact Rat_String hst.agree hT hr9 hfa.neg
      | exact Rat_String hst.agree hT ha hfa) ?_
    clear hst
    intro v4 g4 w4 hst hle4 hcs4 hp4
    replace ha := ha.mono hle4
    replace hT := hT.mono hle4
    replace hr9 := hr9.mono hle4
    obtain rfl := hp4
    refine stepK_d rfl rfl rfl hst (does_assign rfl rfl) ?_
    refine wpK_nil ?_
    refine cp_then ?_
    refine cp_ret ?_
    refine ret1 rfl rfl hst ?_
    rw [c5]
    rfl
  · intro c5
    refine cp_skip ?_
    refine cp_then ?_
    refine cp_seq ?_
    refine cp_region ?_
    refine stepK_d rfl rfl rfl hst (does_load_ownN 0 rfl (by kernel_rfl) (by kernel_rfl : sizeB Tryd.prog 41 = some 3) rfl rfl rfl) ?_
    refine stepK_call rfl rfl rfl rfl rfl hst (by
      first
      | exact Rat_String hst.agree hT hr9 hfa.neg
      | exact Rat_String hst.agree hT ha hfa) ?_
    clear hst
    intro v5 g5 w5 hst hle5 hcs5 hp5
    replace ha := ha.mono hle5
    replace hT := hT.mono hle5
    obtain rfl := hp5
    refine stepK_d rfl rfl rfl hst (does_assign rfl rfl) ?_
    refine wpK_nil ?_
    refine cp_then ?_
    refine cp_ret ?_
    refine ret1 rfl rfl hst ?_
    rw [c5]
    rfl

set_option maxHeartbeats 1000000 in
theorem HasPrefix1 {g : Mem} {w : World} (hag : Agree g w) {s : ByteArray} {c : UInt8} (hs : s.size ≤ 1099511627776) :
    CallTo Tryd.prog 61 #[.string s, .string ⟨#[c]⟩] w (Ret w g fun v g => v = .bool (decide (0 < s.size ∧ bt s 0 = c.toNat))) := by
  refine CallTo.enter (vs := [.string s, .string ⟨#[c]⟩]) (by kernel_rfl : Tryd.prog.funcs[61]? = some Tryd.f61) (by kernel_rfl) rfl rfl rfl ?_
  have hst := St.init hag
  have hs1 : (⟨#[c]⟩ : ByteArray).size = 1 := rfl
  refine cp_seq ?_
  refine cp_region ?_
  refine stepK_d rfl rfl rfl hst (does_assign rfl rfl) ?_
  refine wpK_nil ?_
  refine cp_then ?_
  refine cp_seq ?_
  refine cp_region ?_
  refine stepK_d rfl rfl rfl hst (does_move rfl rfl) ?_
  refine stepK_d rfl rfl rfl hst (does_len_string rfl (by kernel_rfl) rfl) ?_
  refine stepK_d rfl rfl rfl hst (does_move rfl rfl) ?_
  refine stepK_d rfl rfl rfl hst (does_len_string rfl (by kernel_rfl) rfl) ?_
  refine stepK_d rfl rfl rfl hst (does_geq rfl rfl rfl) ?_
  refine stepK_d rfl rfl rfl hst (does_move rfl rfl) ?_
  refine wpK_split (t := 10) rfl ?_ ?_
  · intro s10
    refine stepK_guard rfl rfl rfl rfl rfl rfl hst (does_move rfl rfl) ?_
    refine stepK_guard rfl rfl rfl rfl rfl rfl hst (does_move rfl rfl) ?_
    refine stepK_guard rfl rfl rfl rfl rfl rfl hst (does_len_string rfl (by kernel_rfl) rfl) ?_
    refine stepK_guard rfl rfl rfl rfl rfl rfl hst (does_slice_string (l := 0) (h := 1) rfl (by kernel_rfl) rfl rfl ⟨_, _, rfl, rfl⟩ (by decide) (by omega)) ?_
    refine stepK_guard rfl rfl rfl rfl rfl rfl hst (does_move rfl rfl) ?_
    refine stepK_guard rfl rfl rfl rfl rfl rfl hst (does_eql_string rfl rfl rfl) ?_
    refine stepK_d rfl rfl rfl hst (does_pick_true rfl rfl rfl) ?_
    refine stepK_d rfl rfl rfl hst (does_assign rfl rfl) ?_
    refine wpK_nil ?_
    refine cp_then ?_
    refine cp_ret ?_
    refine ret1 rfl rfl hst ?_
    congr 1
    exact decide_eq_decide.2 (prefix_iff (by omega))
  · intro s10
    refine stepK_pass rfl rfl rfl rfl rfl rfl rfl ?_
    refine stepK_pass rfl rfl rfl rfl rfl rfl rfl ?_
    refine stepK_pass rfl rfl rfl rfl rfl rfl rfl ?_
    refine stepK_pass rfl rfl rfl rfl rfl rfl rfl ?_
    refine stepK_pass rfl rfl rfl rfl rfl rfl rfl ?_
    refine stepK_pass rfl rfl rfl rfl rfl rfl rfl ?_
    refine stepK_d rfl rfl rfl hst (does_pick_false rfl rfl rfl) ?_
    refine stepK_d rfl rfl rfl hst (does_assign rfl rfl) ?_
    refine wpK_nil ?_
    refine cp_then ?_
    refine cp_ret ?_
    refine ret1 rfl rfl hst ?_
    rw [decide_eq_false (fun h => by omega)]

set_option maxHeartbeats 1000000 in
theorem iCutPrefix1 {g : Mem} {w : World} (hag : Agree g w) {s : ByteArray} {c : UInt8} (hs : s.size ≤ 1099511627776) :
    CallTo Tryd.prog 36 #[.string s, .string ⟨#[c]⟩] w (Ret w g fun v g => ∃ t ok, v = .tuple #[.string t, .bool ok] ∧ Cut1 s c t ok) := by
  refine CallTo.enter (vs := [.string s, .string ⟨#[c]⟩]) (by kernel_rfl : Tryd.prog.funcs[36]? = some Tryd.f36) (by kernel_rfl) rfl rfl rfl ?_
  have hst := St.init hag
  refine cp_seq ?_
  refine cp_region ?_
  refine stepK_d rfl rfl rfl hst (does_assign rfl rfl) ?_
  refine stepK_d rfl rfl rfl hst (does_assign rfl rfl) ?_
  refine wpK_nil ?_
  refine cp_then ?_
  refine cp_seq ?_
  refine cp_seq ?_
  refine cp_region ?_
  refine stepK_d rfl rfl rfl hst (does_move rfl rfl) ?_
  refine stepK_d rfl rfl rfl hst (does_move rfl rfl) ?_
  refine stepK_call rfl rfl rfl rfl rfl hst (HasPrefix1 hst.agree hs) ?_
  clear hst
  intro v1 g1 w1 hst hle1 hcs1 hp1
  obtain rfl := hp1
  refine stepK_d rfl rfl rfl hst (does_not rfl rfl) ?_
  refine wpK_nil ?_
  refine cp_then ?_
  refine cp_cond rfl ?_ ?_
  · intro c9
    have hno : ¬ (0 < s.size ∧ bt s 0 = c.toNat) := fun h => by rw [decide_eq_true h] at c9; cases c9
    refine cp_seq ?_
    refine cp_region ?_
    refine stepK_d rfl rfl rfl hst (does_move rfl rfl) ?_
    refine stepK_d rfl rfl rfl hst (does_assign rfl rfl) ?_
    refine stepK_d rfl rfl rfl hst (does_assign rfl rfl) ?_
    refine wpK_nil ?_
    refine cp_then ?_
    refine cp_ret ?_
    refine at_then_ret ?_
    refine ret2 rfl rfl rfl hst ?_
    exact ⟨_, _, rfl, .inr ⟨rfl, hno, rfl⟩⟩
  · intro c9
    have hyes : 0 < s.size ∧ bt s 0 = c.toNat := Decidable.byContradiction fun h => by rw [decide_eq_false h] at c9; cases c9
    refine cp_skip ?_
    refine cp_then ?_
    refine cp_seq ?_
    refine cp_region ?_
    refine stepK_d rfl rfl rfl hst (does_move rfl rfl) ?_
    refine stepK_d rfl rfl rfl hst (does_move rfl rfl) ?_
    refine stepK_d rfl rfl rfl hst (does_len_string rfl (by kernel_rfl) rfl) ?_
    refine stepK_d rfl rfl rfl hst (does_slice_string (l := 1) (h := s.size) rfl (by kernel_rfl) rfl ⟨_, _, rfl, rfl⟩ rfl (by omega) (Nat.le_refl _)) ?_
    refine stepK_d rfl rfl rfl hst (does_assign rfl rfl) ?_
    refine stepK_d rfl rfl rfl hst (does_assign rfl rfl) ?_
    refine wpK_nil ?_
    refine cp_then ?_
    refine cp_ret ?_
    refine ret2 rfl rfl rfl hst ?_
    exact ⟨_, _, rfl, .inl ⟨rfl, hyes, rfl⟩⟩

set_option maxHeartbeats 1000000 in
theorem CutPrefix1 {g : Mem} {w : World} (hag : Agree g w) {s : ByteArray} {c : UInt8} (hs : s.size ≤ 1099511627776) :
    CallTo Tryd.prog 19 #[.string s, .string ⟨#[c]⟩] w (Ret w g fun v g => ∃ t ok, v = .tuple #[.string t, .bool ok] ∧ Cut1 s c t ok) := by
  refine CallTo.enter (vs := [.string s, .string ⟨#[c]⟩]) (by kernel_rfl : Tryd.prog.funcs[19]? = some Tryd.f19) (by kernel_rfl) rfl rfl rfl ?_
  have hst := St.init hag
  refine cp_seq ?_
  refine cp_region ?_
  refine stepK_d rfl rfl rfl hst (does_assign rfl rfl) ?_
  refine stepK_d rfl rfl rfl hst (does_assign rfl rfl) ?_
  refine wpK_nil ?_
  refine cp_then ?_
  refine cp_seq ?_
  refine cp_region ?_
  refine stepK_d rfl rfl rfl hst (does_move rfl rfl) ?_
  refine stepK_d rfl rfl rfl hst (does_move rfl rfl) ?_
  refine stepK_call rfl rfl rfl rfl rfl hst (iCutPrefix1 hst.agree hs) ?_
  clear hst
  intro v1 g1 w1 hst hle1 hcs1 hp1
  obtain ⟨t9, ok9, rfl, hc9⟩ := hp1
  refine stepK_d rfl rfl rfl hst (does_extract rfl rfl rfl) ?_
  refine stepK_d rfl rfl rfl hst (does_extract rfl rfl rfl) ?_
  refine stepK_d rfl rfl rfl hst (does_assign rfl rfl) ?_
  refine stepK_d rfl rfl rfl hst (does_assign rfl rfl) ?_
  refine wpK_nil ?_
  refine cp_then ?_
  refine cp_ret ?_
  refine ret2 rfl rfl rfl hst ?_
  exact ⟨_, _, rfl, hc9⟩

end Go.Proofs.YtbamjcfdlgnicaaDoor

namespace Go.Proofs.YtbamjcfdlgnicaaDoor
open Go Go.RowKit Go.Proofs.Vc
set_option linter.unusedVariables false
set_option linter.unusedSimpArgs false

set_option maxHeartbeats 1000000 in
theorem num_reduce {g : Mem} {w : World} (hag : Agree g w) {neg : Bool} {A B : Option Addr} {n c m d N M : Nat} (ha : IsNat g A n N) (hb : IsNat g B m M) (hM : 0 < M) (hn : n ≤ 8796093022206) (hm : m ≤ 8796093022206) :
    CallTo Tryd.prog 48 #[.bool neg, .slice A n c, .slice B m d] w (Ret w g fun v g => ∃ p q a, v = .agg #[.int .i64 p, .int .i64 q, .pointer a] ∧ IsRat g p q a (mkRat (sg neg N) M)) := by
  refine CallTo.enter (vs := [.bool neg, .slice A n c, .slice B m d]) (by kernel_rfl : Tryd.prog.funcs[48]? = some Tryd.f48) (by kernel_rfl) rfl rfl rfl ?_
  have hst := St.init hag
  refine cp_seq ?_
  refine cp_region ?_
  refine stepK_alloc rfl rfl rfl rfl (by kernel_rfl : zeroOf Tryd.prog 41 = some (.agg #[.int .i64 0, .int .i64 0, .pointer none])) rfl hst ?_
  clear hst
  intro r0 w1 hst
  refine wpK_nil ?_
  refine cp_then ?_
  refine cp_seq ?_
  refine cp_seq ?_
  refine cp_region ?_
  refine stepK_d rfl rfl rfl hst (does_move rfl rfl) ?_
  refine stepK_d rfl rfl rfl hst (does_len_slice rfl (by kernel_rfl : Program.underlying Tryd.prog 64 = some (.slice 66)) rfl) ?_
  refine stepK_d rfl rfl rfl hst (does_eql rfl rfl rfl) ?_
  refine wpK_nil ?_
  refine cp_then ?_
  refine cp_if rfl ?_ ?_
  · intro c10
    obtain rfl : N = 0 := ha.zero_iff.1 (by omega)
    refine cp_seq ?_
    refine cp_region ?_
    refine stepK_d rfl rfl rfl hst (does_build rfl (by kernel_rfl : layOf Tryd.prog 41 = some ([(0, 1), (1, 1), (2, 1)], [.int .i64 0, .int .i64 0, .pointer none])) rfl rfl) ?_
    refine stepK_store 0 rfl rfl rfl rfl rfl rfl (by kernel_rfl : sizeB Tryd.prog 41 = some 3) rfl rfl hst rfl (by first | (simp [uN_length]; omega) | simp) ?_
    clear hst
    intro w2 hst
    simp only [List.nil_append, List.cons_append, List.set_cons_zero, List.set_cons_succ, splice, List.toList_toArray, List.take_zero, List.take_succ_cons, List.take_nil, List.drop_zero, List.drop_succ_cons, List.drop_nil, List.length_cons, List.length_nil, Nat.zero_add, Nat.add_zero, Nat.reduceAdd, List.append_nil] at hst
    refine wpK_nil ?_
    refine cp_then ?_
    refine cp_ret ?_
    refine at_then_ret ?_
    refine ret1c (k := 0) rfl rfl (by kernel_rfl) (by kernel_rfl) rfl hst rfl ?_
    exact ⟨_, _, _, rfl, IsRat.mk_zero _ _ _⟩
  · intro c10
    refine cp_skip ?_
    refine cp_then ?_
    refine cp_join (ι := Option Addr × Nat × Nat × Nat × Option Addr × Nat × Nat × Nat) (fun (A, n, c, N2, B, m, d, M2) => [(0, .bool neg), (1, .slice A n c), (2, .slice B m d), (6, .pointer (some ⟨r0, 0, none⟩))]) (fun (A, n, c, N2, B, m, d, M2) w2 => ∃ g1, St w [] g g1 [(r0, .cells #[.int .i64 0, .int .i64 0, .pointer none] 41 (0, 0))] w2 ∧ IsNat g1 A n N2 ∧ IsNat g1 B m M2 ∧ 0 < M2 ∧ Nat.gcd N2 M2 = 1 ∧ mkRat (sg neg N2) M2 = mkRat (sg neg N) M) ?c3 ?d3
    case c3 =>
      refine cp_seq ?_
      refine cp_region ?_
      refine stepK_d rfl rfl rfl hst (does_move rfl rfl) ?_
      refine stepK_d rfl rfl rfl hst (does_move rfl rfl) ?_
      refine stepK_call rfl rfl rfl rfl rfl hst (num_divisor hst.agree ha hb hn hm) ?_
      clear hst
      intro v4 g4 w4 hst hle4 hcs4 hp4
      replace ha := ha.mono hle4
      replace hb := hb.mono hle4
      obtain ⟨G, gn, gc, rfl, hg⟩ := hp4
      have hgn : gn ≤ m := hg.len (Nat.lt_of_le_of_lt (Nat.gcd_le_right _ hM) hb.lt)
      have hG0 : 0 < Nat.gcd N M := Nat.gcd_pos_of_pos_right _ hM
      refine stepK_d rfl rfl rfl hst (does_assign rfl rfl) ?_
      refine wpK_nil ?_
      refine cp_then ?_
      refine cp_seq ?_
      refine cp_region ?_
      refine stepK_d rfl rfl rfl hst (does_move rfl rfl) ?_
      refine stepK_buildSlice rfl rfl rfl rfl (by kernel_rfl : Program.underlying Tryd.prog 64 = some (.slice 66)) (by kernel_rfl : elemInfo Tryd.prog 66 = some ((.int .u64 0), 1, 8)) rfl rfl (by decide) (by decide) (by decide) rfl rfl hst ?_
      clear hst
      intro b5 w5 hst
      obtain ⟨g5, hst, hle5, h1⟩ := hst.lit (x := 1) (by decide) (by decide)
      replace ha := ha.mono hle5
      replace hb := hb.mono hle5
      replace hg := hg.mono hle5
      refine stepK_call rfl rfl rfl rfl rfl hst (num_compare hst.agree hg h1 (by omega)) ?_
      clear hst
      intro v6 g6 w6 hst hle6 hcs6 hp6
      replace ha := ha.mono hle6
      replace hb := hb.mono hle6
      replace hg := hg.mono hle6
      replace h1 := h1.mono hle6
      obtain rfl := hp6
      refine stepK_d rfl rfl rfl hst (does_neq rfl rfl rfl) ?_
      refine wpK_nil ?_
      refine cp_then ?_
      refine cp_if rfl ?_ ?_
      · intro c18
        refine cp_seq ?_
        refine cp_region ?_
        refine stepK_d rfl rfl rfl hst (does_move rfl rfl) ?_
        refine stepK_d rfl rfl rfl hst (does_move rfl rfl) ?_
        refine stepK_call rfl rfl rfl rfl rfl hst (num_divide hst.agree ha hg hG0 hn (by omega)) ?_
        clear hst
        intro v7 g7 w7 hst hle7 hcs7 hp7
        replace ha := ha.mono hle7
        replace hb := hb.mono hle7
        replace hg := hg.mono hle7
        replace h1 := h1.mono hle7
        obtain ⟨A7, n7, c7, B7, m7, d7, rfl, h7, h77⟩ := hp7
        refine stepK_d rfl rfl rfl hst (does_move rfl rfl) ?_
        refine stepK_d rfl rfl rfl hst (does_extract rfl rfl rfl) ?_
        refine stepK_d rfl rfl rfl hst (does_extract rfl rfl rfl) ?_
        refine stepK_d rfl rfl rfl hst (does_assign rfl rfl) ?_
        refine wpK_nil ?_
        refine cp_then ?_
        refine cp_region ?_
        refine stepK_d rfl rfl rfl hst (does_move rfl rfl) ?_
        refine stepK_d rfl rfl rfl hst (does_move rfl rfl) ?_
        refine stepK_call rfl rfl rfl rfl rfl hst (num_divide hst.agree hb hg hG0 hm (by omega)) ?_
        clear hst
        intro v8 g8 w8 hst hle8 hcs8 hp8
        replace ha := ha.mono hle8
        replace hb := hb.mono hle8
        replace hg := hg.mono hle8
        replace h1 := h1.mono hle8
        replace h7 := h7.mono hle8
        obtain ⟨A8, n8, c8, B8, m8, d8, rfl, h8, h88⟩ := hp8
        refine stepK_d rfl rfl rfl hst (does_move rfl rfl) ?_
        refine stepK_d rfl rfl rfl hst (does_extract rfl rfl rfl) ?_
        refine stepK_d rfl rfl rfl hst (does_extract rfl rfl rfl) ?_
        refine stepK_d rfl rfl rfl hst (does_assign rfl rfl) ?_
        refine wpK_nil ?_
        refine join_end ((A7, n7, c7, N / Nat.gcd N M, A8, n8, c8, M / Nat.gcd N M)) ?_ ?_
        · exact ⟨rfl, rfl, rfl, rfl, trivial⟩
        · exact ⟨_, hst, h7, h8, Nat.div_pos (Nat.gcd_le_right _ hM) hG0, gcd_coprime hM, mkRat_gcd hM⟩
      · intro c18
        refine cp_skip ?_
        have hG1 : Nat.gcd N M = 1 := cmpN_zero.1 (Decidable.byContradiction c18)
        refine join_end ((A, n, c, N, B, m, d, M)) ?_ ?_
        · exact ⟨rfl, rfl, rfl, rfl, trivial⟩
        · exact ⟨_, hst, ha, hb, hM, hG1, rfl⟩
    case d3 =>
      clear hst
      rintro ⟨A2, n2, c2, N2, B2, m2, d2, M2⟩ w2 ⟨g2, hst, ha2, hb2, hM2, hc2, hmk⟩
      refine cp_seq ?_
      refine cp_region ?_
      refine stepK_d rfl rfl rfl hst (does_move rfl rfl) ?_
      refine stepK_d rfl rfl rfl hst (does_move rfl rfl) ?_
      refine stepK_d rfl rfl rfl hst (does_move rfl rfl) ?_
      refine stepK_call rfl rfl rfl rfl rfl hst (num_lowest hst.agree ha2 hb2 hM2 hc2) ?_
      clear hst
      intro v9 g9 w9 hst hle9 hcs9 hp9
      replace ha2 := ha2.mono hle9
      replace hb2 := hb2.mono hle9
      obtain ⟨p9, q9, a9, rfl, hr9⟩ := hp9
      refine stepK_store 0 rfl rfl rfl rfl rfl rfl (by kernel_rfl : sizeB Tryd.prog 41 = some 3) rfl rfl hst rfl (by first | (simp [uN_length]; omega) | simp) ?_
      clear hst
      intro w10 hst
      simp only [List.nil_append, List.cons_append, List.set_cons_zero, List.set_cons_succ, splice, List.toList_toArray, List.take_zero, List.take_succ_cons, List.take_nil, List.drop_zero, List.drop_succ_cons, List.drop_nil, List.length_cons, List.length_nil, Nat.zero_add, Nat.add_zero, Nat.reduceAdd, List.append_nil] at hst
      refine wpK_nil ?_
      refine cp_then ?_
      refine cp_ret ?_
      refine ret1c (k := 0) rfl rfl (by kernel_rfl) (by kernel_rfl) rfl hst rfl ?_
      refine ⟨_, _, _, rfl, ?_⟩
      rw [← hmk]
      assumption

set_option maxHeartbeats 1000000 in
theorem Rat_parts {g : Mem} {w : World} (hag : Agree g w) {p q : Int} {a : Option Addr} {r : Rat} (ha : IsRat g p q a r) :
    CallTo Tryd.prog 46 #[.agg #[.int .i64 p, .int .i64 q, .pointer a]] w (Ret w g fun v g => ∃ A n c B m d, v = .tuple #[.bool (decide (r.num < 0)), .slice A n c, .slice B m d] ∧ IsNat g A n r.num.natAbs ∧ IsNat g B m r.den) := by
  refine CallTo.enter (vs := [.agg #[.int .i64 p, .int .i64 q, .pointer a]]) (by kernel_rfl : Tryd.prog.funcs[46]? = some Tryd.f46) (by kernel_rfl) rfl rfl rfl ?_
  have hst := St.init hag
  refine cp_seq ?_
  refine cp_region ?_
  refine stepK_box rfl rfl rfl rfl rfl rfl hst ?_
  clear hst
  intro b1 w1 hst
  refine stepK_d rfl rfl rfl hst (does_assign rfl rfl) ?_
  refine stepK_d rfl rfl rfl hst (does_assign rfl rfl) ?_
  refine stepK_d rfl rfl rfl hst (does_assign rfl rfl) ?_
  refine wpK_nil ?_
  refine cp_then ?_
  refine cp_seq ?_
  refine cp_seq ?_
  refine cp_region ?_
  refine stepK_d rfl rfl rfl hst (does_fieldAddr rfl (by kernel_rfl : fieldOf Tryd.prog 41 2 = some (2, 0 + 1, false)) rfl) ?_
  refine stepK_d rfl rfl rfl hst (does_load_ownL 0 rfl (by kernel_rfl) rfl rfl rfl) ?_
  refine stepK_d rfl rfl rfl hst (does_neq_nilD rfl (by kernel_rfl : Program.underlying Tryd.prog 39 = some (.pointer 80)) rfl rfl) ?_
  refine wpK_nil ?_
  refine cp_then ?_
  refine cp_if rfl ?_ ?_
  · intro c9
    obtain ⟨rfl, rfl, bl, rfl, hs, A, n, c, B, m, d, e0, e1, e2, e3, e4⟩ := ha.big c9
    refine cp_seq ?_
    refine cp_drawn (by kernel_rfl) 18 [(0, true), (1, true), (2, true), (3, true), (4, true), (5, true), (6, true), (7, true), (8, true), (9, true), (10, true), (11, true), (12, true), (13, true), (14, true), (15, true), (16, true), (17, true)] _ rfl (by kernel_rfl) (by kernel_rfl) (by kernel_rfl) (fun _ _ _ _ _ h => h) _ (hst.drew) ?_
    have hst0 := hst.drew
    clear hst
    have hst := hst0
    refine stepD_d rfl rfl rfl rfl (does_fieldAddr rfl (by kernel_rfl : fieldOf Tryd.prog 41 2 = some (2, 0 + 1, false)) rfl) ?_
    refine stepD_d rfl rfl rfl rfl (does_load_ownL 0 rfl (by kernel_rfl) rfl rfl rfl) ?_
    refine stepD_d rfl rfl rfl rfl (does_nilCheck rfl rfl) ?_
    refine stepD_d rfl rfl rfl rfl (does_fieldAddr rfl (by kernel_rfl : fieldOf Tryd.prog 80 0 = some (0, 0 + 1, false)) rfl) ?_
    refine stepD_d rfl rfl rfl rfl (does_load_g1 rfl (by kernel_rfl) rfl e0) ?_
    refine stepD_d rfl rfl rfl rfl (does_fieldAddr rfl (by kernel_rfl : fieldOf Tryd.prog 41 2 = some (2, 0 + 1, false)) rfl) ?_
    refine stepD_d rfl rfl rfl rfl (does_load_ownL 0 rfl (by kernel_rfl) rfl rfl rfl) ?_
    refine stepD_d rfl rfl rfl rfl (does_nilCheck rfl rfl) ?_
    refine stepD_d rfl rfl rfl rfl (does_fieldAddr rfl (by kernel_rfl : fieldOf Tryd.prog 80 1 = some (1, 0 + 1, false)) rfl) ?_
    refine stepD_d rfl rfl rfl rfl (does_load_g1 rfl (by kernel_rfl) rfl e1) ?_
    refine stepD_d rfl rfl rfl rfl (does_fieldAddr rfl (by kernel_rfl : fieldOf Tryd.prog 41 2 = some (2, 0 + 1, false)) rfl) ?_
    refine stepD_d rfl rfl rfl rfl (does_load_ownL 0 rfl (by kernel_rfl) rfl rfl rfl) ?_
    refine stepD_d rfl rfl rfl rfl (does_nilCheck rfl rfl) ?_
    refine stepD_d rfl rfl rfl rfl (does_fieldAddr rfl (by kernel_rfl : fieldOf Tryd.prog 80 2 = some (2, 0 + 1, false)) rfl) ?_
    refine stepD_d rfl rfl rfl rfl (does_load_g1 rfl (by kernel_rfl) rfl e2) ?_
    refine stepD_d rfl rfl rfl rfl (does_assign rfl rfl) ?_
    refine stepD_d rfl rfl rfl rfl (does_assign rfl rfl) ?_
    refine stepD_d rfl rfl rfl rfl (does_assign rfl rfl) ?_
    refine stepD_tail ?_
    refine wpK_nil ?_
    refine cp_then ?_
    refine cp_ret ?_
    refine at_then_ret ?_
    refine ret3 rfl rfl rfl rfl hst ?_
    exact ⟨_, _, _, _, _, _, rfl, e3, e4⟩
  · intro c9
    obtain rfl : a = none := Decidable.byContradiction c9
    have hl := ha.low
    have hbd := hl.1.bound
    refine cp_skip ?_
    refine cp_then ?_
    refine cp_seq ?_
    refine cp_region ?_
    refine stepK_d rfl rfl rfl hst (does_load_ownN 0 rfl (by kernel_rfl) (by kernel_rfl : sizeB Tryd.prog 41 = some 3) rfl rfl rfl) ?_
    refine stepK_call rfl rfl rfl rfl rfl hst (Rat_low hst.agree hl) ?_
    clear hst
    intro v2 g2 w2 hst hle2 hcs2 hp2
    replace ha := ha.mono hle2
    obtain rfl := hp2
    refine stepK_d rfl rfl rfl hst (does_move rfl rfl) ?_
    refine stepK_d rfl rfl rfl hst (does_extract rfl rfl rfl) ?_
    refine stepK_d rfl rfl rfl hst (does_extract rfl rfl rfl) ?_
    refine stepK_d rfl rfl rfl hst (does_assign rfl rfl) ?_
    refine stepK_d rfl rfl rfl hst (does_assign rfl rfl) ?_
    refine wpK_nil ?_
    refine cp_then ?_
    refine cp_seq ?_
    refine cp_region ?_
    refine stepK_d rfl rfl rfl hst (does_move rfl rfl) ?_
    refine stepK_d rfl rfl rfl hst (does_lss rfl rfl rfl) ?_
    refine stepK_d rfl rfl rfl hst (does_move rfl rfl) ?_
    refine stepK_call rfl rfl rfl rfl rfl hst (num_magnitude hst.agree (by omega) (by omega)) ?_
    clear hst
    intro v3 g3 w3 hst hle3 hcs3 hp3
    replace ha := ha.mono hle3
    obtain rfl := hp3
    refine stepK_call rfl rfl rfl rfl rfl hst (num_word hst.agree (by omega)) ?_
    clear hst
    intro v4 g4 w4 hst hle4 hcs4 hp4
    replace ha := ha.mono hle4
    obtain ⟨A4, n4, c4, rfl, hn4⟩ := hp4
    refine stepK_d rfl rfl rfl hst (does_move rfl rfl) ?_
    refine stepK_d rfl rfl rfl hst (Does.nat (b := r.den) (does_conv_n_u64 rfl (by kernel_rfl) (by kernel_rfl) rfl) (by rw [Nat.mod_eq_of_lt (by omega)])) ?_
    refine stepK_call rfl rfl rfl rfl rfl hst (num_word hst.agree (by omega)) ?_
    clear hst
    intro v5 g5 w5 hst hle5 hcs5 hp5
    replace ha := ha.mono hle5
    replace hn4 := hn4.mono hle5
    obtain ⟨A5, n5, c5, rfl, hn5⟩ := hp5
    refine stepK_d rfl rfl rfl hst (does_assign rfl rfl) ?_
    refine stepK_d rfl rfl rfl hst (does_assign rfl rfl) ?_
    refine stepK_d rfl rfl rfl hst (does_assign rfl rfl) ?_
    refine wpK_nil ?_
    refine cp_then ?_
    refine cp_ret ?_
    refine ret3 rfl rfl rfl rfl hst ?_
    exact ⟨_, _, _, _, _, _, rfl, by assumption, by assumption⟩

end Go.Proofs.YtbamjcfdlgnicaaDoor

namespace Go.Proofs.YtbamjcfdlgnicaaDoor
open Go Go.RowKit Go.Proofs.Vc
set_option linter.unusedVariables false
set_option linter.unusedSimpArgs false

set_option maxHeartbeats 1000000 in
theorem num_quotient {g : Mem} {w : World} (hag : Agree g w) {n d : Int} (h1 : -9223372036854775808 ≤ n) (h2 : n ≤ 9223372036854775807) (h3 : -9223372036854775808 ≤ d) (h4 : d ≤ 9223372036854775807) (hd : d ≠ 0) :
    CallTo Tryd.prog 45 #[.int .i64 n, .int .i64 d] w (Ret w g fun v g => ∃ p q a, v = .agg #[.int .i64 p, .int .i64 q, .pointer a] ∧ IsRat g p q a (Rat.divInt n d)) := by
  refine CallTo.enter (vs := [.int .i64 n, .int .i64 d]) (by kernel_rfl : Tryd.prog.funcs[45]? = some Tryd.f45) (by kernel_rfl) rfl rfl rfl ?_
  have hst := St.init hag
  refine cp_seq ?_
  refine cp_region ?_
  refine stepK_alloc rfl rfl rfl rfl (by kernel_rfl : zeroOf Tryd.prog 41 = some (.agg #[.int .i64 0, .int .i64 0, .pointer none])) rfl hst ?_
  clear hst
  intro r0 w1 hst
  refine wpK_nil ?_
  refine cp_then ?_
  refine cp_seq ?_
  refine cp_region ?_
  refine stepK_d rfl rfl rfl hst (does_move rfl rfl) ?_
  refine stepK_d rfl rfl rfl hst (does_lss rfl rfl rfl) ?_
  refine stepK_d rfl rfl rfl hst (does_move rfl rfl) ?_
  refine stepK_d rfl rfl rfl hst (does_lss rfl rfl rfl) ?_
  refine stepK_d rfl rfl rfl hst (does_neq_bool rfl (by kernel_rfl) rfl rfl) ?_
  refine stepK_d rfl rfl rfl hst (does_assign rfl rfl) ?_
  refine wpK_nil ?_
  refine cp_then ?_
  refine cp_seq ?_
  generalize hneg : (!(decide (n < 0) == decide (d < 0))) = neg
  have hnn : n.natAbs < 18446744073709551616 := by omega
  have hdd : d.natAbs < 18446744073709551616 := by omega
  refine cp_region ?_
  refine stepK_d rfl rfl rfl hst (does_move rfl rfl) ?_
  refine stepK_call rfl rfl rfl rfl rfl hst (num_magnitude hst.agree h1 h2) ?_
  clear hst
  intro v2 g2 w2 hst hle2 hcs2 hp2
  obtain rfl := hp2
  refine stepK_d rfl rfl rfl hst (does_move rfl rfl) ?_
  refine stepK_call rfl rfl rfl rfl rfl hst (num_magnitude hst.agree h3 h4) ?_
  clear hst
  intro v3 g3 w3 hst hle3 hcs3 hp3
  obtain rfl := hp3
  refine stepK_d rfl rfl rfl hst (does_assign rfl rfl) ?_
  refine stepK_d rfl rfl rfl hst (does_assign rfl rfl) ?_
  refine wpK_nil ?_
  refine cp_then ?_
  refine cp_seq ?_
  refine cp_region ?_
  refine stepK_d rfl rfl rfl hst (does_move rfl rfl) ?_
  refine stepK_d rfl rfl rfl hst (does_move rfl rfl) ?_
  refine stepK_d rfl rfl rfl hst (does_assign rfl rfl) ?_
  refine stepK_d rfl rfl rfl hst (does_assign rfl rfl) ?_
  refine wpK_nil ?_
  refine cp_then ?_
  refine cp_seq ?_
  refine cp_block ?_
  refine cp_loop (ι := Nat × Nat) (fun (x, y) => [(4, .pointer (some ⟨r0, 0, none⟩)), (5, .bool neg), (6, .int .u64 ((n.natAbs : Nat) : Int)), (7, .int .u64 ((d.natAbs : Nat) : Int)), (8, .int .u64 (x : Int)), (9, .int .u64 (y : Int))]) (fun (x, y) w1 => ∃ g3, St w [] g g3 [(r0, .cells #[.int .i64 0, .int .i64 0, .pointer none] 41 (0, 0))] w1 ∧ x < 18446744073709551616 ∧ y < 18446744073709551616 ∧ Nat.gcd x y = Nat.gcd n.natAbs d.natAbs) (fun (x, y) => y) (n.natAbs, d.natAbs) ?k4 ?i4 ?r4
  case k4 => exact ⟨rfl, rfl, rfl, rfl, rfl, rfl, trivial⟩
  case i4 =>
    exact ⟨_, hst, by omega, by omega, rfl⟩
  case r4 =>
    clear hst
    rintro ⟨x, y⟩ w1 ⟨g3, hst, hx, hy, hG⟩
    refine cp_seq ?_
    refine cp_seq ?_
    refine cp_region ?_
    refine stepK_d rfl rfl rfl hst (does_move rfl rfl) ?_
    refine stepK_d rfl rfl rfl hst (does_neq_n (b := 0) rfl rfl rfl) ?_
    refine wpK_nil ?_
    refine cp_then ?_
    refine cp_if rfl ?_ ?_
    · intro c23
      refine cp_skip ?_
      refine cp_then ?_
      refine cp_block ?_
      refine cp_drawn (by kernel_rfl) 6 [(0, true), (1, true), (2, true), (3, true), (4, true), (5, true)] _ rfl (by kernel_rfl) (by kernel_rfl) (by kernel_rfl) (fun _ _ _ _ _ h => h) _ (hst.drew) ?_
      have hst0 := hst.drew
      clear hst
      have hst := hst0
      refine stepD_d rfl rfl rfl rfl (does_move rfl rfl) ?_
      refine stepD_d rfl rfl rfl rfl (does_move rfl rfl) ?_
      refine stepD_d rfl rfl rfl rfl (does_move rfl rfl) ?_
      refine stepD_d rfl rfl rfl rfl (does_rem_n rfl rfl rfl (by omega)) ?_
      refine stepD_d rfl rfl rfl rfl (does_assign rfl rfl) ?_
      refine stepD_d rfl rfl rfl rfl (does_assign rfl rfl) ?_
      refine stepD_tail ?_
      refine wpK_nil ?_
      refine at_block_normal ?_
      refine round_end ((y, x % y)) ?_ ?_ ?_
      · exact ⟨rfl, rfl, rfl, rfl, rfl, rfl, trivial⟩
      · exact ⟨_, hst, hy, Nat.lt_trans (Nat.mod_lt _ (by omega)) hy, gcd_step.trans hG⟩
      · show x % y < y
        exact Nat.mod_lt _ (by omega)
    · intro c23
      refine cp_exit ?_
      refine at_then_exit ?_
      refine at_then_exit ?_
      refine cp_exit_here ?_
      refine cp_then ?_
      refine cp_seq ?_
      obtain rfl : y = 0 := by omega
      rw [Nat.gcd_zero_right] at hG
      have hG0 : 0 < x := by rw [hG]; exact Nat.gcd_pos_of_pos_right _ (by omega)
      have hNl : n.natAbs / x < 18446744073709551616 := Nat.lt_of_le_of_lt (Nat.div_le_self _ _) hnn
      have hDl : d.natAbs / x < 18446744073709551616 := Nat.lt_of_le_of_lt (Nat.div_le_self _ _) hdd
      have hM2 : 0 < d.natAbs / x := by rw [hG]; exact Nat.div_pos (Nat.gcd_le_right _ (by omega)) (by omega)
      have hc2 : Nat.gcd (n.natAbs / x) (d.natAbs / x) = 1 := by rw [hG]; exact gcd_coprime (by omega)
      have hq : mkRat (sg neg (n.natAbs / x)) (d.natAbs / x) = Rat.divInt n d := by
        rw [hG, mkRat_gcd (by omega), divInt_sg hd, ← hneg]
        rfl
      refine cp_drawn (by kernel_rfl) 8 [(0, true), (1, true), (2, true), (3, true), (4, true), (5, true), (6, true), (7, true)] _ rfl (by kernel_rfl) (by kernel_rfl) (by kernel_rfl) (fun _ _ _ _ _ h => h) _ (hst.drew) ?_
      have hst0 := hst.drew
      clear hst
      have hst := hst0
      refine stepD_d rfl rfl rfl rfl (does_move rfl rfl) ?_
      refine stepD_d rfl rfl rfl rfl (does_move rfl rfl) ?_
      refine stepD_d rfl rfl rfl rfl (does_quo_u64 rfl rfl rfl (by omega) (by omega)) ?_
      refine stepD_d rfl rfl rfl rfl (does_move rfl rfl) ?_
      refine stepD_d rfl rfl rfl rfl (does_move rfl rfl) ?_
      refine stepD_d rfl rfl rfl rfl (does_quo_u64 rfl rfl rfl (by omega) (by omega)) ?_
      refine stepD_d rfl rfl rfl rfl (does_assign rfl rfl) ?_
      refine stepD_d rfl rfl rfl rfl (does_assign rfl rfl) ?_
      refine stepD_tail ?_
      refine wpK_nil ?_
      refine cp_then ?_
      refine cp_seq ?_
      refine cp_seq ?_
      generalize n.natAbs / x = N2 at *
      generalize d.natAbs / x = M2 at *
      have hz : N2 = 0 → M2 = 1 := fun e => by rw [e, Nat.gcd_zero_left] at hc2; exact hc2
      refine cp_region ?_
      refine stepK_d rfl rfl rfl hst (does_move rfl rfl) ?_
      refine stepK_d rfl rfl rfl hst (does_lss_n (b := 2147483648) rfl rfl rfl) ?_
      refine stepK_d rfl rfl rfl hst (does_move rfl rfl) ?_
      refine wpK_split (t := 36) rfl ?_ ?_
      · intro s36
        refine stepK_guard rfl rfl rfl rfl rfl rfl hst (does_move rfl rfl) ?_
        refine stepK_guard rfl rfl rfl rfl rfl rfl hst (does_lss_n (b := 2147483648) rfl rfl rfl) ?_
        refine stepK_d rfl rfl rfl hst (does_pick_true rfl rfl rfl) ?_
        refine wpK_nil ?_
        refine cp_then ?_
        refine cp_if rfl ?_ ?_
        · intro c39
          refine cp_seq ?_
          refine cp_region ?_
          refine stepK_d rfl rfl rfl hst (does_move rfl rfl) ?_
          refine stepK_d rfl rfl rfl hst (does_conv_n_i64 rfl (by kernel_rfl) (by kernel_rfl) rfl (by omega)) ?_
          refine stepK_d rfl rfl rfl hst (does_move rfl rfl) ?_
          refine stepK_d rfl rfl rfl hst (does_conv_n_i64 rfl (by kernel_rfl) (by kernel_rfl) rfl (by omega)) ?_
          refine stepK_d rfl rfl rfl hst (does_build rfl (by kernel_rfl : layOf Tryd.prog 41 = some ([(0, 1), (1, 1), (2, 1)], [.int .i64 0, .int .i64 0, .pointer none])) rfl rfl) ?_
          refine stepK_alloc rfl rfl rfl rfl (by kernel_rfl : zeroOf Tryd.prog 41 = some (.agg #[.int .i64 0, .int .i64 0, .pointer none])) rfl hst ?_
          clear hst
          intro b5 w5 hst
          refine stepK_store 1 rfl rfl rfl rfl rfl rfl (by kernel_rfl : sizeB Tryd.prog 41 = some 3) rfl rfl hst rfl (by first | (simp [uN_length]; omega) | simp) ?_
          clear hst
          intro w6 hst
          simp only [List.nil_append, List.cons_append, List.set_cons_zero, List.set_cons_succ, splice, List.toList_toArray, List.take_zero, List.take_succ_cons, List.take_nil, List.drop_zero, List.drop_succ_cons, List.drop_nil, List.length_cons, List.length_nil, Nat.zero_add, Nat.add_zero, Nat.reduceAdd, List.append_nil] at hst
          refine wpK_nil ?_
          refine cp_then ?_
          refine cp_seq ?_
          refine cp_seq ?_
          refine cp_region ?_
          refine stepK_d rfl rfl rfl hst (does_move rfl rfl) ?_
          refine wpK_nil ?_
          refine cp_then ?_
          refine cp_cond rfl ?_ ?_
          · intro c45
            refine cp_region ?_
            refine stepK_d rfl rfl rfl hst (does_fieldAddr rfl (by kernel_rfl : fieldOf Tryd.prog 41 0 = some (0, 0 + 1, false)) rfl) ?_
            refine stepK_d rfl rfl rfl hst (does_load_ownL 1 rfl (by kernel_rfl) rfl rfl rfl) ?_
            refine stepK_d rfl rfl rfl hst (Does.int (does_neg rfl rfl) (wrap_i64 (by omega) (by omega))) ?_
            refine stepK_d rfl rfl rfl hst (does_fieldAddr rfl (by kernel_rfl : fieldOf Tryd.prog 41 0 = some (0, 0 + 1, false)) rfl) ?_
            refine stepK_store 1 rfl rfl rfl rfl rfl rfl (by kernel_rfl : sizeB Tryd.prog 2 = some 1) rfl rfl hst rfl (by first | (simp [uN_length]; omega) | simp) ?_
            clear hst
            intro w7 hst
            simp only [List.nil_append, List.cons_append, List.set_cons_zero, List.set_cons_succ, splice, List.toList_toArray, List.take_zero, List.take_succ_cons, List.take_nil, List.drop_zero, List.drop_succ_cons, List.drop_nil, List.length_cons, List.length_nil, Nat.zero_add, Nat.add_zero, Nat.reduceAdd, List.append_nil] at hst
            refine wpK_nil ?_
            refine cp_then ?_
            refine cp_seq ?_
            refine cp_region ?_
            refine stepK_d rfl rfl rfl hst (does_load_ownN 1 rfl (by kernel_rfl) (by kernel_rfl : sizeB Tryd.prog 41 = some 3) rfl rfl rfl) ?_
            refine stepK_store 0 rfl rfl rfl rfl rfl rfl (by kernel_rfl : sizeB Tryd.prog 41 = some 3) rfl rfl hst rfl (by first | (simp [uN_length]; omega) | simp) ?_
            clear hst
            intro w8 hst
            simp only [List.nil_append, List.cons_append, List.set_cons_zero, List.set_cons_succ, splice, List.toList_toArray, List.take_zero, List.take_succ_cons, List.take_nil, List.drop_zero, List.drop_succ_cons, List.drop_nil, List.length_cons, List.length_nil, Nat.zero_add, Nat.add_zero, Nat.reduceAdd, List.append_nil] at hst
            refine wpK_nil ?_
            refine cp_then ?_
            refine cp_ret ?_
            refine at_then_ret ?_
            refine ret1c (k := 0) rfl rfl (by kernel_rfl) (by kernel_rfl) rfl hst rfl ?_
            have h9 := IsRat.mk_small (g := g3) (b := neg) hM2 hc2 (by omega) (by omega)
            rw [hq] at h9
            rw [c45] at h9
            exact ⟨_, _, _, rfl, h9⟩
          · intro c45
            refine cp_skip ?_
            refine cp_then ?_
            refine cp_seq ?_
            refine cp_region ?_
            refine stepK_d rfl rfl rfl hst (does_load_ownN 1 rfl (by kernel_rfl) (by kernel_rfl : sizeB Tryd.prog 41 = some 3) rfl rfl rfl) ?_
            refine stepK_store 0 rfl rfl rfl rfl rfl rfl (by kernel_rfl : sizeB Tryd.prog 41 = some 3) rfl rfl hst rfl (by first | (simp [uN_length]; omega) | simp) ?_
            clear hst
            intro w9 hst
            simp only [List.nil_append, List.cons_append, List.set_cons_zero, List.set_cons_succ, splice, List.toList_toArray, List.take_zero, List.take_succ_cons, List.take_nil, List.drop_zero, List.drop_succ_cons, List.drop_nil, List.length_cons, List.length_nil, Nat.zero_add, Nat.add_zero, Nat.reduceAdd, List.append_nil] at hst
            refine wpK_nil ?_
            refine cp_then ?_
            refine cp_ret ?_
            refine at_then_ret ?_
            refine ret1c (k := 0) rfl rfl (by kernel_rfl) (by kernel_rfl) rfl hst rfl ?_
            have h9 := IsRat.mk_small (g := g3) (b := neg) hM2 hc2 (by omega) (by omega)
            rw [hq] at h9
            rw [c45] at h9
            exact ⟨_, _, _, rfl, h9⟩
        · intro c39
          refine cp_skip ?_
          refine cp_then ?_
          refine cp_seq ?_
          refine cp_region ?_
          refine stepK_d rfl rfl rfl hst (does_move rfl rfl) ?_
          refine stepK_d rfl rfl rfl hst (does_move rfl rfl) ?_
          refine stepK_call rfl rfl rfl rfl rfl hst (num_word hst.agree hNl) ?_
          clear hst
          intro v10 g10 w10 hst hle10 hcs10 hp10
          obtain ⟨A10, n10, c10, rfl, hn10⟩ := hp10
          refine stepK_d rfl rfl rfl hst (does_move rfl rfl) ?_
          refine stepK_call rfl rfl rfl rfl rfl hst (num_word hst.agree hDl) ?_
          clear hst
          intro v11 g11 w11 hst hle11 hcs11 hp11
          replace hn10 := hn10.mono hle11
          obtain ⟨A11, n11, c11, rfl, hn11⟩ := hp11
          refine stepK_d rfl rfl rfl hst (does_build rfl (by kernel_rfl : layOf Tryd.prog 80 = some ([(0, 1), (1, 1), (2, 1)], [.bool false, .slice none 0 0, .slice none 0 0])) rfl rfl) ?_
          refine stepK_box rfl rfl rfl rfl rfl rfl hst ?_
          clear hst
          intro bx w12 hst
          refine stepK_d rfl rfl rfl hst (does_build rfl (by kernel_rfl : layOf Tryd.prog 41 = some ([(0, 1), (1, 1), (2, 1)], [.int .i64 0, .int .i64 0, .pointer none])) rfl rfl) ?_
          refine stepK_store 0 rfl rfl rfl rfl rfl rfl (by kernel_rfl : sizeB Tryd.prog 41 = some 3) rfl rfl hst rfl (by first | (simp [uN_length]; omega) | simp) ?_
          clear hst
          intro w13 hst
          simp only [List.nil_append, List.cons_append, List.set_cons_zero, List.set_cons_succ, splice, List.toList_toArray, List.take_zero, List.take_succ_cons, List.take_nil, List.drop_zero, List.drop_succ_cons, List.drop_nil, List.length_cons, List.length_nil, Nat.zero_add, Nat.add_zero, Nat.reduceAdd, List.append_nil] at hst
          refine wpK_nil ?_
          refine cp_then ?_
          refine cp_ret ?_
          have hN0 : 0 < N2 := Nat.pos_of_ne_zero fun e => by have := hz e; omega
          have hgn := hst.own_none 1 rfl
          obtain ⟨hst, hle9⟩ := hst.publish 1 rfl
          refine ret1c (k := 0) rfl rfl (by kernel_rfl) (by kernel_rfl) rfl hst rfl ?_
          rw [← hq]
          exact ⟨_, _, _, rfl, IsRat.mk_big hgn (by assumption) (by assumption) hN0 hM2 hc2 (by omega)⟩
      · intro s36
        refine stepK_pass rfl rfl rfl rfl rfl rfl rfl ?_
        refine stepK_pass rfl rfl rfl rfl rfl rfl rfl ?_
        refine stepK_d rfl rfl rfl hst (does_pick_false rfl rfl rfl) ?_
        refine wpK_nil ?_
        refine cp_then ?_
        refine cp_cond_false rfl ?_
        refine cp_skip ?_
        refine cp_then ?_
        refine cp_seq ?_
        refine cp_region ?_
        refine stepK_d rfl rfl rfl hst (does_move rfl rfl) ?_
        refine stepK_d rfl rfl rfl hst (does_move rfl rfl) ?_
        refine stepK_call rfl rfl rfl rfl rfl hst (num_word hst.agree hNl) ?_
        clear hst
        intro v14 g14 w14 hst hle14 hcs14 hp14
        obtain ⟨A14, n14, c14, rfl, hn14⟩ := hp14
        refine stepK_d rfl rfl rfl hst (does_move rfl rfl) ?_
        refine stepK_call rfl rfl rfl rfl rfl hst (num_word hst.agree hDl) ?_
        clear hst
        intro v15 g15 w15 hst hle15 hcs15 hp15
        replace hn14 := hn14.mono hle15
        obtain ⟨A15, n15, c15, rfl, hn15⟩ := hp15
        refine stepK_d rfl rfl rfl hst (does_build rfl (by kernel_rfl : layOf Tryd.prog 80 = some ([(0, 1), (1, 1), (2, 1)], [.bool false, .slice none 0 0, .slice none 0 0])) rfl rfl) ?_
        refine stepK_box rfl rfl rfl rfl rfl rfl hst ?_
        clear hst
        intro bx w16 hst
        refine stepK_d rfl rfl rfl hst (does_build rfl (by kernel_rfl : layOf Tryd.prog 41 = some ([(0, 1), (1, 1), (2, 1)], [.int .i64 0, .int .i64 0, .pointer none])) rfl rfl) ?_
        refine stepK_store 0 rfl rfl rfl rfl rfl rfl (by kernel_rfl : sizeB Tryd.prog 41 = some 3) rfl rfl hst rfl (by first | (simp [uN_length]; omega) | simp) ?_
        clear hst
        intro w17 hst
        simp only [List.nil_append, List.cons_append, List.set_cons_zero, List.set_cons_succ, splice, List.toList_toArray, List.take_zero, List.take_succ_cons, List.take_nil, List.drop_zero, List.drop_succ_cons, List.drop_nil, List.length_cons, List.length_nil, Nat.zero_add, Nat.add_zero, Nat.reduceAdd, List.append_nil] at hst
        refine wpK_nil ?_
        refine cp_then ?_
        refine cp_ret ?_
        have hN0 : 0 < N2 := Nat.pos_of_ne_zero fun e => by have := hz e; omega
        have hgn := hst.own_none 1 rfl
        obtain ⟨hst, hle9⟩ := hst.publish 1 rfl
        refine ret1c (k := 0) rfl rfl (by kernel_rfl) (by kernel_rfl) rfl hst rfl ?_
        rw [← hq]
        exact ⟨_, _, _, rfl, IsRat.mk_big hgn (by assumption) (by assumption) hN0 hM2 hc2 (by omega)⟩

end Go.Proofs.YtbamjcfdlgnicaaDoor

namespace Go.Proofs.YtbamjcfdlgnicaaDoor
open Go Go.RowKit Go.Proofs.Vc
set_option linter.unusedVariables false
set_option linter.unusedSimpArgs false

set_option maxHeartbeats 1000000 in
theorem Rat_Inv {g : Mem} {w : World} (hag : Agree g w) {p q : Int} {a : Option Addr} {r : Rat} (ha : IsRat g p q a r) :
    CallTo Tryd.prog 52 #[.agg #[.int .i64 p, .int .i64 q, .pointer a]] w (Ret w g fun v g => ∃ p q a, v = .agg #[.int .i64 p, .int .i64 q, .pointer a] ∧ IsRat g p q a (r⁻¹)) := by
  refine CallTo.enter (vs := [.agg #[.int .i64 p, .int .i64 q, .pointer a]]) (by kernel_rfl : Tryd.prog.funcs[52]? = some Tryd.f52) (by kernel_rfl) rfl rfl rfl ?_
  have hst := St.init hag
  refine cp_seq ?_
  refine cp_region ?_
  refine stepK_box rfl rfl rfl rfl rfl rfl hst ?_
  clear hst
  intro b1 w1 hst
  refine stepK_alloc rfl rfl rfl rfl (by kernel_rfl : zeroOf Tryd.prog 41 = some (.agg #[.int .i64 0, .int .i64 0, .pointer none])) rfl hst ?_
  clear hst
  intro b2 w2 hst
  refine wpK_nil ?_
  refine cp_then ?_
  refine cp_seq ?_
  refine cp_seq ?_
  refine cp_region ?_
  refine stepK_d rfl rfl rfl hst (does_load_ownN 0 rfl (by kernel_rfl) (by kernel_rfl : sizeB Tryd.prog 41 = some 3) rfl rfl rfl) ?_
  refine stepK_call rfl rfl rfl rfl rfl hst (Rat_Zero hst.agree ha) ?_
  clear hst
  intro v3 g3 w3 hst hle3 hcs3 hp3
  replace ha := ha.mono hle3
  obtain rfl := hp3
  refine wpK_nil ?_
  refine cp_then ?_
  refine cp_if rfl ?_ ?_
  · intro c7
    refine cp_seq ?_
    refine cp_region ?_
    refine stepK_d rfl rfl rfl hst (does_build rfl (by kernel_rfl : layOf Tryd.prog 41 = some ([(0, 1), (1, 1), (2, 1)], [.int .i64 0, .int .i64 0, .pointer none])) rfl rfl) ?_
    refine stepK_store 1 rfl rfl rfl rfl rfl rfl (by kernel_rfl : sizeB Tryd.prog 41 = some 3) rfl rfl hst rfl (by first | (simp [uN_length]; omega) | simp) ?_
    clear hst
    intro w4 hst
    simp only [List.nil_append, List.cons_append, List.set_cons_zero, List.set_cons_succ, splice, List.toList_toArray, List.take_zero, List.take_succ_cons, List.take_nil, List.drop_zero, List.drop_succ_cons, List.drop_nil, List.length_cons, List.length_nil, Nat.zero_add, Nat.add_zero, Nat.reduceAdd, List.append_nil] at hst
    refine wpK_nil ?_
    refine cp_then ?_
    refine cp_ret ?_
    refine at_then_ret ?_
    refine ret1c (k := 1) rfl rfl (by kernel_rfl) (by kernel_rfl) rfl hst rfl ?_
    subst c7
    rw [Rat.inv_zero]
    exact ⟨_, _, _, rfl, IsRat.zero _⟩
  · intro c7
    have hn0 : r.num ≠ 0 := fun e => c7 (rat_zero_iff.1 e)
    refine cp_skip ?_
    refine cp_then ?_
    refine cp_seq ?_
    refine cp_region ?_
    refine stepK_d rfl rfl rfl hst (does_load_ownN 0 rfl (by kernel_rfl) (by kernel_rfl : sizeB Tryd.prog 41 = some 3) rfl rfl rfl) ?_
    refine stepK_call rfl rfl rfl rfl rfl hst (Rat_parts hst.agree ha) ?_
    clear hst
    intro v5 g5 w5 hst hle5 hcs5 hp5
    replace ha := ha.mono hle5
    obtain ⟨A1, n1, c1, B1, m1, d1, rfl, hN1, hD1⟩ := hp5
    refine stepK_d rfl rfl rfl hst (does_move rfl rfl) ?_
    refine stepK_d rfl rfl rfl hst (does_extract rfl rfl rfl) ?_
    refine stepK_d rfl rfl rfl hst (does_extract rfl rfl rfl) ?_
    refine stepK_d rfl rfl rfl hst (does_extract rfl rfl rfl) ?_
    refine stepK_d rfl rfl rfl hst (does_assign rfl rfl) ?_
    refine stepK_d rfl rfl rfl hst (does_assign rfl rfl) ?_
    refine stepK_d rfl rfl rfl hst (does_assign rfl rfl) ?_
    refine wpK_nil ?_
    refine cp_then ?_
    refine cp_seq ?_
    refine cp_region ?_
    refine stepK_d rfl rfl rfl hst (does_move rfl rfl) ?_
    refine stepK_d rfl rfl rfl hst (does_move rfl rfl) ?_
    refine stepK_d rfl rfl rfl hst (does_move rfl rfl) ?_
    refine stepK_call rfl rfl rfl rfl rfl hst (num_lowest hst.agree hD1 hN1 (by omega) (by rw [Nat.gcd_comm]; exact r.reduced)) ?_
    clear hst
    intro v6 g6 w6 hst hle6 hcs6 hp6
    replace ha := ha.mono hle6
    replace hN1 := hN1.mono hle6
    replace hD1 := hD1.mono hle6
    obtain ⟨p9, q9, a9, rfl, hr9⟩ := hp6
    refine stepK_store 1 rfl rfl rfl rfl rfl rfl (by kernel_rfl : sizeB Tryd.prog 41 = some 3) rfl rfl hst rfl (by first | (simp [uN_length]; omega) | simp) ?_
    clear hst
    intro w7 hst
    simp only [List.nil_append, List.cons_append, List.set_cons_zero, List.set_cons_succ, splice, List.toList_toArray, List.take_zero, List.take_succ_cons, List.take_nil, List.drop_zero, List.drop_succ_cons, List.drop_nil, List.length_cons, List.length_nil, Nat.zero_add, Nat.add_zero, Nat.reduceAdd, List.append_nil] at hst
    refine wpK_nil ?_
    refine cp_then ?_
    refine cp_ret ?_
    refine ret1c (k := 1) rfl rfl (by kernel_rfl) (by kernel_rfl) rfl hst rfl ?_
    rw [rat_inv] at hr9
    exact ⟨_, _, _, rfl, hr9⟩

set_option maxHeartbeats 1000000 in
theorem Rat_Add {g : Mem} {w : World} (hag : Agree g w) {p q : Int} {a : Option Addr} {r : Rat} (ha : IsRat g p q a r) {s t : Int} {b : Option Addr} {x : Rat} (hb : IsRat g s t b x) (hfa : Fit r) (hfb : Fit x) :
    CallTo Tryd.prog 23 #[.agg #[.int .i64 p, .int .i64 q, .pointer a], .agg #[.int .i64 s, .int .i64 t, .pointer b]] w (Ret w g fun v g => ∃ p q a, v = .agg #[.int .i64 p, .int .i64 q, .pointer a] ∧ IsRat g p q a (r + x)) := by
  refine CallTo.enter (vs := [.agg #[.int .i64 p, .int .i64 q, .pointer a], .agg #[.int .i64 s, .int .i64 t, .pointer b]]) (by kernel_rfl : Tryd.prog.funcs[23]? = some Tryd.f23) (by kernel_rfl) rfl rfl rfl ?_
  have hst := St.init hag
  refine cp_seq ?_
  refine cp_region ?_
  refine stepK_box rfl rfl rfl rfl rfl rfl hst ?_
  clear hst
  intro b1 w1 hst
  refine stepK_box rfl rfl rfl rfl rfl rfl hst ?_
  clear hst
  intro b2 w2 hst
  refine stepK_alloc rfl rfl rfl rfl (by kernel_rfl : zeroOf Tryd.prog 41 = some (.agg #[.int .i64 0, .int .i64 0, .pointer none])) rfl hst ?_
  clear hst
  intro b3 w3 hst
  refine wpK_nil ?_
  refine cp_then ?_
  refine cp_seq ?_
  refine cp_seq ?_
  refine cp_region ?_
  refine stepK_d rfl rfl rfl hst (does_fieldAddr rfl (by kernel_rfl : fieldOf Tryd.prog 41 2 = some (2, 0 + 1, false)) rfl) ?_
  refine stepK_d rfl rfl rfl hst (does_load_ownL 0 rfl (by kernel_rfl) rfl rfl rfl) ?_
  refine stepK_d rfl rfl rfl hst (does_eql_nilD rfl (by kernel_rfl : Program.underlying Tryd.prog 39 = some (.pointer 80)) rfl rfl) ?_
  refine stepK_d rfl rfl rfl hst (does_move rfl rfl) ?_
  refine wpK_split (t := 21) rfl ?_ ?_
  · intro s21
    refine stepK_guard rfl rfl rfl rfl rfl rfl hst (does_fieldAddr rfl (by kernel_rfl : fieldOf Tryd.prog 41 2 = some (2, 0 + 1, false)) rfl) ?_
    refine stepK_guard rfl rfl rfl rfl rfl rfl hst (does_load_ownL 1 rfl (by kernel_rfl) rfl rfl rfl) ?_
    refine stepK_guard rfl rfl rfl rfl rfl rfl hst (does_eql_nilD rfl (by kernel_rfl : Program.underlying Tryd.prog 39 = some (.pointer 80)) rfl rfl) ?_
    refine stepK_d rfl rfl rfl hst (does_pick_true rfl rfl rfl) ?_
    refine wpK_nil ?_
    refine cp_then ?_
    refine cp_if rfl ?_ ?_
    · intro c25
      refine cp_seq ?_
      obtain rfl : a = none := by assumption
      obtain rfl : b = none := by assumption
      have hla := ha.low
      have hlb := hb.low
      have b1 := hla.1.bound
      have b2 := hlb.1.bound
      have hdr := r.den_nz
      have hdx := x.den_nz
      have hd0 : (r.den : Int) * (x.den : Int) ≠ 0 := Int.mul_ne_zero (by omega) (by omega)
      have m1 := mulb (a := r.num) (b := (x.den : Int)) (by omega) (by omega) (by omega) (by omega)
      have m2 := mulb (a := x.num) (b := (r.den : Int)) (by omega) (by omega) (by omega) (by omega)
      have m3 := mulb (a := (r.den : Int)) (b := (x.den : Int)) (by omega) (by omega) (by omega) (by omega)
      have m4 := mulb (a := r.num) (b := x.num) (by omega) (by omega) (by omega) (by omega)
      refine cp_region ?_
      refine stepK_d rfl rfl rfl hst (does_load_ownN 0 rfl (by kernel_rfl) (by kernel_rfl : sizeB Tryd.prog 41 = some 3) rfl rfl rfl) ?_
      refine stepK_call rfl rfl rfl rfl rfl hst (Rat_low hst.agree hla) ?_
      clear hst
      intro v4 g4 w4 hst hle4 hcs4 hp4
      replace ha := ha.mono hle4
      replace hb := hb.mono hle4
      obtain rfl := hp4
      refine stepK_d rfl rfl rfl hst (does_move rfl rfl) ?_
      refine stepK_d rfl rfl rfl hst (does_extract rfl rfl rfl) ?_
      refine stepK_d rfl rfl rfl hst (does_extract rfl rfl rfl) ?_
      refine stepK_d rfl rfl rfl hst (does_assign rfl rfl) ?_
      refine stepK_d rfl rfl rfl hst (does_assign rfl rfl) ?_
      refine wpK_nil ?_
      refine cp_then ?_
      refine cp_seq ?_
      refine cp_region ?_
      refine stepK_d rfl rfl rfl hst (does_load_ownN 1 rfl (by kernel_rfl) (by kernel_rfl : sizeB Tryd.prog 41 = some 3) rfl rfl rfl) ?_
      refine stepK_call rfl rfl rfl rfl rfl hst (Rat_low hst.agree hlb) ?_
      clear hst
      intro v5 g5 w5 hst hle5 hcs5 hp5
      replace ha := ha.mono hle5
      replace hb := hb.mono hle5
      obtain rfl := hp5
      refine stepK_d rfl rfl rfl hst (does_move rfl rfl) ?_
      refine stepK_d rfl rfl rfl hst (does_extract rfl rfl rfl) ?_
      refine stepK_d rfl rfl rfl hst (does_extract rfl rfl rfl) ?_
      refine stepK_d rfl rfl rfl hst (does_assign rfl rfl) ?_
      refine stepK_d rfl rfl rfl hst (does_assign rfl rfl) ?_
      refine wpK_nil ?_
      refine cp_then ?_
      refine cp_seq ?_
      refine cp_region ?_
      refine stepK_d rfl rfl rfl hst (does_move rfl rfl) ?_
      refine stepK_d rfl rfl rfl hst (does_move rfl rfl) ?_
      refine stepK_d rfl rfl rfl hst (Does.int (does_mul rfl rfl rfl) (wrap_i64 (by omega) (by omega))) ?_
      refine stepK_d rfl rfl rfl hst (does_move rfl rfl) ?_
      refine stepK_d rfl rfl rfl hst (does_move rfl rfl) ?_
      refine stepK_d rfl rfl rfl hst (Does.int (does_mul rfl rfl rfl) (wrap_i64 (by omega) (by omega))) ?_
      refine stepK_d rfl rfl rfl hst (Does.int (does_add rfl rfl rfl) (wrap_i64 (by omega) (by omega))) ?_
      refine stepK_d rfl rfl rfl hst (does_move rfl rfl) ?_
      refine stepK_d rfl rfl rfl hst (does_move rfl rfl) ?_
      refine stepK_d rfl rfl rfl hst (Does.int (does_mul rfl rfl rfl) (wrap_i64 (by omega) (by omega))) ?_
      refine stepK_call rfl rfl rfl rfl rfl hst (num_quotient hst.agree (by omega) (by omega) (by omega) (by omega) hd0) ?_
      clear hst
      intro v6 g6 w6 hst hle6 hcs6 hp6
      replace ha := ha.mono hle6
      replace hb := hb.mono hle6
      obtain ⟨p9, q9, a9, rfl, hr9⟩ := hp6
      refine stepK_store 2 rfl rfl rfl rfl rfl rfl (by kernel_rfl : sizeB Tryd.prog 41 = some 3) rfl rfl hst rfl (by first | (simp [uN_length]; omega) | simp) ?_
      clear hst
      intro w7 hst
      simp only [List.nil_append, List.cons_append, List.set_cons_zero, List.set_cons_succ, splice, List.toList_toArray, List.take_zero, List.take_succ_cons, List.take_nil, List.drop_zero, List.drop_succ_cons, List.drop_nil, List.length_cons, List.length_nil, Nat.zero_add, Nat.add_zero, Nat.reduceAdd, List.append_nil] at hst
      refine wpK_nil ?_
      refine cp_then ?_
      refine cp_ret ?_
      refine at_then_ret ?_
      refine ret1c (k := 2) rfl rfl (by kernel_rfl) (by kernel_rfl) rfl hst rfl ?_
      rw [divInt_nat, rat_add] at hr9
      exact ⟨_, _, _, rfl, hr9⟩
    · intro c25
      refine cp_skip ?_
      refine cp_then ?_
      refine cp_seq ?_
      refine cp_region ?_
      refine stepK_d rfl rfl rfl hst (does_load_ownN 0 rfl (by kernel_rfl) (by kernel_rfl : sizeB Tryd.prog 41 = some 3) rfl rfl rfl) ?_
      refine stepK_call rfl rfl rfl rfl rfl hst (Rat_parts hst.agree ha) ?_
      clear hst
      intro v8 g8 w8 hst hle8 hcs8 hp8
      replace ha := ha.mono hle8
      replace hb := hb.mono hle8
      obtain ⟨A1, n1, c1, B1, m1, d1, rfl, hN1, hD1⟩ := hp8
      refine stepK_d rfl rfl rfl hst (does_move rfl rfl) ?_
      refine stepK_d rfl rfl rfl hst (does_extract rfl rfl rfl) ?_
      refine stepK_d rfl rfl rfl hst (does_extract rfl rfl rfl) ?_
      refine stepK_d rfl rfl rfl hst (does_extract rfl rfl rfl) ?_
      refine stepK_d rfl rfl rfl hst (does_assign rfl rfl) ?_
      refine stepK_d rfl rfl rfl hst (does_assign rfl rfl) ?_
      refine stepK_d rfl rfl rfl hst (does_assign rfl rfl) ?_
      refine wpK_nil ?_
      refine cp_then ?_
      refine cp_seq ?_
      refine cp_region ?_
      refine stepK_d rfl rfl rfl hst (does_load_ownN 1 rfl (by kernel_rfl) (by kernel_rfl : sizeB Tryd.prog 41 = some 3) rfl rfl rfl) ?_
      refine stepK_call rfl rfl rfl rfl rfl hst (Rat_parts hst.agree hb) ?_
      clear hst
      intro v9 g9 w9 hst hle9 hcs9 hp9
      replace ha := ha.mono hle9
      replace hb := hb.mono hle9
      replace hN1 := hN1.mono hle9
      replace hD1 := hD1.mono hle9
      obtain ⟨A2, n2, c2, B2, m2, d2, rfl, hN2, hD2⟩ := hp9
      refine stepK_d rfl rfl rfl hst (does_move rfl rfl) ?_
      refine stepK_d rfl rfl rfl hst (does_extract rfl rfl rfl) ?_
      refine stepK_d rfl rfl rfl hst (does_extract rfl rfl rfl) ?_
      refine stepK_d rfl rfl rfl hst (does_extract rfl rfl rfl) ?_
      refine stepK_d rfl rfl rfl hst (does_assign rfl rfl) ?_
      refine stepK_d rfl rfl rfl hst (does_assign rfl rfl) ?_
      refine stepK_d rfl rfl rfl hst (does_assign rfl rfl) ?_
      refine wpK_nil ?_
      refine cp_then ?_
      refine cp_seq ?_
      have l1 := hN1.len hfa.1
      have l2 := hD1.len hfa.2
      have l3 := hN2.len hfb.1
      have l4 := hD2.len hfb.2
      refine cp_region ?_
      refine stepK_d rfl rfl rfl hst (does_move rfl rfl) ?_
      refine stepK_d rfl rfl rfl hst (does_move rfl rfl) ?_
      refine stepK_call rfl rfl rfl rfl rfl hst (num_product hst.agree hN1 hD2 (by omega) (by omega)) ?_
      clear hst
      intro v10 g10 w10 hst hle10 hcs10 hp10
      replace ha := ha.mono hle10
      replace hb := hb.mono hle10
      replace hN1 := hN1.mono hle10
      replace hD1 := hD1.mono hle10
      replace hN2 := hN2.mono hle10
      replace hD2 := hD2.mono hle10
      obtain ⟨A3, n3, c3, rfl, hU⟩ := hp10
      refine stepK_d rfl rfl rfl hst (does_move rfl rfl) ?_
      refine stepK_d rfl rfl rfl hst (does_move rfl rfl) ?_
      refine stepK_call rfl rfl rfl rfl rfl hst (num_product hst.agree hN2 hD1 (by omega) (by omega)) ?_
      clear hst
      intro v11 g11 w11 hst hle11 hcs11 hp11
      replace ha := ha.mono hle11
      replace hb := hb.mono hle11
      replace hN1 := hN1.mono hle11
      replace hD1 := hD1.mono hle11
      replace hN2 := hN2.mono hle11
      replace hD2 := hD2.mono hle11
      replace hU := hU.mono hle11
      obtain ⟨A4, n4, c4, rfl, hV⟩ := hp11
      refine stepK_d rfl rfl rfl hst (does_assign rfl rfl) ?_
      refine stepK_d rfl rfl rfl hst (does_assign rfl rfl) ?_
      refine wpK_nil ?_
      refine cp_then ?_
      refine cp_seq ?_
      refine cp_region ?_
      refine stepK_d rfl rfl rfl hst (does_move rfl rfl) ?_
      refine stepK_d rfl rfl rfl hst (does_move rfl rfl) ?_
      refine stepK_call rfl rfl rfl rfl rfl hst (num_product hst.agree hD1 hD2 (by omega) (by omega)) ?_
      clear hst
      intro v12 g12 w12 hst hle12 hcs12 hp12
      replace ha := ha.mono hle12
      replace hb := hb.mono hle12
      replace hN1 := hN1.mono hle12
      replace hD1 := hD1.mono hle12
      replace hN2 := hN2.mono hle12
      replace hD2 := hD2.mono hle12
      replace hU := hU.mono hle12
      replace hV := hV.mono hle12
      obtain ⟨A5, n5, c5, rfl, hW⟩ := hp12
      refine stepK_d rfl rfl rfl hst (does_assign rfl rfl) ?_
      refine wpK_nil ?_
      refine cp_then ?_
      refine cp_seq ?_
      refine cp_seq ?_
      have k1 := lenMul hU hfa.1 hfb.2
      have k2 := lenMul hV hfb.1 hfa.2
      have k3 := lenMul hW hfa.2 hfb.2
      have hWp : 0 < r.den * x.den := Nat.mul_pos (Nat.pos_of_ne_zero r.den_nz) (Nat.pos_of_ne_zero x.den_nz)
      refine cp_region ?_
      refine stepK_d rfl rfl rfl hst (does_move rfl rfl) ?_
      refine stepK_d rfl rfl rfl hst (does_move rfl rfl) ?_
      refine stepK_d rfl rfl rfl hst (does_eql_bool rfl (by kernel_rfl) rfl rfl) ?_
      refine wpK_nil ?_
      refine cp_then ?_
      refine cp_cond rfl ?_ ?_
      · intro c70
        have hs := eq_of_beq c70
        refine cp_seq ?_
        refine cp_region ?_
        refine stepK_d rfl rfl rfl hst (does_move rfl rfl) ?_
        refine stepK_d rfl rfl rfl hst (does_move rfl rfl) ?_
        refine stepK_d rfl rfl rfl hst (does_move rfl rfl) ?_
        refine stepK_call rfl rfl rfl rfl rfl hst (num_sum hst.agree hU hV (by omega) (by omega)) ?_
        clear hst
        intro v13 g13 w13 hst hle13 hcs13 hp13
        replace ha := ha.mono hle13
        replace hb := hb.mono hle13
        replace hN1 := hN1.mono hle13
        replace hD1 := hD1.mono hle13
        replace hN2 := hN2.mono hle13
        replace hD2 := hD2.mono hle13
        replace hU := hU.mono hle13
        replace hV := hV.mono hle13
        replace hW := hW.mono hle13
        obtain ⟨A6, n6, c6, rfl, hS⟩ := hp13
        have k4 := lenAddK hS hfa.1 hfb.2 hfb.1 hfa.2
        refine stepK_d rfl rfl rfl hst (does_move rfl rfl) ?_
        refine stepK_call rfl rfl rfl rfl rfl hst (num_reduce hst.agree hS hW hWp (by omega) (by omega)) ?_
        clear hst
        intro v14 g14 w14 hst hle14 hcs14 hp14
        replace ha := ha.mono hle14
        replace hb := hb.mono hle14
        replace hN1 := hN1.mono hle14
        replace hD1 := hD1.mono hle14
        replace hN2 := hN2.mono hle14
        replace hD2 := hD2.mono hle14
        replace hU := hU.mono hle14
        replace hV := hV.mono hle14
        replace hW := hW.mono hle14
        replace hS := hS.mono hle14
        obtain ⟨p9, q9, a9, rfl, hr9⟩ := hp14
        refine stepK_store 2 rfl rfl rfl rfl rfl rfl (by kernel_rfl : sizeB Tryd.prog 41 = some 3) rfl rfl hst rfl (by first | (simp [uN_length]; omega) | simp) ?_
        clear hst
        intro w15 hst
        simp only [List.nil_append, List.cons_append, List.set_cons_zero, List.set_cons_succ, splice, List.toList_toArray, List.take_zero, List.take_succ_cons, List.take_nil, List.drop_zero, List.drop_succ_cons, List.drop_nil, List.length_cons, List.length_nil, Nat.zero_add, Nat.add_zero, Nat.reduceAdd, List.append_nil] at hst
        refine wpK_nil ?_
        refine cp_then ?_
        refine cp_ret ?_
        refine at_then_ret ?_
        refine ret1c (k := 2) rfl rfl (by kernel_rfl) (by kernel_rfl) rfl hst rfl ?_
        rw [sg_add, sg_abs, hs, sg_abs, rat_add] at hr9
        exact ⟨_, _, _, rfl, hr9⟩
      · intro c70
        have hne := ne_of_beq_false c70
        refine cp_skip ?_
        refine cp_then ?_
        refine cp_seq ?_
        refine cp_seq ?_
        refine cp_region ?_
        refine stepK_d rfl rfl rfl hst (does_move rfl rfl) ?_
        refine stepK_d rfl rfl rfl hst (does_move rfl rfl) ?_
        refine stepK_call rfl rfl rfl rfl rfl hst (num_compare hst.agree hU hV (by omega)) ?_
        clear hst
        intro v16 g16 w16 hst hle16 hcs16 hp16
        replace ha := ha.mono hle16
        replace hb := hb.mono hle16
        replace hN1 := hN1.mono hle16
        replace hD1 := hD1.mono hle16
        replace hN2 := hN2.mono hle16
        replace hD2 := hD2.mono hle16
        replace hU := hU.mono hle16
        replace hV := hV.mono hle16
        replace hW := hW.mono hle16
        obtain rfl := hp16
        refine stepK_d rfl rfl rfl hst (does_geq rfl rfl rfl) ?_
        refine wpK_nil ?_
        refine cp_then ?_
        refine cp_if rfl ?_ ?_
        · intro c80
          have hle := cmpN_nonneg.1 c80
          refine cp_seq ?_
          refine cp_region ?_
          refine stepK_d rfl rfl rfl hst (does_move rfl rfl) ?_
          refine stepK_d rfl rfl rfl hst (does_move rfl rfl) ?_
          refine stepK_d rfl rfl rfl hst (does_move rfl rfl) ?_
          refine stepK_call rfl rfl rfl rfl rfl hst (num_less hst.agree hU hV (by omega) hle) ?_
          clear hst
          intro v17 g17 w17 hst hle17 hcs17 hp17
          replace ha := ha.mono hle17
          replace hb := hb.mono hle17
          replace hN1 := hN1.mono hle17
          replace hD1 := hD1.mono hle17
          replace hN2 := hN2.mono hle17
          replace hD2 := hD2.mono hle17
          replace hU := hU.mono hle17
          replace hV := hV.mono hle17
          replace hW := hW.mono hle17
          obtain ⟨A6, n6, c6, rfl, hS⟩ := hp17
          have k4 := lenSubK hS hfa.1 hfb.2
          refine stepK_d rfl rfl rfl hst (does_move rfl rfl) ?_
          refine stepK_call rfl rfl rfl rfl rfl hst (num_reduce hst.agree hS hW hWp (by omega) (by omega)) ?_
          clear hst
          intro v18 g18 w18 hst hle18 hcs18 hp18
          replace ha := ha.mono hle18
          replace hb := hb.mono hle18
          replace hN1 := hN1.mono hle18
          replace hD1 := hD1.mono hle18
          replace hN2 := hN2.mono hle18
          replace hD2 := hD2.mono hle18
          replace hU := hU.mono hle18
          replace hV := hV.mono hle18
          replace hW := hW.mono hle18
          replace hS := hS.mono hle18
          obtain ⟨p9, q9, a9, rfl, hr9⟩ := hp18
          refine stepK_store 2 rfl rfl rfl rfl rfl rfl (by kernel_rfl : sizeB Tryd.prog 41 = some 3) rfl rfl hst rfl (by first | (simp [uN_length]; omega) | simp) ?_
          clear hst
          intro w19 hst
          simp only [List.nil_append, List.cons_append, List.set_cons_zero, List.set_cons_succ, splice, List.toList_toArray, List.take_zero, List.take_succ_cons, List.take_nil, List.drop_zero, List.drop_succ_cons, List.drop_nil, List.length_cons, List.length_nil, Nat.zero_add, Nat.add_zero, Nat.reduceAdd, List.append_nil] at hst
          refine wpK_nil ?_
          refine cp_then ?_
          refine cp_ret ?_
          refine at_then_ret ?_
          refine ret1c (k := 2) rfl rfl (by kernel_rfl) (by kernel_rfl) rfl hst rfl ?_
          rw [sg_sub hle hne, sg_abs, sg_abs, rat_add] at hr9
          exact ⟨_, _, _, rfl, hr9⟩
        · intro c80
          have hle : r.num.natAbs * x.den ≤ x.num.natAbs * r.den := Nat.le_of_lt (Nat.lt_of_not_le fun h => c80 (cmpN_nonneg.2 h))
          refine cp_skip ?_
          refine cp_then ?_
          refine cp_seq ?_
          refine cp_region ?_
          refine stepK_d rfl rfl rfl hst (does_move rfl rfl) ?_
          refine stepK_d rfl rfl rfl hst (does_move rfl rfl) ?_
          refine stepK_d rfl rfl rfl hst (does_move rfl rfl) ?_
          refine stepK_call rfl rfl rfl rfl rfl hst (num_less hst.agree hV hU (by omega) hle) ?_
          clear hst
          intro v20 g20 w20 hst hle20 hcs20 hp20
          replace ha := ha.mono hle20
          replace hb := hb.mono hle20
          replace hN1 := hN1.mono hle20
          replace hD1 := hD1.mono hle20
          replace hN2 := hN2.mono hle20
          replace hD2 := hD2.mono hle20
          replace hU := hU.mono hle20
          replace hV := hV.mono hle20
          replace hW := hW.mono hle20
          obtain ⟨A6, n6, c6, rfl, hS⟩ := hp20
          have k4 := lenSubK hS hfb.1 hfa.2
          refine stepK_d rfl rfl rfl hst (does_move rfl rfl) ?_
          refine stepK_call rfl rfl rfl rfl rfl hst (num_reduce hst.agree hS hW hWp (by omega) (by omega)) ?_
          clear hst
          intro v21 g21 w21 hst hle21 hcs21 hp21
          replace ha := ha.mono hle21
          replace hb := hb.mono hle21
          replace hN1 := hN1.mono hle21
          replace hD1 := hD1.mono hle21
          replace hN2 := hN2.mono hle21
          replace hD2 := hD2.mono hle21
          replace hU := hU.mono hle21
          replace hV := hV.mono hle21
          replace hW := hW.mono hle21
          replace hS := hS.mono hle21
          obtain ⟨p9, q9, a9, rfl, hr9⟩ := hp21
          refine stepK_store 2 rfl rfl rfl rfl rfl rfl (by kernel_rfl : sizeB Tryd.prog 41 = some 3) rfl rfl hst rfl (by first | (simp [uN_length]; omega) | simp) ?_
          clear hst
          intro w22 hst
          simp only [List.nil_append, List.cons_append, List.set_cons_zero, List.set_cons_succ, splice, List.toList_toArray, List.take_zero, List.take_succ_cons, List.take_nil, List.drop_zero, List.drop_succ_cons, List.drop_nil, List.length_cons, List.length_nil, Nat.zero_add, Nat.add_zero, Nat.reduceAdd, List.append_nil] at hst
          refine wpK_nil ?_
          refine cp_then ?_
          refine cp_ret ?_
          refine ret1c (k := 2) rfl rfl (by kernel_rfl) (by kernel_rfl) rfl hst rfl ?_
          rw [sg_sub hle (Ne.symm hne), sg_abs, sg_abs, Int.add_comm, rat_add] at hr9
          exact ⟨_, _, _, rfl, hr9⟩
  · intro s21
    refine stepK_pass rfl rfl rfl rfl rfl rfl rfl ?_
    refine stepK_pass rfl rfl rfl rfl rfl rfl rfl ?_
    refine stepK_pass rfl rfl rfl rfl rfl rfl rfl ?_
    refine stepK_d rfl rfl rfl hst (does_pick_false rfl rfl rfl) ?_
    refine wpK_nil ?_
    refine cp_then ?_
    refine cp_cond_false rfl ?_
    refine cp_skip ?_
    refine cp_then ?_
    refine cp_seq ?_
    refine cp_region ?_
    refine stepK_d rfl rfl rfl hst (does_load_ownN 0 rfl (by kernel_rfl) (by kernel_rfl : sizeB Tryd.prog 41 = some 3) rfl rfl rfl) ?_
    refine stepK_call rfl rfl rfl rfl rfl hst (Rat_parts hst.agree ha) ?_
    clear hst
    intro v23 g23 w23 hst hle23 hcs23 hp23
    replace ha := ha.mono hle23
    replace hb := hb.mono hle23
    obtain ⟨A1, n1, c1, B1, m1, d1, rfl, hN1, hD1⟩ := hp23
    refine stepK_d rfl rfl rfl hst (does_move rfl rfl) ?_
    refine stepK_d rfl rfl rfl hst (does_extract rfl rfl rfl) ?_
    refine stepK_d rfl rfl rfl hst (does_extract rfl rfl rfl) ?_
    refine stepK_d rfl rfl rfl hst (does_extract rfl rfl rfl) ?_
    refine stepK_d rfl rfl rfl hst (does_assign rfl rfl) ?_
    refine stepK_d rfl rfl rfl hst (does_assign rfl rfl) ?_
    refine stepK_d rfl rfl rfl hst (does_assign rfl rfl) ?_
    refine wpK_nil ?_
    refine cp_then ?_
    refine cp_seq ?_
    refine cp_region ?_
    refine stepK_d rfl rfl rfl hst (does_load_ownN 1 rfl (by kernel_rfl) (by kernel_rfl : sizeB Tryd.prog 41 = some 3) rfl rfl rfl) ?_
    refine stepK_call rfl rfl rfl rfl rfl hst (Rat_parts hst.agree hb) ?_
    clear hst
    intro v24 g24 w24 hst hle24 hcs24 hp24
    replace ha := ha.mono hle24
    replace hb := hb.mono hle24
    replace hN1 := hN1.mono hle24
    replace hD1 := hD1.mono hle24
    obtain ⟨A2, n2, c2, B2, m2, d2, rfl, hN2, hD2⟩ := hp24
    refine stepK_d rfl rfl rfl hst (does_move rfl rfl) ?_
    refine stepK_d rfl rfl rfl hst (does_extract rfl rfl rfl) ?_
    refine stepK_d rfl rfl rfl hst (does_extract rfl rfl rfl) ?_
    refine stepK_d rfl rfl rfl hst (does_extract rfl rfl rfl) ?_
    refine stepK_d rfl rfl rfl hst (does_assign rfl rfl) ?_
    refine stepK_d rfl rfl rfl hst (does_assign rfl rfl) ?_
    refine stepK_d rfl rfl rfl hst (does_assign rfl rfl) ?_
    refine wpK_nil ?_
    refine cp_then ?_
    refine cp_seq ?_
    have l1 := hN1.len hfa.1
    have l2 := hD1.len hfa.2
    have l3 := hN2.len hfb.1
    have l4 := hD2.len hfb.2
    refine cp_region ?_
    refine stepK_d rfl rfl rfl hst (does_move rfl rfl) ?_
    refine stepK_d rfl rfl rfl hst (does_move rfl rfl) ?_
    refine stepK_call rfl rfl rfl rfl rfl hst (num_product hst.agree hN1 hD2 (by omega) (by omega)) ?_
    clear hst
    intro v25 g25 w25 hst hle25 hcs25 hp25
    replace ha := ha.mono hle25
    replace hb := hb.mono hle25
    replace hN1 := hN1.mono hle25
    replace hD1 := hD1.mono hle25
    replace hN2 := hN2.mono hle25
    replace hD2 := hD2.mono hle25
    obtain ⟨A3, n3, c3, rfl, hU⟩ := hp25
    refine stepK_d rfl rfl rfl hst (does_move rfl rfl) ?_
    refine stepK_d rfl rfl rfl hst (does_move rfl rfl) ?_
    refine stepK_call rfl rfl rfl rfl rfl hst (num_product hst.agree hN2 hD1 (by omega) (by omega)) ?_
    clear hst
    intro v26 g26 w26 hst hle26 hcs26 hp26
    replace ha := ha.mono hle26
    replace hb := hb.mono hle26
    replace hN1 := hN1.mono hle26
    replace hD1 := hD1.mono hle26
    replace hN2 := hN2.mono hle26
    replace hD2 := hD2.mono hle26
    replace hU := hU.mono hle26
    obtain ⟨A4, n4, c4, rfl, hV⟩ := hp26
    refine stepK_d rfl rfl rfl hst (does_assign rfl rfl) ?_
    refine stepK_d rfl rfl rfl hst (does_assign rfl rfl) ?_
    refine wpK_nil ?_
    refine cp_then ?_
    refine cp_seq ?_
    refine cp_region ?_
    refine stepK_d rfl rfl rfl hst (does_move rfl rfl) ?_
    refine stepK_d rfl rfl rfl hst (does_move rfl rfl) ?_
    refine stepK_call rfl rfl rfl rfl rfl hst (num_product hst.agree hD1 hD2 (by omega) (by omega)) ?_
    clear hst
    intro v27 g27 w27 hst hle27 hcs27 hp27
    replace ha := ha.mono hle27
    replace hb := hb.mono hle27
    replace hN1 := hN1.mono hle27
    replace hD1 := hD1.mono hle27
    replace hN2 := hN2.mono hle27
    replace hD2 := hD2.mono hle27
    replace hU := hU.mono hle27
    replace hV := hV.mono hle27
    obtain ⟨A5, n5, c5, rfl, hW⟩ := hp27
    refine stepK_d rfl rfl rfl hst (does_assign rfl rfl) ?_
    refine wpK_nil ?_
    refine cp_then ?_
    refine cp_seq ?_
    refine cp_seq ?_
    have k1 := lenMul hU hfa.1 hfb.2
    have k2 := lenMul hV hfb.1 hfa.2
    have k3 := lenMul hW hfa.2 hfb.2
    have hWp : 0 < r.den * x.den := Nat.mul_pos (Nat.pos_of_ne_zero r.den_nz) (Nat.pos_of_ne_zero x.den_nz)
    refine cp_region ?_
    refine stepK_d rfl rfl rfl hst (does_move rfl rfl) ?_
    refine stepK_d rfl rfl rfl hst (does_move rfl rfl) ?_
    refine stepK_d rfl rfl rfl hst (does_eql_bool rfl (by kernel_rfl) rfl rfl) ?_
    refine wpK_nil ?_
    refine cp_then ?_
    refine cp_cond rfl ?_ ?_
    · intro c70
      have hs := eq_of_beq c70
      refine cp_seq ?_
      refine cp_region ?_
      refine stepK_d rfl rfl rfl hst (does_move rfl rfl) ?_
      refine stepK_d rfl rfl rfl hst (does_move rfl rfl) ?_
      refine stepK_d rfl rfl rfl hst (does_move rfl rfl) ?_
      refine stepK_call rfl rfl rfl rfl rfl hst (num_sum hst.agree hU hV (by omega) (by omega)) ?_
      clear hst
      intro v28 g28 w28 hst hle28 hcs28 hp28
      replace ha := ha.mono hle28
      replace hb := hb.mono hle28
      replace hN1 := hN1.mono hle28
      replace hD1 := hD1.mono hle28
      replace hN2 := hN2.mono hle28
      replace hD2 := hD2.mono hle28
      replace hU := hU.mono hle28
      replace hV := hV.mono hle28
      replace hW := hW.mono hle28
      obtain ⟨A6, n6, c6, rfl, hS⟩ := hp28
      have k4 := lenAddK hS hfa.1 hfb.2 hfb.1 hfa.2
      refine stepK_d rfl rfl rfl hst (does_move rfl rfl) ?_
      refine stepK_call rfl rfl rfl rfl rfl hst (num_reduce hst.agree hS hW hWp (by omega) (by omega)) ?_
      clear hst
      intro v29 g29 w29 hst hle29 hcs29 hp29
      replace ha := ha.mono hle29
      replace hb := hb.mono hle29
      replace hN1 := hN1.mono hle29
      replace hD1 := hD1.mono hle29
      replace hN2 := hN2.mono hle29
      replace hD2 := hD2.mono hle29
      replace hU := hU.mono hle29
      replace hV := hV.mono hle29
      replace hW := hW.mono hle29
      replace hS := hS.mono hle29
      obtain ⟨p9, q9, a9, rfl, hr9⟩ := hp29
      refine stepK_store 2 rfl rfl rfl rfl rfl rfl (by kernel_rfl : sizeB Tryd.prog 41 = some 3) rfl rfl hst rfl (by first | (simp [uN_length]; omega) | simp) ?_
      clear hst
      intro w30 hst
      simp only [List.nil_append, List.cons_append, List.set_cons_zero, List.set_cons_succ, splice, List.toList_toArray, List.take_zero, List.take_succ_cons, List.take_nil, List.drop_zero, List.drop_succ_cons, List.drop_nil, List.length_cons, List.length_nil, Nat.zero_add, Nat.add_zero, Nat.reduceAdd, List.append_nil] at hst
      refine wpK_nil ?_
      refine cp_then ?_
      refine cp_ret ?_
      refine at_then_ret ?_
      refine ret1c (k := 2) rfl rfl (by kernel_rfl) (by kernel_rfl) rfl hst rfl ?_
      rw [sg_add, sg_abs, hs, sg_abs, rat_add] at hr9
      exact ⟨_, _, _, rfl, hr9⟩
    · intro c70
      have hne := ne_of_beq_false c70
      refine cp_skip ?_
      refine cp_then ?_
      refine cp_seq ?_
      refine cp_seq ?_
      refine cp_region ?_
      refine stepK_d rfl rfl rfl hst (does_move rfl rfl) ?_
      refine stepK_d rfl rfl rfl hst (does_move rfl rfl) ?_
      refine stepK_call rfl rfl rfl rfl rfl hst (num_compare hst.agree hU hV (by omega)) ?_
      clear hst
      intro v31 g31 w31 hst hle31 hcs31 hp31
      replace ha := ha.mono hle31
      replace hb := hb.mono hle31
      replace hN1 := hN1.mono hle31
      replace hD1 := hD1.mono hle31
      replace hN2 := hN2.mono hle31
      replace hD2 := hD2.mono hle31
      replace hU := hU.mono hle31
      replace hV := hV.mono hle31
      replace hW := hW.mono hle31
      obtain rfl := hp31
      refine stepK_d rfl rfl rfl hst (does_geq rfl rfl rfl) ?_
      refine wpK_nil ?_
      refine cp_then ?_
      refine cp_if rfl ?_ ?_
      · intro c80
        have hle := cmpN_nonneg.1 c80
        refine cp_seq ?_
        refine cp_region ?_
        refine stepK_d rfl rfl rfl hst (does_move rfl rfl) ?_
        refine stepK_d rfl rfl rfl hst (does_move rfl rfl) ?_
        refine stepK_d rfl rfl rfl hst (does_move rfl rfl) ?_
        refine stepK_call rfl rfl rfl rfl rfl hst (num_less hst.agree hU hV (by omega) hle) ?_
        clear hst
        intro v32 g32 w32 hst hle32 hcs32 hp32
        replace ha := ha.mono hle32
        replace hb := hb.mono hle32
        replace hN1 := hN1.mono hle32
        replace hD1 := hD1.mono hle32
        replace hN2 := hN2.mono hle32
        replace hD2 := hD2.mono hle32
        replace hU := hU.mono hle32
        replace hV := hV.mono hle32
        replace hW := hW.mono hle32
        obtain ⟨A6, n6, c6, rfl, hS⟩ := hp32
        have k4 := lenSubK hS hfa.1 hfb.2
        refine stepK_d rfl rfl rfl hst (does_move rfl rfl) ?_
        refine stepK_call rfl rfl rfl rfl rfl hst (num_reduce hst.agree hS hW hWp (by omega) (by omega)) ?_
        clear hst
        intro v33 g33 w33 hst hle33 hcs33 hp33
        replace ha := ha.mono hle33
        replace hb := hb.mono hle33
        replace hN1 := hN1.mono hle33
        replace hD1 := hD1.mono hle33
        replace hN2 := hN2.mono hle33
        replace hD2 := hD2.mono hle33
        replace hU := hU.mono hle33
        replace hV := hV.mono hle33
        replace hW := hW.mono hle33
        replace hS := hS.mono hle33
        obtain ⟨p9, q9, a9, rfl, hr9⟩ := hp33
        refine stepK_store 2 rfl rfl rfl rfl rfl rfl (by kernel_rfl : sizeB Tryd.prog 41 = some 3) rfl rfl hst rfl (by first | (simp [uN_length]; omega) | simp) ?_
        clear hst
        intro w34 hst
        simp only [List.nil_append, List.cons_append, List.set_cons_zero, List.set_cons_succ, splice, List.toList_toArray, List.take_zero, List.take_succ_cons, List.take_nil, List.drop_zero, List.drop_succ_cons, List.drop_nil, List.length_cons, List.length_nil, Nat.zero_add, Nat.add_zero, Nat.reduceAdd, List.append_nil] at hst
        refine wpK_nil ?_
        refine cp_then ?_
        refine cp_ret ?_
        refine at_then_ret ?_
        refine ret1c (k := 2) rfl rfl (by kernel_rfl) (by kernel_rfl) rfl hst rfl ?_
        rw [sg_sub hle hne, sg_abs, sg_abs, rat_add] at hr9
        exact ⟨_, _, _, rfl, hr9⟩
      · intro c80
        have hle : r.num.natAbs * x.den ≤ x.num.natAbs * r.den := Nat.le_of_lt (Nat.lt_of_not_le fun h => c80 (cmpN_nonneg.2 h))
        refine cp_skip ?_
        refine cp_then ?_
        refine cp_seq ?_
        refine cp_region ?_
        refine stepK_d rfl rfl rfl hst (does_move rfl rfl) ?_
        refine stepK_d rfl rfl rfl hst (does_move rfl rfl) ?_
        refine stepK_d rfl rfl rfl hst (does_move rfl rfl) ?_
        refine stepK_call rfl rfl rfl rfl rfl hst (num_less hst.agree hV hU (by omega) hle) ?_
        clear hst
        intro v35 g35 w35 hst hle35 hcs35 hp35
        replace ha := ha.mono hle35
        replace hb := hb.mono hle35
        replace hN1 := hN1.mono hle35
        replace hD1 := hD1.mono hle35
        replace hN2 := hN2.mono hle35
        replace hD2 := hD2.mono hle35
        replace hU := hU.mono hle35
        replace hV := hV.mono hle35
        replace hW := hW.mono hle35
        obtain ⟨A6, n6, c6, rfl, hS⟩ := hp35
        have k4 := lenSubK hS hfb.1 hfa.2
        refine stepK_d rfl rfl rfl hst (does_move rfl rfl) ?_
        refine stepK_call rfl rfl rfl rfl rfl hst (num_reduce hst.agree hS hW hWp (by omega) (by omega)) ?_
        clear hst
        intro v36 g36 w36 hst hle36 hcs36 hp36
        replace ha := ha.mono hle36
        replace hb := hb.mono hle36
        replace hN1 := hN1.mono hle36
        replace hD1 := hD1.mono hle36
        replace hN2 := hN2.mono hle36
        replace hD2 := hD2.mono hle36
        replace hU := hU.mono hle36
        replace hV := hV.mono hle36
        replace hW := hW.mono hle36
        replace hS := hS.mono hle36
        obtain ⟨p9, q9, a9, rfl, hr9⟩ := hp36
        refine stepK_store 2 rfl rfl rfl rfl rfl rfl (by kernel_rfl : sizeB Tryd.prog 41 = some 3) rfl rfl hst rfl (by first | (simp [uN_length]; omega) | simp) ?_
        clear hst
        intro w37 hst
        simp only [List.nil_append, List.cons_append, List.set_cons_zero, List.set_cons_succ, splice, List.toList_toArray, List.take_zero, List.take_succ_cons, List.take_nil, List.drop_zero, List.drop_succ_cons, List.drop_nil, List.length_cons, List.length_nil, Nat.zero_add, Nat.add_zero, Nat.reduceAdd, List.append_nil] at hst
        refine wpK_nil ?_
        refine cp_then ?_
        refine cp_ret ?_
        refine ret1c (k := 2) rfl rfl (by kernel_rfl) (by kernel_rfl) rfl hst rfl ?_
        rw [sg_sub hle (Ne.symm hne), sg_abs, sg_abs, Int.add_comm, rat_add] at hr9
        exact ⟨_, _, _, rfl, hr9⟩

set_option maxHeartbeats 1000000 in
theorem Rat_Mul {g : Mem} {w : World} (hag : Agree g w) {p q : Int} {a : Option Addr} {r : Rat} (ha : IsRat g p q a r) {s t : Int} {b : Option Addr} {x : Rat} (hb : IsRat g s t b x) (hfa : Fit r) (hfb : Fit x) :
    CallTo Tryd.prog 29 #[.agg #[.int .i64 p, .int .i64 q, .pointer a], .agg #[.int .i64 s, .int .i64 t, .pointer b]] w (Ret w g fun v g => ∃ p q a, v = .agg #[.int .i64 p, .int .i64 q, .pointer a] ∧ IsRat g p q a (r * x)) := by
  refine CallTo.enter (vs := [.agg #[.int .i64 p, .int .i64 q, .pointer a], .agg #[.int .i64 s, .int .i64 t, .pointer b]]) (by kernel_rfl : Tryd.prog.funcs[29]? = some Tryd.f29) (by kernel_rfl) rfl rfl rfl ?_
  have hst := St.init hag
  refine cp_seq ?_
  refine cp_region ?_
  refine stepK_box rfl rfl rfl rfl rfl rfl hst ?_
  clear hst
  intro b1 w1 hst
  refine stepK_box rfl rfl rfl rfl rfl rfl hst ?_
  clear hst
  intro b2 w2 hst
  refine stepK_alloc rfl rfl rfl rfl (by kernel_rfl : zeroOf Tryd.prog 41 = some (.agg #[.int .i64 0, .int .i64 0, .pointer none])) rfl hst ?_
  clear hst
  intro b3 w3 hst
  refine wpK_nil ?_
  refine cp_then ?_
  refine cp_seq ?_
  refine cp_seq ?_
  refine cp_region ?_
  refine stepK_d rfl rfl rfl hst (does_fieldAddr rfl (by kernel_rfl : fieldOf Tryd.prog 41 2 = some (2, 0 + 1, false)) rfl) ?_
  refine stepK_d rfl rfl rfl hst (does_load_ownL 0 rfl (by kernel_rfl) rfl rfl rfl) ?_
  refine stepK_d rfl rfl rfl hst (does_eql_nilD rfl (by kernel_rfl : Program.underlying Tryd.prog 39 = some (.pointer 80)) rfl rfl) ?_
  refine stepK_d rfl rfl rfl hst (does_move rfl rfl) ?_
  refine wpK_split (t := 18) rfl ?_ ?_
  · intro s18
    refine stepK_guard rfl rfl rfl rfl rfl rfl hst (does_fieldAddr rfl (by kernel_rfl : fieldOf Tryd.prog 41 2 = some (2, 0 + 1, false)) rfl) ?_
    refine stepK_guard rfl rfl rfl rfl rfl rfl hst (does_load_ownL 1 rfl (by kernel_rfl) rfl rfl rfl) ?_
    refine stepK_guard rfl rfl rfl rfl rfl rfl hst (does_eql_nilD rfl (by kernel_rfl : Program.underlying Tryd.prog 39 = some (.pointer 80)) rfl rfl) ?_
    refine stepK_d rfl rfl rfl hst (does_pick_true rfl rfl rfl) ?_
    refine wpK_nil ?_
    refine cp_then ?_
    refine cp_if rfl ?_ ?_
    · intro c22
      refine cp_seq ?_
      obtain rfl : a = none := by assumption
      obtain rfl : b = none := by assumption
      have hla := ha.low
      have hlb := hb.low
      have b1 := hla.1.bound
      have b2 := hlb.1.bound
      have hdr := r.den_nz
      have hdx := x.den_nz
      have hd0 : (r.den : Int) * (x.den : Int) ≠ 0 := Int.mul_ne_zero (by omega) (by omega)
      have m1 := mulb (a := r.num) (b := (x.den : Int)) (by omega) (by omega) (by omega) (by omega)
      have m2 := mulb (a := x.num) (b := (r.den : Int)) (by omega) (by omega) (by omega) (by omega)
      have m3 := mulb (a := (r.den : Int)) (b := (x.den : Int)) (by omega) (by omega) (by omega) (by omega)
      have m4 := mulb (a := r.num) (b := x.num) (by omega) (by omega) (by omega) (by omega)
      refine cp_region ?_
      refine stepK_d rfl rfl rfl hst (does_load_ownN 0 rfl (by kernel_rfl) (by kernel_rfl : sizeB Tryd.prog 41 = some 3) rfl rfl rfl) ?_
      refine stepK_call rfl rfl rfl rfl rfl hst (Rat_low hst.agree hla) ?_
      clear hst
      intro v4 g4 w4 hst hle4 hcs4 hp4
      replace ha := ha.mono hle4
      replace hb := hb.mono hle4
      obtain rfl := hp4
      refine stepK_d rfl rfl rfl hst (does_move rfl rfl) ?_
      refine stepK_d rfl rfl rfl hst (does_extract rfl rfl rfl) ?_
      refine stepK_d rfl rfl rfl hst (does_extract rfl rfl rfl) ?_
      refine stepK_d rfl rfl rfl hst (does_assign rfl rfl) ?_
      refine stepK_d rfl rfl rfl hst (does_assign rfl rfl) ?_
      refine wpK_nil ?_
      refine cp_then ?_
      refine cp_seq ?_
      refine cp_region ?_
      refine stepK_d rfl rfl rfl hst (does_load_ownN 1 rfl (by kernel_rfl) (by kernel_rfl : sizeB Tryd.prog 41 = some 3) rfl rfl rfl) ?_
      refine stepK_call rfl rfl rfl rfl rfl hst (Rat_low hst.agree hlb) ?_
      clear hst
      intro v5 g5 w5 hst hle5 hcs5 hp5
      replace ha := ha.mono hle5
      replace hb := hb.mono hle5
      obtain rfl := hp5
      refine stepK_d rfl rfl rfl hst (does_move rfl rfl) ?_
      refine stepK_d rfl rfl rfl hst (does_extract rfl rfl rfl) ?_
      refine stepK_d rfl rfl rfl hst (does_extract rfl rfl rfl) ?_
      refine stepK_d rfl rfl rfl hst (does_assign rfl rfl) ?_
      refine stepK_d rfl rfl rfl hst (does_assign rfl rfl) ?_
      refine wpK_nil ?_
      refine cp_then ?_
      refine cp_seq ?_
      refine cp_region ?_
      refine stepK_d rfl rfl rfl hst (does_move rfl rfl) ?_
      refine stepK_d rfl rfl rfl hst (does_move rfl rfl) ?_
      refine stepK_d rfl rfl rfl hst (Does.int (does_mul rfl rfl rfl) (wrap_i64 (by omega) (by omega))) ?_
      refine stepK_d rfl rfl rfl hst (does_move rfl rfl) ?_
      refine stepK_d rfl rfl rfl hst (does_move rfl rfl) ?_
      refine stepK_d rfl rfl rfl hst (Does.int (does_mul rfl rfl rfl) (wrap_i64 (by omega) (by omega))) ?_
      refine stepK_call rfl rfl rfl rfl rfl hst (num_quotient hst.agree (by omega) (by omega) (by omega) (by omega) hd0) ?_
      clear hst
      intro v6 g6 w6 hst hle6 hcs6 hp6
      replace ha := ha.mono hle6
      replace hb := hb.mono hle6
      obtain ⟨p9, q9, a9, rfl, hr9⟩ := hp6
      refine stepK_store 2 rfl rfl rfl rfl rfl rfl (by kernel_rfl : sizeB Tryd.prog 41 = some 3) rfl rfl hst rfl (by first | (simp [uN_length]; omega) | simp) ?_
      clear hst
      intro w7 hst
      simp only [List.nil_append, List.cons_append, List.set_cons_zero, List.set_cons_succ, splice, List.toList_toArray, List.take_zero, List.take_succ_cons, List.take_nil, List.drop_zero, List.drop_succ_cons, List.drop_nil, List.length_cons, List.length_nil, Nat.zero_add, Nat.add_zero, Nat.reduceAdd, List.append_nil] at hst
      refine wpK_nil ?_
      refine cp_then ?_
      refine cp_ret ?_
      refine at_then_ret ?_
      refine ret1c (k := 2) rfl rfl (by kernel_rfl) (by kernel_rfl) rfl hst rfl ?_
      rw [divInt_nat, rat_mul] at hr9
      exact ⟨_, _, _, rfl, hr9⟩
    · intro c22
      refine cp_skip ?_
      refine cp_then ?_
      refine cp_seq ?_
      refine cp_region ?_
      refine stepK_d rfl rfl rfl hst (does_load_ownN 0 rfl (by kernel_rfl) (by kernel_rfl : sizeB Tryd.prog 41 = some 3) rfl rfl rfl) ?_
      refine stepK_call rfl rfl rfl rfl rfl hst (Rat_parts hst.agree ha) ?_
      clear hst
      intro v8 g8 w8 hst hle8 hcs8 hp8
      replace ha := ha.mono hle8
      replace hb := hb.mono hle8
      obtain ⟨A1, n1, c1, B1, m1, d1, rfl, hN1, hD1⟩ := hp8
      refine stepK_d rfl rfl rfl hst (does_move rfl rfl) ?_
      refine stepK_d rfl rfl rfl hst (does_extract rfl rfl rfl) ?_
      refine stepK_d rfl rfl rfl hst (does_extract rfl rfl rfl) ?_
      refine stepK_d rfl rfl rfl hst (does_extract rfl rfl rfl) ?_
      refine stepK_d rfl rfl rfl hst (does_assign rfl rfl) ?_
      refine stepK_d rfl rfl rfl hst (does_assign rfl rfl) ?_
      refine stepK_d rfl rfl rfl hst (does_assign rfl rfl) ?_
      refine wpK_nil ?_
      refine cp_then ?_
      refine cp_seq ?_
      refine cp_region ?_
      refine stepK_d rfl rfl rfl hst (does_load_ownN 1 rfl (by kernel_rfl) (by kernel_rfl : sizeB Tryd.prog 41 = some 3) rfl rfl rfl) ?_
      refine stepK_call rfl rfl rfl rfl rfl hst (Rat_parts hst.agree hb) ?_
      clear hst
      intro v9 g9 w9 hst hle9 hcs9 hp9
      replace ha := ha.mono hle9
      replace hb := hb.mono hle9
      replace hN1 := hN1.mono hle9
      replace hD1 := hD1.mono hle9
      obtain ⟨A2, n2, c2, B2, m2, d2, rfl, hN2, hD2⟩ := hp9
      refine stepK_d rfl rfl rfl hst (does_move rfl rfl) ?_
      refine stepK_d rfl rfl rfl hst (does_extract rfl rfl rfl) ?_
      refine stepK_d rfl rfl rfl hst (does_extract rfl rfl rfl) ?_
      refine stepK_d rfl rfl rfl hst (does_extract rfl rfl rfl) ?_
      refine stepK_d rfl rfl rfl hst (does_assign rfl rfl) ?_
      refine stepK_d rfl rfl rfl hst (does_assign rfl rfl) ?_
      refine stepK_d rfl rfl rfl hst (does_assign rfl rfl) ?_
      refine wpK_nil ?_
      refine cp_then ?_
      refine cp_seq ?_
      have l1 := hN1.len hfa.1
      have l2 := hD1.len hfa.2
      have l3 := hN2.len hfb.1
      have l4 := hD2.len hfb.2
      refine cp_region ?_
      refine stepK_d rfl rfl rfl hst (does_move rfl rfl) ?_
      refine stepK_d rfl rfl rfl hst (does_move rfl rfl) ?_
      refine stepK_d rfl rfl rfl hst (does_neq_bool rfl (by kernel_rfl) rfl rfl) ?_
      refine stepK_d rfl rfl rfl hst (does_move rfl rfl) ?_
      refine stepK_d rfl rfl rfl hst (does_move rfl rfl) ?_
      refine stepK_call rfl rfl rfl rfl rfl hst (num_product hst.agree hN1 hN2 (by omega) (by omega)) ?_
      clear hst
      intro v10 g10 w10 hst hle10 hcs10 hp10
      replace ha := ha.mono hle10
      replace hb := hb.mono hle10
      replace hN1 := hN1.mono hle10
      replace hD1 := hD1.mono hle10
      replace hN2 := hN2.mono hle10
      replace hD2 := hD2.mono hle10
      obtain ⟨A3, n3, c3, rfl, hU⟩ := hp10
      refine stepK_d rfl rfl rfl hst (does_move rfl rfl) ?_
      refine stepK_d rfl rfl rfl hst (does_move rfl rfl) ?_
      refine stepK_call rfl rfl rfl rfl rfl hst (num_product hst.agree hD1 hD2 (by omega) (by omega)) ?_
      clear hst
      intro v11 g11 w11 hst hle11 hcs11 hp11
      replace ha := ha.mono hle11
      replace hb := hb.mono hle11
      replace hN1 := hN1.mono hle11
      replace hD1 := hD1.mono hle11
      replace hN2 := hN2.mono hle11
      replace hD2 := hD2.mono hle11
      replace hU := hU.mono hle11
      obtain ⟨A5, n5, c5, rfl, hW⟩ := hp11
      have k1 := lenMul hU hfa.1 hfb.1
      have k3 := lenMul hW hfa.2 hfb.2
      have hWp : 0 < r.den * x.den := Nat.mul_pos (Nat.pos_of_ne_zero r.den_nz) (Nat.pos_of_ne_zero x.den_nz)
      refine stepK_call rfl rfl rfl rfl rfl hst (num_reduce hst.agree hU hW hWp (by omega) (by omega)) ?_
      clear hst
      intro v12 g12 w12 hst hle12 hcs12 hp12
      replace ha := ha.mono hle12
      replace hb := hb.mono hle12
      replace hN1 := hN1.mono hle12
      replace hD1 := hD1.mono hle12
      replace hN2 := hN2.mono hle12
      replace hD2 := hD2.mono hle12
      replace hU := hU.mono hle12
      replace hW := hW.mono hle12
      obtain ⟨p9, q9, a9, rfl, hr9⟩ := hp12
      refine stepK_store 2 rfl rfl rfl rfl rfl rfl (by kernel_rfl : sizeB Tryd.prog 41 = some 3) rfl rfl hst rfl (by first | (simp [uN_length]; omega) | simp) ?_
      clear hst
      intro w13 hst
      simp only [List.nil_append, List.cons_append, List.set_cons_zero, List.set_cons_succ, splice, List.toList_toArray, List.take_zero, List.take_succ_cons, List.take_nil, List.drop_zero, List.drop_succ_cons, List.drop_nil, List.length_cons, List.length_nil, Nat.zero_add, Nat.add_zero, Nat.reduceAdd, List.append_nil] at hst
      refine wpK_nil ?_
      refine cp_then ?_
      refine cp_ret ?_
      refine ret1c (k := 2) rfl rfl (by kernel_rfl) (by kernel_rfl) rfl hst rfl ?_
      rw [show (!(decide (r.num < 0) == decide (x.num < 0))) = (decide (r.num < 0) != decide (x.num < 0)) from rfl, sg_mul, sg_num, sg_num, rat_mul] at hr9
      exact ⟨_, _, _, rfl, hr9⟩
  · intro s18
    refine stepK_pass rfl rfl rfl rfl rfl rfl rfl ?_
    refine stepK_pass rfl rfl rfl rfl rfl rfl rfl ?_
    refine stepK_pass rfl rfl rfl rfl rfl rfl rfl ?_
    refine stepK_d rfl rfl rfl hst (does_pick_false rfl rfl rfl) ?_
    refine wpK_nil ?_
    refine cp_then ?_
    refine cp_cond_false rfl ?_
    refine cp_skip ?_
    refine cp_then ?_
    refine cp_seq ?_
    refine cp_region ?_
    refine stepK_d rfl rfl rfl hst (does_load_ownN 0 rfl (by kernel_rfl) (by kernel_rfl : sizeB Tryd.prog 41 = some 3) rfl rfl rfl) ?_
    refine stepK_call rfl rfl rfl rfl rfl hst (Rat_parts hst.agree ha) ?_
    clear hst
    intro v14 g14 w14 hst hle14 hcs14 hp14
    replace ha := ha.mono hle14
    replace hb := hb.mono hle14
    obtain ⟨A1, n1, c1, B1, m1, d1, rfl, hN1, hD1⟩ := hp14
    refine stepK_d rfl rfl rfl hst (does_move rfl rfl) ?_
    refine stepK_d rfl rfl rfl hst (does_extract rfl rfl rfl) ?_
    refine stepK_d rfl rfl rfl hst (does_extract rfl rfl rfl) ?_
    refine stepK_d rfl rfl rfl hst (does_extract rfl rfl rfl) ?_
    refine stepK_d rfl rfl rfl hst (does_assign rfl rfl) ?_
    refine stepK_d rfl rfl rfl hst (does_assign rfl rfl) ?_
    refine stepK_d rfl rfl rfl hst (does_assign rfl rfl) ?_
    refine wpK_nil ?_
    refine cp_then ?_
    refine cp_seq ?_
    refine cp_region ?_
    refine stepK_d rfl rfl rfl hst (does_load_ownN 1 rfl (by kernel_rfl) (by kernel_rfl : sizeB Tryd.prog 41 = some 3) rfl rfl rfl) ?_
    refine stepK_call rfl rfl rfl rfl rfl hst (Rat_parts hst.agree hb) ?_
    clear hst
    intro v15 g15 w15 hst hle15 hcs15 hp15
    replace ha := ha.mono hle15
    replace hb := hb.mono hle15
    replace hN1 := hN1.mono hle15
    replace hD1 := hD1.mono hle15
    obtain ⟨A2, n2, c2, B2, m2, d2, rfl, hN2, hD2⟩ := hp15
    refine stepK_d rfl rfl rfl hst (does_move rfl rfl) ?_
    refine stepK_d rfl rfl rfl hst (does_extract rfl rfl rfl) ?_
    refine stepK_d rfl rfl rfl hst (does_extract rfl rfl rfl) ?_
    refine stepK_d rfl rfl rfl hst (does_extract rfl rfl rfl) ?_
    refine stepK_d rfl rfl rfl hst (does_assign rfl rfl) ?_
    refine stepK_d rfl rfl rfl hst (does_assign rfl rfl) ?_
    refine stepK_d rfl rfl rfl hst (does_assign rfl rfl) ?_
    refine wpK_nil ?_
    refine cp_then ?_
    refine cp_seq ?_
    have l1 := hN1.len hfa.1
    have l2 := hD1.len hfa.2
    have l3 := hN2.len hfb.1
    have l4 := hD2.len hfb.2
    refine cp_region ?_
    refine stepK_d rfl rfl rfl hst (does_move rfl rfl) ?_
    refine stepK_d rfl rfl rfl hst (does_move rfl rfl) ?_
    refine stepK_d rfl rfl rfl hst (does_neq_bool rfl (by kernel_rfl) rfl rfl) ?_
    refine stepK_d rfl rfl rfl hst (does_move rfl rfl) ?_
    refine stepK_d rfl rfl rfl hst (does_move rfl rfl) ?_
    refine stepK_call rfl rfl rfl rfl rfl hst (num_product hst.agree hN1 hN2 (by omega) (by omega)) ?_
    clear hst
    intro v16 g16 w16 hst hle16 hcs16 hp16
    replace ha := ha.mono hle16
    replace hb := hb.mono hle16
    replace hN1 := hN1.mono hle16
    replace hD1 := hD1.mono hle16
    replace hN2 := hN2.mono hle16
    replace hD2 := hD2.mono hle16
    obtain ⟨A3, n3, c3, rfl, hU⟩ := hp16
    refine stepK_d rfl rfl rfl hst (does_move rfl rfl) ?_
    refine stepK_d rfl rfl rfl hst (does_move rfl rfl) ?_
    refine stepK_call rfl rfl rfl rfl rfl hst (num_product hst.agree hD1 hD2 (by omega) (by omega)) ?_
    clear hst
    intro v17 g17 w17 hst hle17 hcs17 hp17
    replace ha := ha.mono hle17
    replace hb := hb.mono hle17
    replace hN1 := hN1.mono hle17
    replace hD1 := hD1.mono hle17
    replace hN2 := hN2.mono hle17
    replace hD2 := hD2.mono hle17
    replace hU := hU.mono hle17
    obtain ⟨A5, n5, c5, rfl, hW⟩ := hp17
    have k1 := lenMul hU hfa.1 hfb.1
    have k3 := lenMul hW hfa.2 hfb.2
    have hWp : 0 < r.den * x.den := Nat.mul_pos (Nat.pos_of_ne_zero r.den_nz) (Nat.pos_of_ne_zero x.den_nz)
    refine stepK_call rfl rfl rfl rfl rfl hst (num_reduce hst.agree hU hW hWp (by omega) (by omega)) ?_
    clear hst
    intro v18 g18 w18 hst hle18 hcs18 hp18
    replace ha := ha.mono hle18
    replace hb := hb.mono hle18
    replace hN1 := hN1.mono hle18
    replace hD1 := hD1.mono hle18
    replace hN2 := hN2.mono hle18
    replace hD2 := hD2.mono hle18
    replace hU := hU.mono hle18
    replace hW := hW.mono hle18
    obtain ⟨p9, q9, a9, rfl, hr9⟩ := hp18
    refine stepK_store 2 rfl rfl rfl rfl rfl rfl (by kernel_rfl : sizeB Tryd.prog 41 = some 3) rfl rfl hst rfl (by first | (simp [uN_length]; omega) | simp) ?_
    clear hst
    intro w19 hst
    simp only [List.nil_append, List.cons_append, List.set_cons_zero, List.set_cons_succ, splice, List.toList_toArray, List.take_zero, List.take_succ_cons, List.take_nil, List.drop_zero, List.drop_succ_cons, List.drop_nil, List.length_cons, List.length_nil, Nat.zero_add, Nat.add_zero, Nat.reduceAdd, List.append_nil] at hst
    refine wpK_nil ?_
    refine cp_then ?_
    refine cp_ret ?_
    refine ret1c (k := 2) rfl rfl (by kernel_rfl) (by kernel_rfl) rfl hst rfl ?_
    rw [show (!(decide (r.num < 0) == decide (x.num < 0))) = (decide (r.num < 0) != decide (x.num < 0)) from rfl, sg_mul, sg_num, sg_num, rat_mul] at hr9
    exact ⟨_, _, _, rfl, hr9⟩

end Go.Proofs.YtbamjcfdlgnicaaDoor
