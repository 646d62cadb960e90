/- A helper of the claim: general lemmas and walks of functions, printed by a program of this session. Conditions: none. -/
import Derived.Test.YtcjhnkmoloiepaaDoorQ2
import Derived.Test.YtcjhnkmoloiepaaDoorProg
import Derived.Test.YtcjhnkmoloiepaaDoorF5
import Derived.Shelf.Strings.Builder1
import Derived.Shelf.Strings.Trim
import Derived.Shelf.Small.Utf8
import Derived.Shelf.Small.Bits
import Derived.Shelf.Small.Strs
import Derived.Shelf.Strings.BuilderF
import Derived.Shelf.Strings.BuilderK
import Derived.Shelf.Strconv.Itoa0
import Derived.Shelf.Strconv.Itoa1
import Derived.Shelf.LaysM
import Derived.Shelf.Strconv.Itoa2
import Derived.Shelf.Strconv.Itoa3
import Derived.Shelf.Strconv.Itoa4
import Derived.Shelf.Strings.Search1
import Derived.Shelf.Unicode.Decode
import Derived.Shelf.Strings.Runes
import Derived.Shelf.Strings.AsciiSet
import Derived.Shelf.Bits.Mul64
import Derived.Shelf.Unicode.DecodeSlow
import Derived.Shelf.Unicode.DecodeAny
import Derived.Test.YtcjhnkmoloiepaaDoorF4
import Derived.Test.YtcjhnkmoloiepaaDoorF0
namespace Go.Proofs.YtcjhnkmoloiepaaDoor
open Go Go.RowKit Go.Proofs.Vc
set_option linter.unusedVariables false
set_option linter.unusedSimpArgs false

set_option maxHeartbeats 1000000 in
theorem num_plain {g : Mem} {w : World} (hag : Agree g w) {s : ByteArray} (hs : s.size ≤ 1099511627776) :
    CallTo Tryd.prog 57 #[.string s] w (Ret w g fun v g => ∃ b : Bool, v = .bool b ∧ (b = true ↔ PlainL (Lb s))) := by
  refine CallTo.enter (vs := [.string s]) zf53 (by kernel_rfl) rfl rfl rfl ?_
  have hst := St.init hag
  refine zsr ?_
  refine zA rfl hst rfl ?_
  refine znq ?_
  refine zsr ?_
  refine zM rfl hst rfl ?_
  refine stepK_d rfl rfl rfl hst (does_eql_string rfl rfl rfl) ?_
  refine zM rfl hst rfl ?_
  refine wpK_split (t := 6) rfl ?_ ?_
  intro s6
  refine stepK_pass rfl rfl rfl rfl rfl rfl rfl ?_
  refine stepK_pass rfl rfl rfl rfl rfl rfl rfl ?_
  refine stepK_pass rfl rfl rfl rfl rfl rfl rfl ?_
  refine stepK_pass rfl rfl rfl rfl rfl rfl rfl ?_
  refine stepK_passU rfl rfl rfl rfl rfl rfl ?_
  refine stepK_passU rfl rfl rfl rfl rfl rfl ?_
  refine stepK_passU rfl rfl rfl rfl rfl rfl ?_
  refine stepK_pass rfl rfl rfl rfl rfl rfl rfl ?_
  refine stepK_d rfl rfl rfl hst (does_pick_true rfl rfl rfl) ?_
  refine znt ?_
  refine cp_cond_true rfl ?_
  refine zsr ?_
  refine zA rfl hst rfl ?_
  refine zn5 ?_
  refine ret1 rfl rfl hst ?_
  exact ⟨_, rfl, no_plain (fun h => by have := h.pos; rw [s6] at this; exact absurd this (by decide))⟩
  intro s6
  refine stepK_guard rfl rfl rfl rfl rfl rfl hst (does_move rfl rfl) ?_
  have h0 := size_pos_of_ne s6
  refine stepK_guard rfl rfl rfl rfl rfl rfl hst (does_index_bt rfl (by kernel_rfl) rfl rfl rfl (by omega)) ?_
  refine stepK_guard rfl rfl rfl rfl rfl rfl hst (does_eql_n (b := 48) rfl rfl rfl) ?_
  refine stepK_guard rfl rfl rfl rfl rfl rfl hst (does_move rfl rfl) ?_
  refine wpK_split (t := 10) rfl ?_ ?_
  intro s10
  refine stepK_guard rfl rfl rfl rfl rfl rfl hst (does_move rfl rfl) ?_
  refine stepK_guard rfl rfl rfl rfl rfl rfl hst (does_len_string rfl (by kernel_rfl) rfl) ?_
  refine stepK_guard rfl rfl rfl rfl rfl rfl hst (does_gtr rfl rfl rfl) ?_
  refine stepK_guard rfl rfl rfl rfl rfl rfl hst (does_pick_true rfl rfl rfl) ?_
  refine stepK_d rfl rfl rfl hst (does_pick_false rfl rfl rfl) ?_
  refine znt ?_
  refine cp_if rfl ?_ ?_
  intro c15
  refine zsr ?_
  refine zA rfl hst rfl ?_
  refine zn5 ?_
  refine ret1 rfl rfl hst ?_
  exact ⟨_, rfl, no_plain (fun h => by have := h.lead0 (by omega); omega)⟩
  intro c15
  refine cp_skip ?_
  refine cp_then ?_
  refine cp_seq ?_
  refine zsr ?_
  refine zM rfl hst rfl ?_
  refine stepK_d rfl rfl rfl hst (does_len_string rfl (by kernel_rfl) rfl) ?_
  refine zM rfl hst rfl ?_
  refine znt ?_
  refine cp_block ?_
  refine cp_loop (ι := Nat) (fun k => [(0, .string s), (17, .int .i64 (s.size : Int)), (18, .int .i64 (k : Int))]) (fun k w1 => St w [] g g [] w1 ∧ k ≤ s.size ∧ ∀ j, j < k → 48 ≤ bt s j ∧ bt s j ≤ 57) (fun k => s.size - k) 0 ?k1 ?i1 ?r1
  case k1 => exact ⟨rfl, rfl, rfl, trivial⟩
  case i1 =>
    exact ⟨hst, Nat.zero_le _, fun j h => absurd h (Nat.not_lt_zero _)⟩
  case r1 =>
    clear hst
    rintro k w1 ⟨hst, hk, hd⟩
    refine zsr ?_
    refine stepK_d rfl rfl rfl hst (does_lss rfl rfl rfl) ?_
    refine znq ?_
    refine cp_if rfl ?_ ?_
    intro c19
    refine cp_skip ?_
    refine cp_then ?_
    refine cp_seq ?_
    refine cp_block ?_
    refine zsr ?_
    refine zM rfl hst rfl ?_
    refine zA rfl hst rfl ?_
    refine zn4 ?_
    refine zM rfl hst rfl ?_
    refine zM rfl hst rfl ?_
    refine stepK_d rfl rfl rfl hst (does_index_bt rfl (by kernel_rfl) rfl rfl rfl (by omega)) ?_
    refine stepK_d rfl rfl rfl hst (does_lss_n (b := 48) rfl rfl rfl) ?_
    refine zM rfl hst rfl ?_
    refine wpK_split (t := 25) rfl ?_ ?_
    intro s25
    refine stepK_pass rfl rfl rfl rfl rfl rfl rfl ?_
    refine stepK_pass rfl rfl rfl rfl rfl rfl rfl ?_
    refine stepK_pass rfl rfl rfl rfl rfl rfl rfl ?_
    refine stepK_pass rfl rfl rfl rfl rfl rfl rfl ?_
    refine stepK_d rfl rfl rfl hst (does_pick_true rfl rfl rfl) ?_
    refine znt ?_
    refine cp_cond_true rfl ?_
    refine zsr ?_
    refine zA rfl hst rfl ?_
    refine znt ?_
    refine cp_ret ?_
    refine at_block_ret ?_
    refine at_then_ret ?_
    refine at_then_ret ?_
    refine at_block_ret ?_
    refine at_then_ret ?_
    refine ret1 rfl rfl hst ?_
    exact ⟨_, rfl, no_plain (fun h => by have := h.all k (by omega); omega)⟩
    intro s25
    refine stepK_guard rfl rfl rfl rfl rfl rfl hst (does_move rfl rfl) ?_
    refine stepK_guard rfl rfl rfl rfl rfl rfl hst (does_move rfl rfl) ?_
    refine stepK_guard rfl rfl rfl rfl rfl rfl hst (does_index_bt rfl (by kernel_rfl) rfl rfl rfl (by omega)) ?_
    refine stepK_guard rfl rfl rfl rfl rfl rfl hst (does_gtr_n (b := 57) rfl rfl rfl) ?_
    refine stepK_d rfl rfl rfl hst (does_pick_false rfl rfl rfl) ?_
    refine znt ?_
    refine cp_if rfl ?_ ?_
    intro c30
    refine zsr ?_
    refine zA rfl hst rfl ?_
    refine znt ?_
    refine cp_ret ?_
    refine at_block_ret ?_
    refine at_then_ret ?_
    refine at_then_ret ?_
    refine at_block_ret ?_
    refine at_then_ret ?_
    refine ret1 rfl rfl hst ?_
    exact ⟨_, rfl, no_plain (fun h => by have := h.all k (by omega); omega)⟩
    intro c30
    refine cp_skip ?_
    refine at_block_normal ?_
    refine cp_then ?_
    refine cp_region ?_
    refine stepK_d rfl rfl rfl hst (Does.int (does_add rfl rfl rfl) (wrap_i64 (by omega) (by omega))) ?_
    refine zM rfl hst rfl ?_
    refine wpK_nil ?_
    refine round_end (k + 1) ?_ ?_ ?_
    exact ⟨rfl, rfl, rfl, trivial⟩
    exact ⟨hst, by omega, fun j h => by
      rcases Nat.lt_or_ge j k with h9 | h9
      exact hd j h9
      obtain rfl : j = k := by omega
      omega⟩
    omega
    intro c19
    refine cp_exit ?_
    refine at_then_exit ?_
    refine at_then_exit ?_
    refine cp_exit_here ?_
    refine cp_then ?_
    refine zsr ?_
    refine zA rfl hst rfl ?_
    refine znt ?_
    refine cp_ret ?_
    refine ret1 rfl rfl hst ?_
    obtain rfl : k = s.size := by omega
    exact ⟨_, rfl, yes_plain (plain_of (s := s) h0 (fun (h : bt s 0 = 48) => by omega) hd)⟩
  intro s10
  refine stepK_pass rfl rfl rfl rfl rfl rfl rfl ?_
  refine stepK_pass rfl rfl rfl rfl rfl rfl rfl ?_
  refine stepK_pass rfl rfl rfl rfl rfl rfl rfl ?_
  refine stepK_guard rfl rfl rfl rfl rfl rfl hst (does_pick_false rfl rfl rfl) ?_
  refine stepK_d rfl rfl rfl hst (does_pick_false rfl rfl rfl) ?_
  refine znt ?_
  refine cp_cond_false rfl ?_
  refine cp_skip ?_
  refine cp_then ?_
  refine cp_seq ?_
  refine zsr ?_
  refine zM rfl hst rfl ?_
  refine stepK_d rfl rfl rfl hst (does_len_string rfl (by kernel_rfl) rfl) ?_
  refine zM rfl hst rfl ?_
  refine znt ?_
  refine cp_block ?_
  refine cp_loop (ι := Nat) (fun k => [(0, .string s), (17, .int .i64 (s.size : Int)), (18, .int .i64 (k : Int))]) (fun k w1 => St w [] g g [] w1 ∧ k ≤ s.size ∧ ∀ j, j < k → 48 ≤ bt s j ∧ bt s j ≤ 57) (fun k => s.size - k) 0 ?k2 ?i2 ?r2
  case k2 => exact ⟨rfl, rfl, rfl, trivial⟩
  case i2 =>
    exact ⟨hst, Nat.zero_le _, fun j h => absurd h (Nat.not_lt_zero _)⟩
  case r2 =>
    clear hst
    rintro k w1 ⟨hst, hk, hd⟩
    refine zsr ?_
    refine stepK_d rfl rfl rfl hst (does_lss rfl rfl rfl) ?_
    refine znq ?_
    refine cp_if rfl ?_ ?_
    intro c19
    refine cp_skip ?_
    refine cp_then ?_
    refine cp_seq ?_
    refine cp_block ?_
    refine zsr ?_
    refine zM rfl hst rfl ?_
    refine zA rfl hst rfl ?_
    refine zn4 ?_
    refine zM rfl hst rfl ?_
    refine zM rfl hst rfl ?_
    refine stepK_d rfl rfl rfl hst (does_index_bt rfl (by kernel_rfl) rfl rfl rfl (by omega)) ?_
    refine stepK_d rfl rfl rfl hst (does_lss_n (b := 48) rfl rfl rfl) ?_
    refine zM rfl hst rfl ?_
    refine wpK_split (t := 25) rfl ?_ ?_
    intro s25
    refine stepK_pass rfl rfl rfl rfl rfl rfl rfl ?_
    refine stepK_pass rfl rfl rfl rfl rfl rfl rfl ?_
    refine stepK_pass rfl rfl rfl rfl rfl rfl rfl ?_
    refine stepK_pass rfl rfl rfl rfl rfl rfl rfl ?_
    refine stepK_d rfl rfl rfl hst (does_pick_true rfl rfl rfl) ?_
    refine znt ?_
    refine cp_cond_true rfl ?_
    refine zsr ?_
    refine zA rfl hst rfl ?_
    refine znt ?_
    refine cp_ret ?_
    refine at_block_ret ?_
    refine at_then_ret ?_
    refine at_then_ret ?_
    refine at_block_ret ?_
    refine at_then_ret ?_
    refine ret1 rfl rfl hst ?_
    exact ⟨_, rfl, no_plain (fun h => by have := h.all k (by omega); omega)⟩
    intro s25
    refine stepK_guard rfl rfl rfl rfl rfl rfl hst (does_move rfl rfl) ?_
    refine stepK_guard rfl rfl rfl rfl rfl rfl hst (does_move rfl rfl) ?_
    refine stepK_guard rfl rfl rfl rfl rfl rfl hst (does_index_bt rfl (by kernel_rfl) rfl rfl rfl (by omega)) ?_
    refine stepK_guard rfl rfl rfl rfl rfl rfl hst (does_gtr_n (b := 57) rfl rfl rfl) ?_
    refine stepK_d rfl rfl rfl hst (does_pick_false rfl rfl rfl) ?_
    refine znt ?_
    refine cp_if rfl ?_ ?_
    intro c30
    refine zsr ?_
    refine zA rfl hst rfl ?_
    refine znt ?_
    refine cp_ret ?_
    refine at_block_ret ?_
    refine at_then_ret ?_
    refine at_then_ret ?_
    refine at_block_ret ?_
    refine at_then_ret ?_
    refine ret1 rfl rfl hst ?_
    exact ⟨_, rfl, no_plain (fun h => by have := h.all k (by omega); omega)⟩
    intro c30
    refine cp_skip ?_
    refine at_block_normal ?_
    refine cp_then ?_
    refine cp_region ?_
    refine stepK_d rfl rfl rfl hst (Does.int (does_add rfl rfl rfl) (wrap_i64 (by omega) (by omega))) ?_
    refine zM rfl hst rfl ?_
    refine wpK_nil ?_
    refine round_end (k + 1) ?_ ?_ ?_
    exact ⟨rfl, rfl, rfl, trivial⟩
    exact ⟨hst, by omega, fun j h => by
      rcases Nat.lt_or_ge j k with h9 | h9
      exact hd j h9
      obtain rfl : j = k := by omega
      omega⟩
    omega
    intro c19
    refine cp_exit ?_
    refine at_then_exit ?_
    refine at_then_exit ?_
    refine cp_exit_here ?_
    refine cp_then ?_
    refine zsr ?_
    refine zA rfl hst rfl ?_
    refine znt ?_
    refine cp_ret ?_
    refine ret1 rfl rfl hst ?_
    obtain rfl : k = s.size := by omega
    exact ⟨_, rfl, yes_plain (plain_of (s := s) h0 (fun h => absurd h s10) hd)⟩

end Go.Proofs.YtcjhnkmoloiepaaDoor

namespace Go.Proofs.YtcjhnkmoloiepaaDoor
open Go Go.RowKit Go.Proofs.Vc
set_option linter.unusedVariables false
set_option linter.unusedSimpArgs false

set_option maxHeartbeats 4000000 in
theorem num_Of {g : Mem} {w : World} (hag : Agree g w) {s : ByteArray} (hs : s.size < 1099511627776) :
    CallTo Tryd.prog 31 #[.string s] w (Ret w g fun v g => ∃ p q a, v = .tuple #[.agg #[.int .i64 p, .int .i64 q, .pointer a], .bool (readR s).isSome] ∧ IsRat g p q a (getR s)) := by
  refine CallTo.enter (vs := [.string s]) zf54 (by kernel_rfl) rfl rfl rfl ?_
  have hst := St.init hag
  unfold getR
  refine zsr ?_
  refine stepK_alloc rfl rfl rfl rfl zf29 rfl hst ?_
  clear hst
  intro r0 w1 hst
  refine zA rfl hst rfl ?_
  refine zn4 ?_
  refine zM rfl hst rfl ?_
  refine zA rfl hst rfl ?_
  refine zA rfl hst rfl ?_
  refine znt ?_
  refine cp_join (ι := Bool × ByteArray) (fun (neg, t) => [(2, .pointer (some ⟨r0, 0, none⟩)), (4, .string t), (5, .bool neg)]) (fun (neg, t) w1 => St w [] g g [(r0, .cells #[.int .i64 0, .int .i64 0, .pointer none] 46 (0, 0))] w1 ∧ Lb s = (if neg then [45] else []) ++ Lb t ∧ (neg = false → (Lb t).head? ≠ some 45) ∧ t.size ≤ s.size) ?c2 ?d2
  case c2 =>
    refine zsr ?_
    refine zM rfl hst rfl ?_
    refine stepK_d rfl rfl rfl hst (does_len_string rfl (by kernel_rfl) rfl) ?_
    refine stepK_d rfl rfl rfl hst (does_gtr rfl rfl rfl) ?_
    refine zM rfl hst rfl ?_
    refine wpK_split (t := 16) rfl ?_ ?_
    intro s16
    refine stepK_guard rfl rfl rfl rfl rfl rfl hst (does_move rfl rfl) ?_
    refine stepK_guard rfl rfl rfl rfl rfl rfl hst (does_index_bt (j := 0) rfl (by kernel_rfl) rfl rfl (by omega) (by omega)) ?_
    refine stepK_guard rfl rfl rfl rfl rfl rfl hst (does_eql_n (b := 45) rfl rfl rfl) ?_
    refine stepK_d rfl rfl rfl hst (does_pick_true rfl rfl rfl) ?_
    refine znt ?_
    refine cp_if rfl ?_ ?_
    intro c20
    refine cp_region ?_
    refine zM rfl hst rfl ?_
    refine stepK_d rfl rfl rfl hst (does_slice_string (l := 1) (h := s.size) rfl (by kernel_rfl) rfl ⟨_, _, rfl, rfl⟩ rfl (by omega) (Nat.le_refl _)) ?_
    refine zA rfl hst rfl ?_
    refine zA rfl hst rfl ?_
    refine wpK_nil ?_
    refine join_end ((true, s.extract 1 s.size)) ?_ ?_
    exact ⟨rfl, rfl, rfl, trivial⟩
    exact ⟨hst, Lb_cut1 (c := 45) (by omega) c20, fun e => Bool.noConfusion e, by rw [size_tail]; omega⟩
    intro c20
    refine cp_skip ?_
    refine join_end ((false, s)) ?_ ?_
    exact ⟨rfl, rfl, rfl, trivial⟩
    exact ⟨hst, rfl, fun _ => Lb_head_ne (fun _ => c20), Nat.le_refl _⟩
    intro s16
    refine stepK_pass rfl rfl rfl rfl rfl rfl rfl ?_
    refine stepK_pass rfl rfl rfl rfl rfl rfl rfl ?_
    refine stepK_pass rfl rfl rfl rfl rfl rfl rfl ?_
    refine stepK_d rfl rfl rfl hst (does_pick_false rfl rfl rfl) ?_
    refine znt ?_
    refine cp_cond_false rfl ?_
    refine cp_skip ?_
    refine join_end ((false, s)) ?_ ?_
    exact ⟨rfl, rfl, rfl, trivial⟩
    exact ⟨hst, rfl, fun _ => Lb_head_ne (fun h => by omega), Nat.le_refl _⟩
  case d2 =>
    clear hst
    rintro ⟨neg, t⟩ w1 ⟨hst, hL, hneg, hts⟩
    refine zsr ?_
    refine zM rfl hst rfl ?_
    refine zA rfl hst rfl ?_
    refine zA rfl hst rfl ?_
    refine zA rfl hst rfl ?_
    refine znt ?_
    refine cp_join (ι := ByteArray × ByteArray × Bool) (fun (top, bottom, found) => [(2, .pointer (some ⟨r0, 0, none⟩)), (5, .bool neg), (6, .string top), (7, .string bottom), (8, .bool found)]) (fun (top, bottom, found) w2 => St w [] g g [(r0, .cells #[.int .i64 0, .int .i64 0, .pointer none] 46 (0, 0))] w2 ∧ Lb t = Lb top ++ (if found then 47 :: Lb bottom else []) ∧ (47 : UInt8) ∉ Lb top ∧ (found = false → Lb bottom = [49]) ∧ top.size ≤ t.size ∧ bottom.size ≤ t.size + 1) ?c3 ?d3
    case c3 =>
      refine zsr ?_
      refine zM rfl hst rfl ?_
      refine stepK_d rfl rfl rfl hst (does_len_string rfl (by kernel_rfl) rfl) ?_
      refine zM rfl hst rfl ?_
      refine znt ?_
      refine cp_block ?_
      refine cp_loop (ι := Nat) (fun k => [(2, .pointer (some ⟨r0, 0, none⟩)), (4, .string t), (5, .bool neg), (6, .string t), (7, .string ⟨#[49]⟩), (8, .bool false), (25, .int .i64 (t.size : Int)), (26, .int .i64 (k : Int))]) (fun k w3 => St w [] g g [(r0, .cells #[.int .i64 0, .int .i64 0, .pointer none] 46 (0, 0))] w3 ∧ k ≤ t.size ∧ ∀ j, j < k → bt t j ≠ 47) (fun k => t.size - k) 0 ?k4 ?i4 ?r4
      case k4 => exact ⟨rfl, rfl, rfl, rfl, rfl, rfl, rfl, rfl, trivial⟩
      case i4 =>
        exact ⟨hst, Nat.zero_le _, fun j h => absurd h (Nat.not_lt_zero _)⟩
      case r4 =>
        clear hst
        rintro k w3 ⟨hst, hk, hk47⟩
        refine zsr ?_
        refine stepK_d rfl rfl rfl hst (does_lss rfl rfl rfl) ?_
        refine znq ?_
        refine cp_if rfl ?_ ?_
        intro c27
        refine cp_skip ?_
        refine cp_then ?_
        refine cp_seq ?_
        refine cp_block ?_
        refine zsr ?_
        refine zM rfl hst rfl ?_
        refine zA rfl hst rfl ?_
        refine zn4 ?_
        refine zM rfl hst rfl ?_
        refine zM rfl hst rfl ?_
        refine stepK_d rfl rfl rfl hst (does_index_bt rfl (by kernel_rfl) rfl rfl rfl (by omega)) ?_
        refine stepK_d rfl rfl rfl hst (does_eql_n (b := 47) rfl rfl rfl) ?_
        refine znt ?_
        refine cp_if rfl ?_ ?_
        intro c32
        refine cp_seq ?_
        refine cp_drawn (by kernel_rfl) 10 [(0, true), (1, true), (2, true), (3, true), (4, true), (5, true), (6, true), (7, true), (8, true), (9, true)] _ rfl (by kernel_rfl) (by kernel_rfl) (by kernel_rfl) (fun _ _ _ _ _ h => h) _ (hst.drew) ?_
        have hst0 := hst.drew
        clear hst
        have hst := hst0
        refine stepD_d rfl rfl rfl rfl (does_move rfl rfl) ?_
        refine stepD_d rfl rfl rfl rfl (does_move rfl rfl) ?_
        refine stepD_d rfl rfl rfl rfl (does_slice_string (l := 0) (h := k) rfl (by kernel_rfl) rfl rfl ⟨_, _, rfl, rfl⟩ (Nat.zero_le _) (by omega)) ?_
        refine stepD_d rfl rfl rfl rfl (does_move rfl rfl) ?_
        refine stepD_d rfl rfl rfl rfl (does_move rfl rfl) ?_
        refine stepD_d rfl rfl rfl rfl (Does.int (does_add rfl rfl rfl) (wrap_i64 (by omega) (by omega))) ?_
        refine stepD_d rfl rfl rfl rfl (does_slice_string (l := k + 1) (h := t.size) rfl (by kernel_rfl) rfl ⟨_, _, rfl, by omega⟩ rfl (by omega) (Nat.le_refl _)) ?_
        refine stepD_d rfl rfl rfl rfl (does_assign rfl rfl) ?_
        refine stepD_d rfl rfl rfl rfl (does_assign rfl rfl) ?_
        refine stepD_d rfl rfl rfl rfl (does_assign rfl rfl) ?_
        refine stepD_tail ?_
        refine znt ?_
        refine cp_exit ?_
        refine cp_exit_on (by decide) ?_
        refine at_then_exit ?_
        refine at_then_exit ?_
        refine cp_exit_here ?_
        refine join_end ((t.extract 0 k, t.extract (k + 1) t.size, true)) ?_ ?_
        exact ⟨rfl, rfl, rfl, rfl, rfl, trivial⟩
        exact ⟨hst, Lb_cutk (c := 47) (by omega) c32, not_mem_take (c := 47) hk hk47, fun e => Bool.noConfusion e, by rw [ByteArray.size_extract]; omega, by rw [size_tail]; omega⟩
        intro c32
        refine cp_skip ?_
        refine at_block_normal ?_
        refine cp_then ?_
        refine cp_region ?_
        refine stepK_d rfl rfl rfl hst (Does.int (does_add rfl rfl rfl) (wrap_i64 (by omega) (by omega))) ?_
        refine zM rfl hst rfl ?_
        refine wpK_nil ?_
        refine round_end (k + 1) ?_ ?_ ?_
        exact ⟨rfl, rfl, rfl, rfl, rfl, rfl, rfl, rfl, trivial⟩
        exact ⟨hst, by omega, fun j h => by
          rcases Nat.lt_or_ge j k with h9 | h9
          exact hk47 j h9
          obtain rfl : j = k := by omega
          exact c32⟩
        show t.size - (k + 1) < t.size - k
        omega
        intro c27
        refine cp_exit ?_
        refine at_then_exit ?_
        refine at_then_exit ?_
        refine cp_exit_here ?_
        obtain rfl : k = t.size := by omega
        refine join_end ((t, ⟨#[49]⟩, false)) ?_ ?_
        exact ⟨rfl, rfl, rfl, rfl, rfl, trivial⟩
        refine ⟨hst, by simp, ?_, fun _ => rfl, Nat.le_refl _, by show 1 ≤ _; omega⟩
        have h9 := not_mem_take (c := 47) hk hk47
        rw [ByteArray.extract_zero_size] at h9
        exact h9
    case d3 =>
      clear hst
      rintro ⟨top, bottom, found⟩ w2 ⟨hst, hL2, h47, hone, hts2, hbs2⟩
      have hcut : Cut (Lb s) neg (Lb top) (Lb bottom) found := ⟨by rw [hL, hL2], fun e => by rw [← hL2]; exact hneg e, h47, hone⟩
      refine cp_join (ι := Unit) (fun () => [(2, .pointer (some ⟨r0, 0, none⟩)), (5, .bool neg), (6, .string top), (7, .string bottom), (8, .bool found)]) (fun () w4 => ∃ g4, St w [] g g4 [(r0, .cells #[.int .i64 0, .int .i64 0, .pointer none] 46 (0, 0))] w4 ∧ Okay0 neg (Lb top) (Lb bottom) found) ?c5 ?d5
      case c5 =>
        refine zsr ?_
        refine zM rfl hst rfl ?_
        refine stepK_call rfl rfl rfl rfl rfl hst (num_plain hst.agree (by omega)) ?_
        clear hst
        intro v6 g6 w6 hst hle6 hcs6 hp6
        obtain ⟨pt, rfl, hpt⟩ := hp6
        refine stepK_d rfl rfl rfl hst (does_not rfl rfl) ?_
        refine zM rfl hst rfl ?_
        refine wpK_splitb (t := 44) rfl ?_ ?_
        intro s44
        refine stepK_pass rfl rfl rfl rfl rfl rfl rfl ?_
        refine stepK_pass rfl rfl rfl rfl rfl rfl rfl ?_
        refine stepK_pass rfl rfl rfl rfl rfl rfl rfl ?_
        refine stepK_d rfl rfl rfl hst (does_pick_true rfl rfl rfl) ?_
        refine zM rfl hst rfl ?_
        refine stepK_pass rfl rfl rfl rfl rfl rfl rfl ?_
        refine stepK_pass rfl rfl rfl rfl rfl rfl rfl ?_
        refine stepK_passU rfl rfl rfl rfl rfl rfl ?_
        refine stepK_passU rfl rfl rfl rfl rfl rfl ?_
        refine stepK_pass rfl rfl rfl rfl rfl rfl rfl ?_
        refine stepK_d rfl rfl rfl hst (does_pick_true rfl rfl rfl) ?_
        refine zM rfl hst rfl ?_
        refine stepK_pass rfl rfl rfl rfl rfl rfl rfl ?_
        refine stepK_pass rfl rfl rfl rfl rfl rfl rfl ?_
        refine stepK_passU rfl rfl rfl rfl rfl rfl ?_
        refine stepK_passU rfl rfl rfl rfl rfl rfl ?_
        refine stepK_passU rfl rfl rfl rfl rfl rfl ?_
        refine stepK_passU rfl rfl rfl rfl rfl rfl ?_
        refine stepK_passU rfl rfl rfl rfl rfl rfl ?_
        refine stepK_passU rfl rfl rfl rfl rfl rfl ?_
        refine stepK_pass rfl rfl rfl rfl rfl rfl rfl ?_
        refine stepK_d rfl rfl rfl hst (does_pick_true rfl rfl rfl) ?_
        refine znt ?_
        refine cp_cond_true rfl ?_
        refine zsr ?_
        refine stepK_d rfl rfl rfl hst (does_build rfl zf30 rfl rfl) ?_
        refine stepK_store 0 rfl rfl rfl rfl rfl rfl zf31 rfl rfl hst rfl (by first | (simp [uN_length]; omega) | simp) ?_
        clear hst
        intro w7 hst
        simp only [zL, splice, Nat.reduceAdd] at hst
        refine zA rfl hst rfl ?_
        refine zn5 ?_
        refine ret2c (k := 0) rfl rfl (by kernel_rfl) (by kernel_rfl) rfl rfl hst rfl ?_
        first
        | (rw [hrn]; exact ⟨_, _, _, rfl, IsRat.zero _⟩)
        | (rw [hrs]; exact ⟨_, _, _, rfl, hr9⟩)
        | (have hrn : readR s = none := reject0 hcut (fun ho => by
             first
             | (have h9 := hpt.2 ho.ptop; simp_all; done)
             | (have h9 := hpb.2 ho.pbot; simp_all; done)
             | exact ho.nzero ⟨by assumption, by rw [show top = _ by assumption]; rfl⟩
             | exact ho.nb ⟨by assumption, .inl (by rw [show bottom = _ by assumption]; rfl)⟩
             | exact ho.nb ⟨by assumption, .inr (by rw [show bottom = _ by assumption]; rfl)⟩)
           rw [hrn]
           exact ⟨_, _, _, rfl, IsRat.zero _⟩)
        intro s44
        refine stepK_guard rfl rfl rfl rfl rfl rfl hst (does_move rfl rfl) ?_
        refine stepK_call_guard rfl rfl rfl rfl rfl rfl rfl rfl hst (num_plain hst.agree (by omega)) ?_
        clear hst
        intro v8 g8 w8 hst hle8 hcs8 hp8
        obtain ⟨pb, rfl, hpb⟩ := hp8
        refine stepK_guard rfl rfl rfl rfl rfl rfl hst (does_not rfl rfl) ?_
        refine stepK_d rfl rfl rfl hst (does_pick_false rfl rfl rfl) ?_
        refine zM rfl hst rfl ?_
        refine wpK_splitb (t := 49) rfl ?_ ?_
        intro s49
        refine stepK_pass rfl rfl rfl rfl rfl rfl rfl ?_
        refine stepK_pass rfl rfl rfl rfl rfl rfl rfl ?_
        refine stepK_passU rfl rfl rfl rfl rfl rfl ?_
        refine stepK_passU rfl rfl rfl rfl rfl rfl ?_
        refine stepK_pass rfl rfl rfl rfl rfl rfl rfl ?_
        refine stepK_d rfl rfl rfl hst (does_pick_true rfl rfl rfl) ?_
        refine zM rfl hst rfl ?_
        refine stepK_pass rfl rfl rfl rfl rfl rfl rfl ?_
        refine stepK_pass rfl rfl rfl rfl rfl rfl rfl ?_
        refine stepK_passU rfl rfl rfl rfl rfl rfl ?_
        refine stepK_passU rfl rfl rfl rfl rfl rfl ?_
        refine stepK_passU rfl rfl rfl rfl rfl rfl ?_
        refine stepK_passU rfl rfl rfl rfl rfl rfl ?_
        refine stepK_passU rfl rfl rfl rfl rfl rfl ?_
        refine stepK_passU rfl rfl rfl rfl rfl rfl ?_
        refine stepK_pass rfl rfl rfl rfl rfl rfl rfl ?_
        refine stepK_d rfl rfl rfl hst (does_pick_true rfl rfl rfl) ?_
        refine znt ?_
        refine cp_cond_true rfl ?_
        refine zsr ?_
        refine stepK_d rfl rfl rfl hst (does_build rfl zf30 rfl rfl) ?_
        refine stepK_store 0 rfl rfl rfl rfl rfl rfl zf31 rfl rfl hst rfl (by first | (simp [uN_length]; omega) | simp) ?_
        clear hst
        intro w9 hst
        simp only [zL, splice, Nat.reduceAdd] at hst
        refine zA rfl hst rfl ?_
        refine zn5 ?_
        refine ret2c (k := 0) rfl rfl (by kernel_rfl) (by kernel_rfl) rfl rfl hst rfl ?_
        first
        | (rw [hrn]; exact ⟨_, _, _, rfl, IsRat.zero _⟩)
        | (rw [hrs]; exact ⟨_, _, _, rfl, hr9⟩)
        | (have hrn : readR s = none := reject0 hcut (fun ho => by
             first
             | (have h9 := hpt.2 ho.ptop; simp_all; done)
             | (have h9 := hpb.2 ho.pbot; simp_all; done)
             | exact ho.nzero ⟨by assumption, by rw [show top = _ by assumption]; rfl⟩
             | exact ho.nb ⟨by assumption, .inl (by rw [show bottom = _ by assumption]; rfl)⟩
             | exact ho.nb ⟨by assumption, .inr (by rw [show bottom = _ by assumption]; rfl)⟩)
           rw [hrn]
           exact ⟨_, _, _, rfl, IsRat.zero _⟩)
        intro s49
        refine stepK_guard rfl rfl rfl rfl rfl rfl hst (does_move rfl rfl) ?_
        refine stepK_guard rfl rfl rfl rfl rfl rfl hst (does_move rfl rfl) ?_
        refine wpK_splitb (t := 51) rfl ?_ ?_
        intro s51
        refine stepK_guard rfl rfl rfl rfl rfl rfl hst (does_move rfl rfl) ?_
        refine stepK_guard rfl rfl rfl rfl rfl rfl hst (does_eql_string rfl rfl rfl) ?_
        refine stepK_guard rfl rfl rfl rfl rfl rfl hst (does_pick_true rfl rfl rfl) ?_
        refine stepK_d rfl rfl rfl hst (does_pick_false rfl rfl rfl) ?_
        refine zM rfl hst rfl ?_
        refine wpK_split (t := 56) rfl ?_ ?_
        intro s56
        refine stepK_pass rfl rfl rfl rfl rfl rfl rfl ?_
        refine stepK_pass rfl rfl rfl rfl rfl rfl rfl ?_
        refine stepK_passU rfl rfl rfl rfl rfl rfl ?_
        refine stepK_passU rfl rfl rfl rfl rfl rfl ?_
        refine stepK_passU rfl rfl rfl rfl rfl rfl ?_
        refine stepK_passU rfl rfl rfl rfl rfl rfl ?_
        refine stepK_passU rfl rfl rfl rfl rfl rfl ?_
        refine stepK_passU rfl rfl rfl rfl rfl rfl ?_
        refine stepK_pass rfl rfl rfl rfl rfl rfl rfl ?_
        refine stepK_d rfl rfl rfl hst (does_pick_true rfl rfl rfl) ?_
        refine znt ?_
        refine cp_cond_true rfl ?_
        refine zsr ?_
        refine stepK_d rfl rfl rfl hst (does_build rfl zf30 rfl rfl) ?_
        refine stepK_store 0 rfl rfl rfl rfl rfl rfl zf31 rfl rfl hst rfl (by first | (simp [uN_length]; omega) | simp) ?_
        clear hst
        intro w10 hst
        simp only [zL, splice, Nat.reduceAdd] at hst
        refine zA rfl hst rfl ?_
        refine zn5 ?_
        refine ret2c (k := 0) rfl rfl (by kernel_rfl) (by kernel_rfl) rfl rfl hst rfl ?_
        first
        | (rw [hrn]; exact ⟨_, _, _, rfl, IsRat.zero _⟩)
        | (rw [hrs]; exact ⟨_, _, _, rfl, hr9⟩)
        | (have hrn : readR s = none := reject0 hcut (fun ho => by
             first
             | (have h9 := hpt.2 ho.ptop; simp_all; done)
             | (have h9 := hpb.2 ho.pbot; simp_all; done)
             | exact ho.nzero ⟨by assumption, by rw [show top = _ by assumption]; rfl⟩
             | exact ho.nb ⟨by assumption, .inl (by rw [show bottom = _ by assumption]; rfl)⟩
             | exact ho.nb ⟨by assumption, .inr (by rw [show bottom = _ by assumption]; rfl)⟩)
           rw [hrn]
           exact ⟨_, _, _, rfl, IsRat.zero _⟩)
        intro s56
        refine stepK_guard rfl rfl rfl rfl rfl rfl hst (does_move rfl rfl) ?_
        refine stepK_guard rfl rfl rfl rfl rfl rfl hst (does_move rfl rfl) ?_
        refine wpK_splitb (t := 58) rfl ?_ ?_
        intro s58
        refine stepK_guard rfl rfl rfl rfl rfl rfl hst (does_move rfl rfl) ?_
        refine stepK_guard rfl rfl rfl rfl rfl rfl hst (does_eql_string rfl rfl rfl) ?_
        refine stepK_guard rfl rfl rfl rfl rfl rfl hst (does_move rfl rfl) ?_
        refine wpK_split (t := 61) rfl ?_ ?_
        intro s61
        refine stepK_pass rfl rfl rfl rfl rfl rfl rfl ?_
        refine stepK_pass rfl rfl rfl rfl rfl rfl rfl ?_
        refine stepK_guard rfl rfl rfl rfl rfl rfl hst (does_pick_true rfl rfl rfl) ?_
        refine stepK_guard rfl rfl rfl rfl rfl rfl hst (does_pick_true rfl rfl rfl) ?_
        refine stepK_d rfl rfl rfl hst (does_pick_false rfl rfl rfl) ?_
        refine znt ?_
        refine cp_cond_true rfl ?_
        refine zsr ?_
        refine stepK_d rfl rfl rfl hst (does_build rfl zf30 rfl rfl) ?_
        refine stepK_store 0 rfl rfl rfl rfl rfl rfl zf31 rfl rfl hst rfl (by first | (simp [uN_length]; omega) | simp) ?_
        clear hst
        intro w11 hst
        simp only [zL, splice, Nat.reduceAdd] at hst
        refine zA rfl hst rfl ?_
        refine zn5 ?_
        refine ret2c (k := 0) rfl rfl (by kernel_rfl) (by kernel_rfl) rfl rfl hst rfl ?_
        first
        | (rw [hrn]; exact ⟨_, _, _, rfl, IsRat.zero _⟩)
        | (rw [hrs]; exact ⟨_, _, _, rfl, hr9⟩)
        | (have hrn : readR s = none := reject0 hcut (fun ho => by
             first
             | (have h9 := hpt.2 ho.ptop; simp_all; done)
             | (have h9 := hpb.2 ho.pbot; simp_all; done)
             | exact ho.nzero ⟨by assumption, by rw [show top = _ by assumption]; rfl⟩
             | exact ho.nb ⟨by assumption, .inl (by rw [show bottom = _ by assumption]; rfl)⟩
             | exact ho.nb ⟨by assumption, .inr (by rw [show bottom = _ by assumption]; rfl)⟩)
           rw [hrn]
           exact ⟨_, _, _, rfl, IsRat.zero _⟩)
        intro s61
        refine stepK_guard rfl rfl rfl rfl rfl rfl hst (does_move rfl rfl) ?_
        refine stepK_guard rfl rfl rfl rfl rfl rfl hst (does_eql_string rfl rfl rfl) ?_
        refine stepK_guard rfl rfl rfl rfl rfl rfl hst (does_pick_false rfl rfl rfl) ?_
        refine stepK_guard rfl rfl rfl rfl rfl rfl hst (does_pick_true rfl rfl rfl) ?_
        refine stepK_d rfl rfl rfl hst (does_pick_false rfl rfl rfl) ?_
        refine znt ?_
        refine cp_if rfl ?_ ?_
        intro c66
        refine zsr ?_
        refine stepK_d rfl rfl rfl hst (does_build rfl zf30 rfl rfl) ?_
        refine stepK_store 0 rfl rfl rfl rfl rfl rfl zf31 rfl rfl hst rfl (by first | (simp [uN_length]; omega) | simp) ?_
        clear hst
        intro w12 hst
        simp only [zL, splice, Nat.reduceAdd] at hst
        refine zA rfl hst rfl ?_
        refine zn5 ?_
        refine ret2c (k := 0) rfl rfl (by kernel_rfl) (by kernel_rfl) rfl rfl hst rfl ?_
        first
        | (rw [hrn]; exact ⟨_, _, _, rfl, IsRat.zero _⟩)
        | (rw [hrs]; exact ⟨_, _, _, rfl, hr9⟩)
        | (have hrn : readR s = none := reject0 hcut (fun ho => by
             first
             | (have h9 := hpt.2 ho.ptop; simp_all; done)
             | (have h9 := hpb.2 ho.pbot; simp_all; done)
             | exact ho.nzero ⟨by assumption, by rw [show top = _ by assumption]; rfl⟩
             | exact ho.nb ⟨by assumption, .inl (by rw [show bottom = _ by assumption]; rfl)⟩
             | exact ho.nb ⟨by assumption, .inr (by rw [show bottom = _ by assumption]; rfl)⟩)
           rw [hrn]
           exact ⟨_, _, _, rfl, IsRat.zero _⟩)
        intro c66
        refine cp_skip ?_
        refine join_end (()) ?_ ?_
        exact ⟨rfl, rfl, rfl, rfl, rfl, trivial⟩
        exact ⟨_, hst, ⟨hpt.1 (by simpa using s44), hpb.1 (by simpa using s49), by
          rintro ⟨e1, e2⟩
          first
          | exact absurd (Lb_ext (a := top) (b := ⟨#[48]⟩) e2) (by assumption)
          | (rw [s51] at e1; cases e1), by
          rintro ⟨e1, e2⟩
          first
          | (rw [s58] at e1; cases e1; done)
          | (rcases e2 with e2 | e2
             exact absurd (Lb_ext (a := bottom) (b := ⟨#[48]⟩) e2) (by assumption)
             exact absurd (Lb_ext (a := bottom) (b := ⟨#[49]⟩) e2) (by assumption))⟩⟩
        intro s58
        refine stepK_pass rfl rfl rfl rfl rfl rfl rfl ?_
        refine stepK_pass rfl rfl rfl rfl rfl rfl rfl ?_
        refine stepK_pass rfl rfl rfl rfl rfl rfl rfl ?_
        refine stepK_passU rfl rfl rfl rfl rfl rfl ?_
        refine stepK_passU rfl rfl rfl rfl rfl rfl ?_
        refine stepK_pass rfl rfl rfl rfl rfl rfl rfl ?_
        refine stepK_guard rfl rfl rfl rfl rfl rfl hst (does_pick_false rfl rfl rfl) ?_
        refine stepK_d rfl rfl rfl hst (does_pick_false rfl rfl rfl) ?_
        refine znt ?_
        refine cp_cond_false rfl ?_
        refine cp_skip ?_
        refine join_end (()) ?_ ?_
        exact ⟨rfl, rfl, rfl, rfl, rfl, trivial⟩
        exact ⟨_, hst, ⟨hpt.1 (by simpa using s44), hpb.1 (by simpa using s49), by
          rintro ⟨e1, e2⟩
          first
          | exact absurd (Lb_ext (a := top) (b := ⟨#[48]⟩) e2) (by assumption)
          | (rw [s51] at e1; cases e1), by
          rintro ⟨e1, e2⟩
          first
          | (rw [s58] at e1; cases e1; done)
          | (rcases e2 with e2 | e2
             exact absurd (Lb_ext (a := bottom) (b := ⟨#[48]⟩) e2) (by assumption)
             exact absurd (Lb_ext (a := bottom) (b := ⟨#[49]⟩) e2) (by assumption))⟩⟩
        intro s51
        refine stepK_pass rfl rfl rfl rfl rfl rfl rfl ?_
        refine stepK_pass rfl rfl rfl rfl rfl rfl rfl ?_
        refine stepK_guard rfl rfl rfl rfl rfl rfl hst (does_pick_false rfl rfl rfl) ?_
        refine stepK_d rfl rfl rfl hst (does_pick_false rfl rfl rfl) ?_
        refine zM rfl hst rfl ?_
        refine stepK_guard rfl rfl rfl rfl rfl rfl hst (does_move rfl rfl) ?_
        refine stepK_guard rfl rfl rfl rfl rfl rfl hst (does_move rfl rfl) ?_
        refine wpK_splitb (t := 58) rfl ?_ ?_
        intro s58
        refine stepK_guard rfl rfl rfl rfl rfl rfl hst (does_move rfl rfl) ?_
        refine stepK_guard rfl rfl rfl rfl rfl rfl hst (does_eql_string rfl rfl rfl) ?_
        refine stepK_guard rfl rfl rfl rfl rfl rfl hst (does_move rfl rfl) ?_
        refine wpK_split (t := 61) rfl ?_ ?_
        intro s61
        refine stepK_pass rfl rfl rfl rfl rfl rfl rfl ?_
        refine stepK_pass rfl rfl rfl rfl rfl rfl rfl ?_
        refine stepK_guard rfl rfl rfl rfl rfl rfl hst (does_pick_true rfl rfl rfl) ?_
        refine stepK_guard rfl rfl rfl rfl rfl rfl hst (does_pick_true rfl rfl rfl) ?_
        refine stepK_d rfl rfl rfl hst (does_pick_false rfl rfl rfl) ?_
        refine znt ?_
        refine cp_cond_true rfl ?_
        refine zsr ?_
        refine stepK_d rfl rfl rfl hst (does_build rfl zf30 rfl rfl) ?_
        refine stepK_store 0 rfl rfl rfl rfl rfl rfl zf31 rfl rfl hst rfl (by first | (simp [uN_length]; omega) | simp) ?_
        clear hst
        intro w13 hst
        simp only [zL, splice, Nat.reduceAdd] at hst
        refine zA rfl hst rfl ?_
        refine zn5 ?_
        refine ret2c (k := 0) rfl rfl (by kernel_rfl) (by kernel_rfl) rfl rfl hst rfl ?_
        first
        | (rw [hrn]; exact ⟨_, _, _, rfl, IsRat.zero _⟩)
        | (rw [hrs]; exact ⟨_, _, _, rfl, hr9⟩)
        | (have hrn : readR s = none := reject0 hcut (fun ho => by
             first
             | (have h9 := hpt.2 ho.ptop; simp_all; done)
             | (have h9 := hpb.2 ho.pbot; simp_all; done)
             | exact ho.nzero ⟨by assumption, by rw [show top = _ by assumption]; rfl⟩
             | exact ho.nb ⟨by assumption, .inl (by rw [show bottom = _ by assumption]; rfl)⟩
             | exact ho.nb ⟨by assumption, .inr (by rw [show bottom = _ by assumption]; rfl)⟩)
           rw [hrn]
           exact ⟨_, _, _, rfl, IsRat.zero _⟩)
        intro s61
        refine stepK_guard rfl rfl rfl rfl rfl rfl hst (does_move rfl rfl) ?_
        refine stepK_guard rfl rfl rfl rfl rfl rfl hst (does_eql_string rfl rfl rfl) ?_
        refine stepK_guard rfl rfl rfl rfl rfl rfl hst (does_pick_false rfl rfl rfl) ?_
        refine stepK_guard rfl rfl rfl rfl rfl rfl hst (does_pick_true rfl rfl rfl) ?_
        refine stepK_d rfl rfl rfl hst (does_pick_false rfl rfl rfl) ?_
        refine znt ?_
        refine cp_if rfl ?_ ?_
        intro c66
        refine zsr ?_
        refine stepK_d rfl rfl rfl hst (does_build rfl zf30 rfl rfl) ?_
        refine stepK_store 0 rfl rfl rfl rfl rfl rfl zf31 rfl rfl hst rfl (by first | (simp [uN_length]; omega) | simp) ?_
        clear hst
        intro w14 hst
        simp only [zL, splice, Nat.reduceAdd] at hst
        refine zA rfl hst rfl ?_
        refine zn5 ?_
        refine ret2c (k := 0) rfl rfl (by kernel_rfl) (by kernel_rfl) rfl rfl hst rfl ?_
        first
        | (rw [hrn]; exact ⟨_, _, _, rfl, IsRat.zero _⟩)
        | (rw [hrs]; exact ⟨_, _, _, rfl, hr9⟩)
        | (have hrn : readR s = none := reject0 hcut (fun ho => by
             first
             | (have h9 := hpt.2 ho.ptop; simp_all; done)
             | (have h9 := hpb.2 ho.pbot; simp_all; done)
             | exact ho.nzero ⟨by assumption, by rw [show top = _ by assumption]; rfl⟩
             | exact ho.nb ⟨by assumption, .inl (by rw [show bottom = _ by assumption]; rfl)⟩
             | exact ho.nb ⟨by assumption, .inr (by rw [show bottom = _ by assumption]; rfl)⟩)
           rw [hrn]
           exact ⟨_, _, _, rfl, IsRat.zero _⟩)
        intro c66
        refine cp_skip ?_
        refine join_end (()) ?_ ?_
        exact ⟨rfl, rfl, rfl, rfl, rfl, trivial⟩
        exact ⟨_, hst, ⟨hpt.1 (by simpa using s44), hpb.1 (by simpa using s49), by
          rintro ⟨e1, e2⟩
          first
          | exact absurd (Lb_ext (a := top) (b := ⟨#[48]⟩) e2) (by assumption)
          | (rw [s51] at e1; cases e1), by
          rintro ⟨e1, e2⟩
          first
          | (rw [s58] at e1; cases e1; done)
          | (rcases e2 with e2 | e2
             exact absurd (Lb_ext (a := bottom) (b := ⟨#[48]⟩) e2) (by assumption)
             exact absurd (Lb_ext (a := bottom) (b := ⟨#[49]⟩) e2) (by assumption))⟩⟩
        intro s58
        refine stepK_pass rfl rfl rfl rfl rfl rfl rfl ?_
        refine stepK_pass rfl rfl rfl rfl rfl rfl rfl ?_
        refine stepK_pass rfl rfl rfl rfl rfl rfl rfl ?_
        refine stepK_passU rfl rfl rfl rfl rfl rfl ?_
        refine stepK_passU rfl rfl rfl rfl rfl rfl ?_
        refine stepK_pass rfl rfl rfl rfl rfl rfl rfl ?_
        refine stepK_guard rfl rfl rfl rfl rfl rfl hst (does_pick_false rfl rfl rfl) ?_
        refine stepK_d rfl rfl rfl hst (does_pick_false rfl rfl rfl) ?_
        refine znt ?_
        refine cp_cond_false rfl ?_
        refine cp_skip ?_
        refine join_end (()) ?_ ?_
        exact ⟨rfl, rfl, rfl, rfl, rfl, trivial⟩
        exact ⟨_, hst, ⟨hpt.1 (by simpa using s44), hpb.1 (by simpa using s49), by
          rintro ⟨e1, e2⟩
          first
          | exact absurd (Lb_ext (a := top) (b := ⟨#[48]⟩) e2) (by assumption)
          | (rw [s51] at e1; cases e1), by
          rintro ⟨e1, e2⟩
          first
          | (rw [s58] at e1; cases e1; done)
          | (rcases e2 with e2 | e2
             exact absurd (Lb_ext (a := bottom) (b := ⟨#[48]⟩) e2) (by assumption)
             exact absurd (Lb_ext (a := bottom) (b := ⟨#[49]⟩) e2) (by assumption))⟩⟩
      case d5 =>
        clear hst
        rintro ⟨⟩ w4 ⟨g4, hst, hok⟩
        refine zsr ?_
        refine zM rfl hst rfl ?_
        refine stepK_call rfl rfl rfl rfl rfl hst (num_digits hst.agree hok.ptop.all (by omega)) ?_
        clear hst
        intro v15 g15 w15 hst hle15 hcs15 hp15
        obtain ⟨A1, n1, c1, rfl, hN⟩ := hp15
        refine zM rfl hst rfl ?_
        refine stepK_call rfl rfl rfl rfl rfl hst (num_digits hst.agree hok.pbot.all (by omega)) ?_
        clear hst
        intro v16 g16 w16 hst hle16 hcs16 hp16
        replace hN := hN.mono hle16
        obtain ⟨A2, n2, c2, rfl, hM⟩ := hp16
        rw [dval_all] at hN hM
        have l1 := hN.len (Nat.lt_of_lt_of_le (dval_fit hok.ptop.all) (ten_le _))
        have l2 := hM.len (Nat.lt_of_lt_of_le (dval_fit hok.pbot.all) (ten_le _))
        refine zA rfl hst rfl ?_
        refine zA rfl hst rfl ?_
        refine znq ?_
        refine zsr ?_
        refine zM rfl hst rfl ?_
        refine zM rfl hst rfl ?_
        refine wpK_splitb (t := 73) rfl ?_ ?_
        intro s73
        refine stepK_guard rfl rfl rfl rfl rfl rfl hst (does_move rfl rfl) ?_
        refine stepK_guard rfl rfl rfl rfl rfl rfl hst (does_move rfl rfl) ?_
        refine stepK_call_guard rfl rfl rfl rfl rfl rfl rfl rfl hst (num_divisor hst.agree hN hM (by omega) (by omega)) ?_
        clear hst
        intro v17 g17 w17 hst hle17 hcs17 hp17
        replace hN := hN.mono hle17
        replace hM := hM.mono hle17
        obtain ⟨A3, n3, c3, rfl, hG⟩ := hp17
        refine stepK_buildSlice_guard rfl rfl rfl rfl rfl rfl rfl zf1 zf2 rfl rfl (by decide) (by decide) (by decide) rfl rfl hst ?_
        clear hst
        intro b18 w18 hst
        obtain ⟨g18, hst, hle18, h1⟩ := hst.lit (x := 1) (by decide) (by decide)
        replace hN := hN.mono hle18
        replace hM := hM.mono hle18
        replace hG := hG.mono hle18
        have l3 := hG.len (k := n2) (by
          rcases Nat.eq_zero_or_pos (dvL (Lb bottom)) with h9 | h9
          exact absurd (plain_zero hok.pbot h9) (fun e => hok.nb ⟨s73, .inl e⟩)
          exact Nat.lt_of_le_of_lt (Nat.gcd_le_right _ h9) hM.lt)
        refine stepK_call_guard rfl rfl rfl rfl rfl rfl rfl rfl hst (num_compare hst.agree hG h1 (by omega)) ?_
        clear hst
        intro v19 g19 w19 hst hle19 hcs19 hp19
        replace hN := hN.mono hle19
        replace hM := hM.mono hle19
        replace hG := hG.mono hle19
        replace h1 := h1.mono hle19
        obtain rfl := hp19
        refine stepK_guard rfl rfl rfl rfl rfl rfl hst (does_neq rfl rfl rfl) ?_
        refine stepK_d rfl rfl rfl hst (does_pick_true rfl rfl rfl) ?_
        refine znt ?_
        refine cp_if rfl ?_ ?_
        intro c80
        have hrn : readR s = none := reject1 hcut ⟨s73, fun e => c80 (cmpN_zero.2 e)⟩
        refine zsr ?_
        refine stepK_d rfl rfl rfl hst (does_build rfl zf30 rfl rfl) ?_
        refine stepK_store 0 rfl rfl rfl rfl rfl rfl zf31 rfl rfl hst rfl (by first | (simp [uN_length]; omega) | simp) ?_
        clear hst
        intro w20 hst
        simp only [zL, splice, Nat.reduceAdd] at hst
        refine zA rfl hst rfl ?_
        refine zn5 ?_
        refine ret2c (k := 0) rfl rfl (by kernel_rfl) (by kernel_rfl) rfl rfl hst rfl ?_
        first
        | (rw [hrn]; exact ⟨_, _, _, rfl, IsRat.zero _⟩)
        | (rw [hrs]; exact ⟨_, _, _, rfl, hr9⟩)
        | (have hrn : readR s = none := reject0 hcut (fun ho => by
             first
             | (have h9 := hpt.2 ho.ptop; simp_all; done)
             | (have h9 := hpb.2 ho.pbot; simp_all; done)
             | exact ho.nzero ⟨by assumption, by rw [show top = _ by assumption]; rfl⟩
             | exact ho.nb ⟨by assumption, .inl (by rw [show bottom = _ by assumption]; rfl)⟩
             | exact ho.nb ⟨by assumption, .inr (by rw [show bottom = _ by assumption]; rfl)⟩)
           rw [hrn]
           exact ⟨_, _, _, rfl, IsRat.zero _⟩)
        intro c80
        refine zk4 ?_
        have hgc : found = true → Nat.gcd (dvL (Lb top)) (dvL (Lb bottom)) = 1 := by
          intro e
          first
          | exact cmpN_zero.1 (Decidable.byContradiction c80)
          | (rw [s73] at e; cases e)
        obtain ⟨hrs, hd0, hgc1⟩ := accept1 hcut hok hgc
        refine zM rfl hst rfl ?_
        refine zM rfl hst rfl ?_
        refine zM rfl hst rfl ?_
        refine stepK_call rfl rfl rfl rfl rfl hst (num_lowest hst.agree hN hM hd0 hgc1) ?_
        clear hst
        intro v21 g21 w21 hst hle21 hcs21 hp21
        replace hN := hN.mono hle21
        replace hM := hM.mono hle21
        replace hG := hG.mono hle21
        replace h1 := h1.mono hle21
        obtain ⟨p9, q9, a9, rfl, hr9⟩ := hp21
        refine stepK_store 0 rfl rfl rfl rfl rfl rfl zf31 rfl rfl hst rfl (by first | (simp [uN_length]; omega) | simp) ?_
        clear hst
        intro w22 hst
        simp only [zL, splice, Nat.reduceAdd] at hst
        refine zA rfl hst rfl ?_
        refine znt ?_
        refine cp_ret ?_
        refine ret2c (k := 0) rfl rfl (by kernel_rfl) (by kernel_rfl) rfl rfl hst rfl ?_
        first
        | (rw [hrn]; exact ⟨_, _, _, rfl, IsRat.zero _⟩)
        | (rw [hrs]; exact ⟨_, _, _, rfl, hr9⟩)
        | (have hrn : readR s = none := reject0 hcut (fun ho => by
             first
             | (have h9 := hpt.2 ho.ptop; simp_all; done)
             | (have h9 := hpb.2 ho.pbot; simp_all; done)
             | exact ho.nzero ⟨by assumption, by rw [show top = _ by assumption]; rfl⟩
             | exact ho.nb ⟨by assumption, .inl (by rw [show bottom = _ by assumption]; rfl)⟩
             | exact ho.nb ⟨by assumption, .inr (by rw [show bottom = _ by assumption]; rfl)⟩)
           rw [hrn]
           exact ⟨_, _, _, rfl, IsRat.zero _⟩)
        intro s73
        refine stepK_pass rfl rfl rfl rfl rfl rfl rfl ?_
        refine stepK_pass rfl rfl rfl rfl rfl rfl rfl ?_
        refine stepK_pass rfl rfl rfl rfl rfl rfl rfl ?_
        refine stepK_pass rfl rfl rfl rfl rfl rfl rfl ?_
        refine stepK_pass rfl rfl rfl rfl rfl rfl rfl ?_
        refine stepK_pass rfl rfl rfl rfl rfl rfl rfl ?_
        refine stepK_d rfl rfl rfl hst (does_pick_false rfl rfl rfl) ?_
        refine znt ?_
        refine cp_cond_false rfl ?_
        refine zk4 ?_
        have hgc : found = true → Nat.gcd (dvL (Lb top)) (dvL (Lb bottom)) = 1 := by
          intro e
          first
          | exact cmpN_zero.1 (Decidable.byContradiction c80)
          | (rw [s73] at e; cases e)
        obtain ⟨hrs, hd0, hgc1⟩ := accept1 hcut hok hgc
        refine zM rfl hst rfl ?_
        refine zM rfl hst rfl ?_
        refine zM rfl hst rfl ?_
        refine stepK_call rfl rfl rfl rfl rfl hst (num_lowest hst.agree hN hM hd0 hgc1) ?_
        clear hst
        intro v23 g23 w23 hst hle23 hcs23 hp23
        replace hN := hN.mono hle23
        replace hM := hM.mono hle23
        obtain ⟨p9, q9, a9, rfl, hr9⟩ := hp23
        refine stepK_store 0 rfl rfl rfl rfl rfl rfl zf31 rfl rfl hst rfl (by first | (simp [uN_length]; omega) | simp) ?_
        clear hst
        intro w24 hst
        simp only [zL, splice, Nat.reduceAdd] at hst
        refine zA rfl hst rfl ?_
        refine znt ?_
        refine cp_ret ?_
        refine ret2c (k := 0) rfl rfl (by kernel_rfl) (by kernel_rfl) rfl rfl hst rfl ?_
        first
        | (rw [hrn]; exact ⟨_, _, _, rfl, IsRat.zero _⟩)
        | (rw [hrs]; exact ⟨_, _, _, rfl, hr9⟩)
        | (have hrn : readR s = none := reject0 hcut (fun ho => by
             first
             | (have h9 := hpt.2 ho.ptop; simp_all; done)
             | (have h9 := hpb.2 ho.pbot; simp_all; done)
             | exact ho.nzero ⟨by assumption, by rw [show top = _ by assumption]; rfl⟩
             | exact ho.nb ⟨by assumption, .inl (by rw [show bottom = _ by assumption]; rfl)⟩
             | exact ho.nb ⟨by assumption, .inr (by rw [show bottom = _ by assumption]; rfl)⟩)
           rw [hrn]
           exact ⟨_, _, _, rfl, IsRat.zero _⟩)

end Go.Proofs.YtcjhnkmoloiepaaDoor

namespace Go.Proofs.YtcjhnkmoloiepaaDoor
open Go Go.RowKit Go.Proofs.Vc
set_option linter.unusedVariables false
set_option linter.unusedSimpArgs false

set_option maxHeartbeats 1000000 in
theorem trimLeftByte {g : Mem} {w : World} (hag : Agree g w) {s : ByteArray} {c : UInt8} (hs : s.size ≤ 1099511627776) :
    CallTo Tryd.prog 84 #[.string s, .int .u8 ((c.toNat : Nat) : Int)] w (Ret w g fun v g => v = .string ⟨((Lb s).dropWhile (· == c)).toArray⟩) := by
  refine CallTo.enter (vs := [.string s, .int .u8 ((c.toNat : Nat) : Int)]) zf55 (by kernel_rfl) rfl rfl rfl ?_
  have hst := St.init hag
  refine zsr ?_
  refine zA rfl hst rfl ?_
  refine znq ?_
  refine cp_block ?_
  refine cp_loop (ι := ByteArray × Nat) (fun (t, k) => [(0, .string t), (1, .int .u8 ((c.toNat : Nat) : Int))]) (fun (t, k) w1 => St w [] g g [] w1 ∧ t = s.extract k s.size ∧ k ≤ s.size ∧ (Lb t).dropWhile (· == c) = (Lb s).dropWhile (· == c)) (fun (t, k) => s.size - k) (s, 0) ?k1 ?i1 ?r1
  case k1 => exact ⟨rfl, rfl, trivial⟩
  case i1 =>
    exact ⟨hst, by rw [ByteArray.extract_zero_size], Nat.zero_le _, rfl⟩
  case r1 =>
    clear hst
    rintro ⟨t, k⟩ w1 ⟨hst, ht, hk, hd⟩
    have htl : t.size = s.size - k := by rw [ht, size_tail]
    refine cp_seq ?_
    refine zsr ?_
    refine zM rfl hst rfl ?_
    refine stepK_d rfl rfl rfl hst (does_len_string rfl (by kernel_rfl) rfl) ?_
    refine stepK_d rfl rfl rfl hst (does_gtr rfl rfl rfl) ?_
    refine zM rfl hst rfl ?_
    refine wpK_split (t := 8) rfl ?_ ?_
    intro s8
    refine stepK_guard rfl rfl rfl rfl rfl rfl hst (does_move rfl rfl) ?_
    refine stepK_guard rfl rfl rfl rfl rfl rfl hst (does_index_bt (j := 0) rfl (by kernel_rfl) rfl rfl (by omega) (by omega)) ?_
    refine stepK_guard rfl rfl rfl rfl rfl rfl hst (does_move rfl rfl) ?_
    refine stepK_guard rfl rfl rfl rfl rfl rfl hst (does_eql_n rfl rfl rfl) ?_
    refine stepK_d rfl rfl rfl hst (does_pick_true rfl rfl rfl) ?_
    refine znt ?_
    refine cp_if rfl ?_ ?_
    intro c13
    refine cp_skip ?_
    refine cp_then ?_
    refine cp_block ?_
    refine cp_region ?_
    refine zM rfl hst rfl ?_
    refine stepK_d rfl rfl rfl hst (does_slice_string (l := 1) (h := t.size) rfl (by kernel_rfl) rfl ⟨_, _, rfl, rfl⟩ rfl (by omega) (Nat.le_refl _)) ?_
    refine zA rfl hst rfl ?_
    refine wpK_nil ?_
    refine at_block_normal ?_
    refine round_end ((t.extract 1 t.size, k + 1)) ?_ ?_ ?_
    exact ⟨rfl, rfl, trivial⟩
    refine ⟨hst, by rw [ht, extract_tail], by omega, ?_⟩
    rw [← hd, Lb_cut1 (c := c) (by omega) c13]
    simp
    show s.size - (k + 1) < s.size - k
    omega
    intro c13
    refine cp_exit ?_
    refine at_then_exit ?_
    refine at_then_exit ?_
    refine cp_exit_here ?_
    refine cp_then ?_
    refine zsr ?_
    refine zM rfl hst rfl ?_
    refine zA rfl hst rfl ?_
    refine znt ?_
    refine cp_ret ?_
    refine ret1 rfl rfl hst ?_
    congr 1
    refine Lb_ext ?_
    rw [Lb_mk, ← hd]
    exact (dropWhile_stop (Lb_head_ne (fun _ => c13))).symm
    intro s8
    refine stepK_pass rfl rfl rfl rfl rfl rfl rfl ?_
    refine stepK_pass rfl rfl rfl rfl rfl rfl rfl ?_
    refine stepK_pass rfl rfl rfl rfl rfl rfl rfl ?_
    refine stepK_pass rfl rfl rfl rfl rfl rfl rfl ?_
    refine stepK_d rfl rfl rfl hst (does_pick_false rfl rfl rfl) ?_
    refine znt ?_
    refine cp_cond_false rfl ?_
    refine cp_exit ?_
    refine at_then_exit ?_
    refine at_then_exit ?_
    refine cp_exit_here ?_
    refine cp_then ?_
    refine zsr ?_
    refine zM rfl hst rfl ?_
    refine zA rfl hst rfl ?_
    refine znt ?_
    refine cp_ret ?_
    refine ret1 rfl rfl hst ?_
    congr 1
    refine Lb_ext ?_
    rw [Lb_mk, ← hd]
    exact (dropWhile_stop (Lb_head_ne (fun h => by omega))).symm

end Go.Proofs.YtcjhnkmoloiepaaDoor

namespace Go.Proofs.YtcjhnkmoloiepaaDoor
open Go Go.RowKit Go.Proofs.Vc
set_option linter.unusedVariables false
set_option linter.unusedSimpArgs false

set_option maxHeartbeats 1000000 in
theorem strings_TrimLeft {g : Mem} {w : World} (hag : Agree g w) {s : ByteArray} {c : UInt8} (hs : s.size ≤ 1099511627776) (hc : c.toNat < 128) :
    CallTo Tryd.prog 70 #[.string s, .string ⟨#[c]⟩] w (Ret w g fun v g => v = .string ⟨((Lb s).dropWhile (· == c)).toArray⟩) := by
  refine CallTo.enter (vs := [.string s, .string ⟨#[c]⟩]) zf56 (by kernel_rfl) rfl rfl rfl ?_
  have hst := St.init hag
  have hb0 : bt ⟨#[c]⟩ 0 = c.toNat := rfl
  have hs1 : (⟨#[c]⟩ : ByteArray).size = 1 := rfl
  refine zsr ?_
  refine zA rfl hst rfl ?_
  refine znq ?_
  refine zsr ?_
  refine zM rfl hst rfl ?_
  refine stepK_d rfl rfl rfl hst (does_eql_string rfl rfl rfl) ?_
  refine zM rfl hst rfl ?_
  refine wpK_split (t := 9) rfl ?_ ?_
  intro s9
  refine stepK_pass rfl rfl rfl rfl rfl rfl rfl ?_
  refine stepK_pass rfl rfl rfl rfl rfl rfl rfl ?_
  refine stepK_d rfl rfl rfl hst (does_pick_true rfl rfl rfl) ?_
  refine znt ?_
  refine cp_cond_true rfl ?_
  refine zsr ?_
  refine zM rfl hst rfl ?_
  refine zA rfl hst rfl ?_
  refine zn5 ?_
  refine ret1 rfl rfl hst ?_
  rw [s9]
  rfl
  intro s9
  refine stepK_guard rfl rfl rfl rfl rfl rfl hst (does_move rfl rfl) ?_
  refine stepK_guard rfl rfl rfl rfl rfl rfl hst (does_eql_string rfl rfl rfl) ?_
  refine stepK_d rfl rfl rfl hst (does_pick_false rfl rfl rfl) ?_
  refine znt ?_
  refine cp_if rfl ?_ ?_
  intro c12
  exact absurd (congrArg ByteArray.size c12) (by rw [hs1]; decide)
  intro c12
  refine cp_skip ?_
  refine cp_then ?_
  refine cp_seq ?_
  refine zsr ?_
  refine zM rfl hst rfl ?_
  refine stepK_d rfl rfl rfl hst (does_len_string rfl (by kernel_rfl) rfl) ?_
  refine stepK_d rfl rfl rfl hst (does_eql rfl rfl rfl) ?_
  refine zM rfl hst rfl ?_
  refine wpK_split (t := 17) rfl ?_ ?_
  intro s17
  refine stepK_guard rfl rfl rfl rfl rfl rfl hst (does_move rfl rfl) ?_
  refine stepK_guard rfl rfl rfl rfl rfl rfl hst (does_index_bt (j := 0) rfl (by kernel_rfl) rfl rfl (by omega) (by omega)) ?_
  refine stepK_guard rfl rfl rfl rfl rfl rfl hst (does_lss_n (b := 128) rfl rfl rfl) ?_
  refine stepK_d rfl rfl rfl hst (does_pick_true rfl rfl rfl) ?_
  refine znt ?_
  refine cp_if rfl ?_ ?_
  intro c21
  refine zsr ?_
  refine zM rfl hst rfl ?_
  refine zM rfl hst rfl ?_
  refine stepK_d rfl rfl rfl hst (Does.nat (b := c.toNat) (does_index_bt (j := 0) rfl (by kernel_rfl) rfl rfl rfl (by rw [hs1]; decide)) (by rw [hb0])) ?_
  refine stepK_call rfl rfl rfl rfl rfl hst (trimLeftByte hst.agree hs) ?_
  clear hst
  intro v1 g1 w1 hst hle1 hcs1 hp1
  obtain rfl := hp1
  refine zA rfl hst rfl ?_
  refine zn5 ?_
  refine ret1 rfl rfl hst ?_
  rfl
  intro c21
  omega
  intro s17
  exact absurd (show (((⟨#[c]⟩ : ByteArray).size : Nat) : Int) = 1 by rw [hs1]; rfl) s17

end Go.Proofs.YtcjhnkmoloiepaaDoor

namespace Go.Proofs.YtcjhnkmoloiepaaDoor
open Go Go.RowKit Go.Proofs.Vc
set_option linter.unusedVariables false
set_option linter.unusedSimpArgs false

set_option maxHeartbeats 1000000 in
theorem Builder_copyCheck {w : World} {b : Nat} {p : Option Addr} {v : Value} (hb : w.heap[b]? = some (.cells #[.pointer p, v] 99 (0, 0))) (hp : p = none ∨ p = some ⟨b, 0, none⟩) :
    CallTo Tryd.prog 88 #[.pointer (some ⟨b, 0, none⟩)] w (fun e w2 => e = .returned (.tuple #[]) ∧ w2.heap[b]? = some (.cells #[.pointer (some ⟨b, 0, none⟩), v] 99 (0, 0)) ∧ w.grownBy w2 (some b)) := by
  refine CallTo.enter (vs := [.pointer (some ⟨b, 0, none⟩)]) zf57 (by kernel_rfl) rfl rfl rfl ?_
  have hst := (rfl : AtW w w)
  have hsh : w.shape? b = some (99, 2) := by simp [World.shape?, hb]
  refine zsr ?_
  refine zM rfl hst rfl ?_
  refine stepK_d rfl rfl rfl hst (does_nilCheck rfl rfl) ?_
  refine stepK_d rfl rfl rfl hst (does_fieldAddr rfl zf58 rfl) ?_
  refine stepK_d rfl rfl rfl hst (does_load1 rfl (by kernel_rfl) rfl (fun _ h => AtW.cell h (cell_at (i := 0) hb rfl))) ?_
  refine stepK_d rfl rfl rfl hst (does_eql_nilD rfl zf59 rfl rfl) ?_
  refine znt ?_
  refine cp_if rfl ?_ ?_
  intro c6
  refine cp_region ?_
  refine zM rfl hst rfl ?_
  refine zM rfl hst rfl ?_
  obtain ⟨j, hj, hjs⟩ := Option.map_eq_some_iff.1 (show (Tryd.prog.info? 99).map (·.size) = some 2 by kernel_rfl)
  refine stepK_run (v := .pointer (some ⟨b, 0, none⟩)) (w' := w) rfl rfl rfl (fun ρ hρ => by
    have h1 := hρ (.tmp 8) _ rfl
    have h2 := Lib.run_to_unsafe (P := Tryd.prog) w ⟨b, 0, none⟩ zf59 zf60 hj (by rw [hjs]; decide) hsh (Nat.zero_lt_succ 1)
    simp [execOp, h1, h2]) ?_
  refine stepK_callR (R := fun e w2 => e = .returned (.pointer (some ⟨b, 0, none⟩)) ∧ w2 = w) rfl rfl rfl rfl rfl (.inr ⟨_, w, by
    rw [run_callFunc_extern zf61 (by kernel_rfl) (by kernel_rfl) (by kernel_rfl) (e := Extern.AbiNoEscape.same) (by kernel_rfl), Lib.run_noEscape]
    rfl, rfl, rfl⟩) ?_
  rintro e w2 ⟨rfl, rfl⟩
  refine ⟨_, rfl, ?_⟩
  refine stepK_run (v := .pointer (some ⟨b, 0, none⟩)) (w' := w2) rfl rfl rfl (fun ρ hρ => by
    have h1 := hρ (.tmp 10) _ rfl
    have h2 := Lib.run_from_unsafe (P := Tryd.prog) w2 ⟨b, 0, none⟩ zf60 zf59 hj hsh (by kernel_rfl)
    simp [execOp, h1, h2]) ?_
  refine stepK_d rfl rfl rfl hst (does_nilCheck rfl rfl) ?_
  refine stepK_d rfl rfl rfl hst (does_fieldAddr rfl zf58 rfl) ?_
  refine stepK_storeW rfl rfl rfl rfl rfl rfl (by kernel_rfl) rfl hb (by simp) ?_
  refine wpK_nil ?_
  -- the end of the body
  exact fun a ha => ⟨ha.defers, _, results_none rfl _ _ _, rfl, setRow_heap _ _ _ _ _ _ hb, grown_setRow _ _ _⟩
  intro c6
  obtain rfl : p = some ⟨b, 0, none⟩ := by
    rcases hp with hp | hp
    exact absurd hp c6
    exact hp
  refine zsr ?_
  refine zM rfl hst rfl ?_
  refine stepK_d rfl rfl rfl hst (does_nilCheck rfl rfl) ?_
  refine stepK_d rfl rfl rfl hst (does_fieldAddr rfl zf58 rfl) ?_
  refine stepK_d rfl rfl rfl hst (does_load1 rfl (by kernel_rfl) rfl (fun _ h => AtW.cell h (cell_at (i := 0) hb rfl))) ?_
  refine zM rfl hst rfl ?_
  refine stepK_d rfl rfl rfl hst (does_neq_self (te := 99) rfl (by kernel_rfl) (by kernel_rfl) rfl rfl) ?_
  refine znt ?_
  refine cp_cond_false rfl ?_
  refine cp_skip ?_
  -- the end of the body
  exact fun a ha => ⟨ha.defers, _, results_none rfl _ _ _, rfl, hb, rfl, rfl, rfl, Nat.le_refl _, fun _ _ _ => rfl⟩

set_option maxHeartbeats 1000000 in
theorem Builder_WriteString {w : World} {B b : Nat} {l : List UInt8} {s : ByteArray} (h : Lib.IsBuilder 99 5 B b (Lib.byteCells l) w) (hbw : B ≤ w.heap.size) (hls : l.length + s.size ≤ 140737488355328) :
    CallTo Tryd.prog 71 #[.pointer (some ⟨b, 0, none⟩), .string s] w (fun e w2 => (∃ r, e = .returned r) ∧ Lib.IsBuilder 99 5 B b (Lib.byteCells (l ++ Lb s)) w2 ∧ Below B w w2) := by
  refine CallTo.enter (vs := [.pointer (some ⟨b, 0, none⟩), .string s]) zf62 (by kernel_rfl) rfl rfl rfl ?_
  have hst := (rfl : AtW w w)
  obtain ⟨p, hp, hB, v, hb, hown, hne⟩ : ∃ p, (p = none ∨ p = some ⟨b, 0, none⟩) ∧ Lib.BuilderAt 99 5 B b (.pointer p) (Lib.byteCells l) w := by
    rcases h with h | h
    exact ⟨none, .inl rfl, h⟩
    exact ⟨some ⟨b, 0, none⟩, .inr rfl, h⟩
  rw [Lib.byteCells_length] at hown
  refine zsr ?_
  refine zA rfl hst rfl ?_
  refine zA rfl hst rfl ?_
  refine zn4 ?_
  refine zM rfl hst rfl ?_
  refine stepK_callR rfl rfl rfl rfl rfl (Builder_copyCheck hb hp) ?_
  rintro e w1 ⟨rfl, hb1, hg1⟩
  refine ⟨_, rfl, ?_⟩
  clear hst
  have hst := (rfl : AtW w1 w1)
  have hown1 := hown.kept hg1 (.inr hne)
  refine zn4 ?_
  refine zM rfl hst rfl ?_
  refine zM rfl hst rfl ?_
  refine stepK_d rfl rfl rfl hst (does_nilCheck rfl rfl) ?_
  refine stepK_d rfl rfl rfl hst (does_fieldAddr rfl zf63 rfl) ?_
  refine stepK_d rfl rfl rfl hst (does_load1 (v := v) rfl (by kernel_rfl) rfl (fun _ h => AtW.cell h (cell_at (i := 1) hb1 rfl))) ?_
  refine zM rfl hst rfl ?_
  obtain ⟨i, hi, hiz⟩ := Option.map_eq_some_iff.1 (show (Tryd.prog.info? 5).map (fun i => (i.zero, i.size, i.bytes)) = some (some (.int .u8 0), 1, 1) by kernel_rfl)
  have hi1 : i.zero = some (.int .u8 0) := congrArg (·.1) hiz
  have hi2 : i.size = 1 := congrArg (·.2.1) hiz
  have hi3 : i.bytes = 1 := congrArg (·.2.2) hiz
  obtain ⟨v2, w2, hr, hown2, hg2, _⟩ := Lib.run_append_own_string (P := Tryd.prog) w1 B 97 9 97 5 i (by kernel_rfl) (by kernel_rfl) hi hi1 hi2 hi3 v l.length _ hown1 s (by simp only [maxLen]; omega) hls (Nat.le_trans hbw hg1.size)
  refine stepK_run (v := v2) (w' := w2) rfl rfl rfl (fun ρ hρ => by
    have h1 := hρ (.tmp 12) _ rfl
    have h2 := hρ (.tmp 13) _ rfl
    simp only [execOp, resolve, invoke, builtin, Sem.run_bind, Sem.run_pure, Result.andThen_ok, List.map_toArray, List.map_cons, List.map_nil, h1, h2, hr]) ?_
  clear hst
  have hst := (rfl : AtW w2 w2)
  have hb2 : w2.heap[b]? = _ := (hg2.block b (by exact (Array.getElem?_eq_some_iff.1 hb1).1) hne.symm).trans hb1
  refine stepK_d rfl rfl rfl hst (does_nilCheck rfl rfl) ?_
  refine stepK_d rfl rfl rfl hst (does_fieldAddr rfl zf63 rfl) ?_
  obtain ⟨A9, c9, rfl⟩ : ∃ A9 c9, v2 = .slice A9 (l.length + s.size) c9 := by
    rcases hown2.2 with ⟨h8, h9⟩ | ⟨g9, cap, cur, h8, _⟩
    exact ⟨none, 0, by rw [h8, h9]⟩
    exact ⟨_, _, h8⟩
  refine stepK_storeW rfl rfl rfl rfl rfl rfl (by kernel_rfl) rfl hb2 (by simp) ?_
  clear hst
  have hst := (rfl : AtW (w2.setRow b (#[.pointer (some ⟨b, 0, none⟩), v].setIfInBounds (0 + 1) (.slice A9 (l.length + s.size) c9))) (w2.setRow b (#[.pointer (some ⟨b, 0, none⟩), v].setIfInBounds (0 + 1) (.slice A9 (l.length + s.size) c9))))
  refine zn4 ?_
  refine zM rfl hst rfl ?_
  refine stepK_d rfl rfl rfl hst (does_len_string rfl (by kernel_rfl) rfl) ?_
  refine zA rfl hst rfl ?_
  refine zA rfl hst rfl ?_
  refine znt ?_
  refine cp_ret ?_
  refine fun a ha => ⟨ha.defers, _, by rw [results_tmp2 rfl, ha.get _ _ rfl, ha.get _ _ rfl], ⟨_, rfl⟩, .inr ⟨hB, _, setRow_heap _ _ _ _ _ _ hb2, ?_, ?_⟩, ?_⟩
  rw [Lib.byteCells_length, List.length_append, Lb_length, Lib.byteCells_append]
  exact hown2.kept (grown_setRow _ _ _) (.inr (Lib.ownBlock_ne hown2 hb2 (by decide)))
  exact Lib.ownBlock_ne hown2 hb2 (by decide)
  refine ⟨hg2.os.trans hg1.os, hg2.tape.trans hg1.tape, hg2.output.trans hg1.output, Nat.le_trans hg1.size (Nat.le_trans hg2.size (by simp)), fun k hk => ?_⟩
  have hkl : k < w.heap.size := Nat.lt_of_lt_of_le hk hbw
  rw [setRow_other _ _ _ _ (by omega), hg2.block k (Nat.lt_of_lt_of_le hkl hg1.size) ?_, hg1.block k hkl (by intro e; cases e; omega)]
  intro e
  rcases hown1.2 with ⟨h8, h9⟩ | ⟨g9, cap, cur, h8, h9, _⟩
  rw [h8] at e; cases e
  rw [h8] at e; simp [Value.ownBlock] at e; omega

end Go.Proofs.YtcjhnkmoloiepaaDoor

namespace Go.Proofs
open Go.Shelf
def Tryd.lays169_ren : Go.Shelf.Ren := ⟨fun | 169 => 72 | n => n, fun | 70 => 96 | 9 => 9 | 0 => 0 | 72 => 99 | 37 => 97 | 127 => 123 | 3 => 3 | 5 => 5 | n => n, fun | n => n⟩
theorem Tryd.lays169 : Go.Proofs.Lays.n169 Tryd.prog Tryd.lays169_ren := {
  mixed := by kernel_rfl
  f169 := Tryd.func72.trans (congrArg some (by kernel_rfl))
  t0 := Tryd.underlying0
  a0 := Tryd.isAgg0
  z0 := Tryd.sizeOf0
  v0 := Tryd.zeroValue0
  t3 := Tryd.underlying3
  a3 := Tryd.isAgg3
  z3 := Tryd.sizeOf3
  v3 := Tryd.zeroValue3
  t9 := Tryd.underlying9
  a9 := Tryd.isAgg9
  z9 := Tryd.sizeOf9
  v9 := Tryd.zeroValue9
  t37 := Tryd.underlying97
  a37 := Tryd.isAgg97
  z37 := Tryd.sizeOf97
  v37 := Tryd.zeroValue97
  t70 := Tryd.underlying96
  a70 := Tryd.isAgg96
  z70 := Tryd.sizeOf96
  v70 := Tryd.zeroValue96
  t72 := Tryd.underlying99
  a72 := Tryd.isAgg99
  z72 := Tryd.sizeOf99
  v72 := Tryd.zeroValue99
  t127 := Tryd.underlying123
  a127 := Tryd.isAgg123
  z127 := Tryd.sizeOf123
  v127 := Tryd.zeroValue123 }
theorem Tryd.Builder_Extra_169 : Builder.Extra Tryd.prog Tryd.lays169_ren := {
  sizeBuilder := by kernel_rfl
  liesBuilder := by kernel_rfl
  t5 := Tryd.underlying5
  a5 := Tryd.isAgg5
  z5 := Tryd.sizeOf5
  v5 := Tryd.zeroValue5
  infoByte := by kernel_rfl
  cellsByte := by kernel_rfl
  sizeByte := by kernel_rfl
  neB5 := by decide }
open Go.RowKit in
/-- (*strings.Builder).String: "String returns the accumulated string.": OF A BUILDER THAT HOLDS AT LEAST ONE BYTE. ✋ THE MODEL FREEZES THOSE BYTES IN THE BUFFER (unsafe.String): a later write INTO them ends the model's run without an answer; a later append BEHIND them goes on. The statement's order of evaluation is drawn: one draw. (LAID: no walk: one application.) -/
theorem Tryd.Builder_String (B b : Nat) (l : List UInt8) (w : World) (h : Lib.IsBuilder 99 5 B b (Lib.byteCells l) w) (h0 : l ≠ []) :
    Calls Tryd.prog 72 #[.pointer (some ⟨b, 0, none⟩)] w fun e w' => e = .returned (.string ⟨l.toArray⟩) ∧ Below B w w' := Any.Builder_String Tryd.lays169 Tryd.Builder_Extra_169 B b l w h h0
open Go.RowKit in
/-- (*strings.Builder).String OF A BUILDER THAT HOLDS NO BYTE: the empty string. (Its buffer is nil, or a row of which it has taken nothing yet; where that row has NO capacity the model lays one new block for unsafe.SliceData's 'some address'.) One draw. (LAID: no walk: one application.) -/
theorem Tryd.Builder_String_empty (B b : Nat) (w : World) (h : Lib.IsBuilder 99 5 B b [] w) (hBw : B ≤ w.heap.size) :
    Calls Tryd.prog 72 #[.pointer (some ⟨b, 0, none⟩)] w fun e w' => e = .returned (.string ⟨#[]⟩) ∧ Below B w w' := Any.Builder_String_empty Tryd.lays169 Tryd.Builder_Extra_169 B b w h hBw
open Go.RowKit in
/-- (*strings.Builder).String: "String returns the accumulated string.": WHATEVER THE BUILDER HOLDS. (LAID: no walk: one application.) -/
theorem Tryd.Builder_String_any (B b : Nat) (l : List UInt8) (w : World) (h : Lib.IsBuilder 99 5 B b (Lib.byteCells l) w) (hBw : B ≤ w.heap.size) :
    Calls Tryd.prog 72 #[.pointer (some ⟨b, 0, none⟩)] w fun e w' => e = .returned (.string ⟨l.toArray⟩) ∧ Below B w w' := Any.Builder_String_any Tryd.lays169 Tryd.Builder_Extra_169 B b l w h hBw
def Tryd.lays231_ren : Go.Shelf.Ren := ⟨fun | 231 => 84 | n => n, fun | 9 => 9 | 5 => 5 | 3 => 3 | 4 => 4 | n => n, fun | n => n⟩
theorem Tryd.lays231 : Go.Proofs.Lays.n231 Tryd.prog Tryd.lays231_ren := {
  mixed := by kernel_rfl
  f231 := Tryd.func84.trans (congrArg some (by kernel_rfl))
  t3 := Tryd.underlying3
  a3 := Tryd.isAgg3
  z3 := Tryd.sizeOf3
  v3 := Tryd.zeroValue3
  t4 := Tryd.underlying4
  a4 := Tryd.isAgg4
  z4 := Tryd.sizeOf4
  v4 := Tryd.zeroValue4
  t5 := Tryd.underlying5
  a5 := Tryd.isAgg5
  z5 := Tryd.sizeOf5
  v5 := Tryd.zeroValue5
  t9 := Tryd.underlying9
  a9 := Tryd.isAgg9
  z9 := Tryd.sizeOf9
  v9 := Tryd.zeroValue9 }
open Go.RowKit in
/-- strings.trimLeftByte (no doc; what TrimLeft and Trim call at a cutset of one ASCII byte): the leading bytes that are c are cut off. The world is as it was. (LAID: no walk: one application.) -/
theorem Tryd.strings_trimLeftByte (s : ByteArray) (c : UInt8) (w : World) :
    Calls Tryd.prog 84 #[.string s, .int .u8 c.toNat] w fun e w' => e = .returned (.string ⟨(Lib.trimLeftB s.data.toList c).toArray⟩) ∧ w' = w := Any.strings_trimLeftByte Tryd.lays231 s c w
def Tryd.lays161_ren : Go.Shelf.Ren := ⟨fun | 161 => 70 | 231 => 84 | 227 => 85 | 233 => 86 | 235 => 87 | 228 => 94 | 197 => 95 | 151 => 96 | 260 => 100 | 152 => 101 | 137 => 102 | 119 => 103 | 224 => 104 | 225 => 105 | 217 => 106 | 266 => 107 | n => n, fun | 9 => 9 | 4 => 4 | 3 => 3 | 5 => 5 | 117 => 119 | 116 => 118 | 0 => 0 | 124 => 122 | 105 => 130 | 21 => 21 | 119 => 139 | 46 => 76 | 139 => 142 | 138 => 141 | n => n, fun | 3 => 5 | 4 => 6 | n => n⟩
theorem Tryd.lays161 : Go.Proofs.Lays.n161 Tryd.prog Tryd.lays161_ren := {
  mixed := by kernel_rfl
  f119 := Tryd.func103.trans (congrArg some (by kernel_rfl))
  f137 := Tryd.func102.trans (congrArg some (by kernel_rfl))
  f151 := Tryd.func96.trans (congrArg some (by kernel_rfl))
  f152 := Tryd.func101.trans (congrArg some (by kernel_rfl))
  f161 := Tryd.func70.trans (congrArg some (by kernel_rfl))
  f197 := Tryd.func95.trans (congrArg some (by kernel_rfl))
  f217 := Tryd.func106.trans (congrArg some (by kernel_rfl))
  f224 := Tryd.func104.trans (congrArg some (by kernel_rfl))
  f225 := Tryd.func105.trans (congrArg some (by kernel_rfl))
  f227 := Tryd.func85.trans (congrArg some (by kernel_rfl))
  f228 := Tryd.func94.trans (congrArg some (by kernel_rfl))
  f231 := Tryd.func84.trans (congrArg some (by kernel_rfl))
  f233 := Tryd.func86.trans (congrArg some (by kernel_rfl))
  f235 := Tryd.func87.trans (congrArg some (by kernel_rfl))
  f260 := Tryd.func100.trans (congrArg some (by kernel_rfl))
  f266 := Tryd.func107.trans (congrArg some (by kernel_rfl))
  t0 := Tryd.underlying0
  a0 := Tryd.isAgg0
  z0 := Tryd.sizeOf0
  v0 := Tryd.zeroValue0
  t3 := Tryd.underlying3
  a3 := Tryd.isAgg3
  z3 := Tryd.sizeOf3
  v3 := Tryd.zeroValue3
  t4 := Tryd.underlying4
  a4 := Tryd.isAgg4
  z4 := Tryd.sizeOf4
  v4 := Tryd.zeroValue4
  t5 := Tryd.underlying5
  a5 := Tryd.isAgg5
  z5 := Tryd.sizeOf5
  v5 := Tryd.zeroValue5
  t9 := Tryd.underlying9
  a9 := Tryd.isAgg9
  z9 := Tryd.sizeOf9
  v9 := Tryd.zeroValue9
  t21 := Tryd.underlying21
  a21 := Tryd.isAgg21
  z21 := Tryd.sizeOf21
  v21 := Tryd.zeroValue21
  t46 := Tryd.underlying76
  a46 := Tryd.isAgg76
  z46 := Tryd.sizeOf76
  v46 := Tryd.zeroValue76
  t105 := Tryd.underlying130
  a105 := Tryd.isAgg130
  z105 := Tryd.sizeOf130
  v105 := Tryd.zeroValue130
  t116 := Tryd.underlying118
  a116 := Tryd.isAgg118
  z116 := Tryd.sizeOf118
  t117 := Tryd.underlying119
  a117 := Tryd.isAgg119
  z117 := Tryd.sizeOf119
  v117 := Tryd.zeroValue119
  t119 := Tryd.underlying139
  a119 := Tryd.isAgg139
  z119 := Tryd.sizeOf139
  t124 := Tryd.underlying122
  a124 := Tryd.isAgg122
  z124 := Tryd.sizeOf122
  v124 := Tryd.zeroValue122
  t138 := Tryd.underlying141
  a138 := Tryd.isAgg141
  z138 := Tryd.sizeOf141
  v138 := Tryd.zeroValue141
  t139 := Tryd.underlying142
  a139 := Tryd.isAgg142
  z139 := Tryd.sizeOf142
  v139 := Tryd.zeroValue142
  g3 := by kernel_rfl
  g4 := by kernel_rfl }
open Go.RowKit in
/-- strings.TrimLeft: "TrimLeft returns a slice of the string s with all leading Unicode code points contained in cutset removed.": AT A cutset OF ONE ASCII BYTE. The world is as it was. (LAID: no walk: one application.) -/
theorem Tryd.strings_TrimLeft_one (s : ByteArray) (c : UInt8) (hc : c.toNat < 128) (w : World) :
    Calls Tryd.prog 70 #[.string s, .string ⟨#[c]⟩] w fun e w' => e = .returned (.string ⟨(Lib.trimLeftB s.data.toList c).toArray⟩) ∧ w' = w := Any.strings_TrimLeft_one Tryd.lays161 s c hc w
def Tryd.lays119_ren : Go.Shelf.Ren := ⟨fun | 119 => 103 | n => n, fun | 21 => 21 | 4 => 4 | n => n, fun | n => n⟩
theorem Tryd.lays119 : Go.Proofs.Lays.n119 Tryd.prog Tryd.lays119_ren := {
  mixed := by kernel_rfl
  f119 := Tryd.func103.trans (congrArg some (by kernel_rfl))
  t4 := Tryd.underlying4
  a4 := Tryd.isAgg4
  z4 := Tryd.sizeOf4
  v4 := Tryd.zeroValue4
  t21 := Tryd.underlying21
  a21 := Tryd.isAgg21
  z21 := Tryd.sizeOf21
  v21 := Tryd.zeroValue21 }
/-- utf8.ValidRune: "ValidRune reports whether r can be legally encoded as UTF-8. Code points that are out of range or a surrogate half are illegal.": IT RETURNS 'Lib.validRune r'; the world is as it was. (LAID: no walk: one application.) -/
theorem Tryd.utf8_ValidRune (r : Int) (w : World) :
    Calls Tryd.prog 103 #[.int .i32 r] w fun e w' => e = .returned (.bool (Lib.validRune r)) ∧ w' = w := Any.utf8_ValidRune Tryd.lays119 r w
def Tryd.lays134_ren : Go.Shelf.Ren := ⟨fun | 134 => 73 | 129 => 89 | n => n, fun | 53 => 51 | 3 => 3 | 4 => 4 | 46 => 76 | 5 => 5 | 9 => 9 | n => n, fun | n => n⟩
theorem Tryd.lays134 : Go.Proofs.Lays.n134 Tryd.prog Tryd.lays134_ren := {
  mixed := by kernel_rfl
  f129 := Tryd.func89.trans (congrArg some (by kernel_rfl))
  f134 := Tryd.func73.trans (congrArg some (by kernel_rfl))
  t3 := Tryd.underlying3
  a3 := Tryd.isAgg3
  z3 := Tryd.sizeOf3
  v3 := Tryd.zeroValue3
  t4 := Tryd.underlying4
  a4 := Tryd.isAgg4
  z4 := Tryd.sizeOf4
  v4 := Tryd.zeroValue4
  t5 := Tryd.underlying5
  a5 := Tryd.isAgg5
  z5 := Tryd.sizeOf5
  v5 := Tryd.zeroValue5
  t9 := Tryd.underlying9
  a9 := Tryd.isAgg9
  z9 := Tryd.sizeOf9
  v9 := Tryd.zeroValue9
  t46 := Tryd.underlying76
  a46 := Tryd.isAgg76
  z46 := Tryd.sizeOf76
  v46 := Tryd.zeroValue76
  t53 := Tryd.underlying51
  a53 := Tryd.isAgg51
  z53 := Tryd.sizeOf51
  v53 := Tryd.zeroValue51 }
/-- bits.LeadingZeros64: "LeadingZeros64 returns the number of leading zero bits in x; the result is 64 for x == 0.": IT RETURNS '64 - Lib.bitLen x'; the world is as it was. ITS CALLEE bits.Len64 IS MET BY ITS OWN CONTRACT OFF THE SHELF (lay that first): entered in place it sends the kernel out of memory. (LAID: no walk: one application.) -/
theorem Tryd.bits_LeadingZeros64 (x : Int) (w : World) (h0 : 0 ≤ x) (h1 : x ≤ 18446744073709551615) :
    Calls Tryd.prog 73 #[.int .u64 x] w fun e w' => e = .returned (.int .i64 (64 - (Lib.bitLen x.toNat : Int))) ∧ w' = w := Any.bits_LeadingZeros64 Tryd.lays134 x w h0 h1
def Tryd.lays137_ren : Go.Shelf.Ren := ⟨fun | 137 => 102 | 217 => 106 | 266 => 107 | n => n, fun | 9 => 9 | 5 => 5 | 3 => 3 | n => n, fun | n => n⟩
theorem Tryd.lays137 : Go.Proofs.Lays.n137 Tryd.prog Tryd.lays137_ren := {
  mixed := by kernel_rfl
  f137 := Tryd.func102.trans (congrArg some (by kernel_rfl))
  f217 := Tryd.func106.trans (congrArg some (by kernel_rfl))
  f266 := Tryd.func107.trans (congrArg some (by kernel_rfl))
  t3 := Tryd.underlying3
  a3 := Tryd.isAgg3
  z3 := Tryd.sizeOf3
  v3 := Tryd.zeroValue3
  t5 := Tryd.underlying5
  a5 := Tryd.isAgg5
  z5 := Tryd.sizeOf5
  v5 := Tryd.zeroValue5
  t9 := Tryd.underlying9
  a9 := Tryd.isAgg9
  z9 := Tryd.sizeOf9
  v9 := Tryd.zeroValue9 }
open Go.RowKit in
/-- strings.IndexByte: "IndexByte returns the index of the first instance of c in s, or -1 if c is not present in s.": IT RETURNS 'Lib.indexByte s c'; the world is as it was. (LAID: no walk: one application.) -/
theorem Tryd.strings_IndexByte (s : ByteArray) (c : Int) (w : World) :
    Calls Tryd.prog 102 #[.string s, .int .u8 c] w fun e w' => e = .returned (.int .i64 (Lib.indexByte s.data.toList c.toNat.toUInt8)) ∧ w' = w := Any.strings_IndexByte Tryd.lays137 s c w
open Go.RowKit in
/-- (*strings.Builder).String: "String returns the accumulated string.": OF A BUILDER THAT HOLDS AT LEAST ONE BYTE. ✋ THE MODEL FREEZES THOSE BYTES IN THE BUFFER (unsafe.String): a later write INTO them ends the model's run without an answer; a later append BEHIND them goes on. The statement's order of evaluation is drawn: one draw. THE FORM '_f': IT SAYS BESIDES THAT THE BUILDER IS A BUILDER STILL ('Lib.IsBuilderF', the same bytes): SO IT CAN BE WRITTEN ON: 'b.WriteString(b.String()[:k])'. (LAID: no walk: one application.) -/
theorem Tryd.Builder_String_f (B b : Nat) (l : List UInt8) (w : World) (h : Lib.IsBuilderF 99 5 B b (Lib.byteCells l) w) (h0 : l ≠ []) :
    Calls Tryd.prog 72 #[.pointer (some ⟨b, 0, none⟩)] w fun e w' => e = .returned (.string ⟨l.toArray⟩) ∧ (Lib.IsBuilderF 99 5 B b (Lib.byteCells l) w' ∧ Below B w w') := Any.Builder_String_f Tryd.lays169 Tryd.Builder_Extra_169 B b l w h h0
open Go.RowKit in
/-- (*strings.Builder).String OF A BUILDER THAT HOLDS NO BYTE: the empty string; THE FORM '_f': a builder still. (LAID: no walk: one application.) -/
theorem Tryd.Builder_String_empty_f (B b : Nat) (w : World) (h : Lib.IsBuilderF 99 5 B b [] w) (hBw : B ≤ w.heap.size) :
    Calls Tryd.prog 72 #[.pointer (some ⟨b, 0, none⟩)] w fun e w' => e = .returned (.string ⟨#[]⟩) ∧ (Lib.IsBuilderF 99 5 B b [] w' ∧ Below B w w') := Any.Builder_String_empty_f Tryd.lays169 Tryd.Builder_Extra_169 B b w h hBw
open Go.RowKit in
/-- (*strings.Builder).String: "String returns the accumulated string.": WHATEVER THE BUILDER HOLDS; THE FORM '_f': OF A BUILDER THAT MAY HAVE BEEN READ BEFORE; AND IT IS A BUILDER STILL, holding the same bytes: it can be written on. (LAID: no walk: one application.) -/
theorem Tryd.Builder_String_any_f (B b : Nat) (l : List UInt8) (w : World) (h : Lib.IsBuilderF 99 5 B b (Lib.byteCells l) w) (hBw : B ≤ w.heap.size) :
    Calls Tryd.prog 72 #[.pointer (some ⟨b, 0, none⟩)] w fun e w' => e = .returned (.string ⟨l.toArray⟩) ∧ (Lib.IsBuilderF 99 5 B b (Lib.byteCells l) w' ∧ Below B w w') := Any.Builder_String_any_f Tryd.lays169 Tryd.Builder_Extra_169 B b l w h hBw
open Go.RowKit in
/-- (*strings.Builder).String: "String returns the accumulated string.": OF A BUILDER THAT HOLDS AT LEAST ONE BYTE. ✋ THE MODEL FREEZES THOSE BYTES IN THE BUFFER (unsafe.String): a later write INTO them ends the model's run without an answer; a later append BEHIND them goes on. The statement's order of evaluation is drawn: one draw. THE FORM '_k': OVER 'Lib.IsBuilderF' (a builder that 'String()' may have read), AND WITH THE FRAME THAT REACHES ABOVE THE BUILDER: 'Lib.OthersKept': every block that is not b and is no row of uint8's stands as it stood: the iterator of a range among them. (LAID: no walk: one application.) -/
theorem Tryd.Builder_String_k (B b : Nat) (l : List UInt8) (w : World) (h : Lib.IsBuilderF 99 5 B b (Lib.byteCells l) w) (h0 : l ≠ []) :
    Calls Tryd.prog 72 #[.pointer (some ⟨b, 0, none⟩)] w fun e w' => e = .returned (.string ⟨l.toArray⟩) ∧ (Lib.IsBuilderF 99 5 B b (Lib.byteCells l) w' ∧ Below B w w' ∧ Lib.OthersKept 5 (some b) w w') := Any.Builder_String_k Tryd.lays169 Tryd.Builder_Extra_169 B b l w h h0
open Go.RowKit in
/-- (*strings.Builder).String OF A BUILDER THAT HOLDS NO BYTE: the empty string; THE FORM '_k': OVER 'Lib.IsBuilderF' (a builder that 'String()' may have read), AND WITH THE FRAME THAT REACHES ABOVE THE BUILDER: 'Lib.OthersKept': every block that is not b and is no row of uint8's stands as it stood: the iterator of a range among them. (LAID: no walk: one application.) -/
theorem Tryd.Builder_String_empty_k (B b : Nat) (w : World) (h : Lib.IsBuilderF 99 5 B b [] w) (hBw : B ≤ w.heap.size) :
    Calls Tryd.prog 72 #[.pointer (some ⟨b, 0, none⟩)] w fun e w' => e = .returned (.string ⟨#[]⟩) ∧ (Lib.IsBuilderF 99 5 B b [] w' ∧ Below B w w' ∧ Lib.OthersKept 5 (some b) w w') := Any.Builder_String_empty_k Tryd.lays169 Tryd.Builder_Extra_169 B b w h hBw
open Go.RowKit in
/-- (*strings.Builder).String: "String returns the accumulated string.": WHATEVER THE BUILDER HOLDS; THE FORM '_k': OVER 'Lib.IsBuilderF' (a builder that 'String()' may have read), AND WITH THE FRAME THAT REACHES ABOVE THE BUILDER: 'Lib.OthersKept': every block that is not b and is no row of uint8's stands as it stood: the iterator of a range among them. (LAID: no walk: one application.) -/
theorem Tryd.Builder_String_any_k (B b : Nat) (l : List UInt8) (w : World) (h : Lib.IsBuilderF 99 5 B b (Lib.byteCells l) w) (hBw : B ≤ w.heap.size) :
    Calls Tryd.prog 72 #[.pointer (some ⟨b, 0, none⟩)] w fun e w' => e = .returned (.string ⟨l.toArray⟩) ∧ (Lib.IsBuilderF 99 5 B b (Lib.byteCells l) w' ∧ Below B w w' ∧ Lib.OthersKept 5 (some b) w w') := Any.Builder_String_any_k Tryd.lays169 Tryd.Builder_Extra_169 B b l w h hBw
def Tryd.lays129_ren : Go.Shelf.Ren := ⟨fun | 129 => 89 | n => n, fun | 53 => 51 | 3 => 3 | 4 => 4 | 46 => 76 | 5 => 5 | 9 => 9 | n => n, fun | n => n⟩
theorem Tryd.lays129 : Go.Proofs.Lays.n129 Tryd.prog Tryd.lays129_ren := {
  mixed := by kernel_rfl
  f129 := Tryd.func89.trans (congrArg some (by kernel_rfl))
  t3 := Tryd.underlying3
  a3 := Tryd.isAgg3
  z3 := Tryd.sizeOf3
  v3 := Tryd.zeroValue3
  t4 := Tryd.underlying4
  a4 := Tryd.isAgg4
  z4 := Tryd.sizeOf4
  v4 := Tryd.zeroValue4
  t5 := Tryd.underlying5
  a5 := Tryd.isAgg5
  z5 := Tryd.sizeOf5
  v5 := Tryd.zeroValue5
  t9 := Tryd.underlying9
  a9 := Tryd.isAgg9
  z9 := Tryd.sizeOf9
  v9 := Tryd.zeroValue9
  t46 := Tryd.underlying76
  a46 := Tryd.isAgg76
  z46 := Tryd.sizeOf76
  v46 := Tryd.zeroValue76
  t53 := Tryd.underlying51
  a53 := Tryd.isAgg51
  z53 := Tryd.sizeOf51
  v53 := Tryd.zeroValue51 }
/-- bits.Len64: "Len64 returns the minimum number of bits required to represent x; the result is 0 for x == 0.": IT RETURNS 'Lib.bitLen x'; the world is as it was. ('h0', 'h1': x is a uint64.) (LAID: no walk: one application.) -/
theorem Tryd.bits_Len64 (x : Int) (w : World) (h0 : 0 ≤ x) (h1 : x ≤ 18446744073709551615) :
    Calls Tryd.prog 89 #[.int .u64 x] w fun e w' => e = .returned (.int .i64 (Lib.bitLen x.toNat)) ∧ w' = w := Any.bits_Len64 Tryd.lays129 x w h0 h1
def Tryd.lays317_ren : Go.Shelf.Ren := ⟨fun | 317 => 90 | n => n, fun | 3 => 3 | 46 => 76 | n => n, fun | n => n⟩
theorem Tryd.lays317 : Go.Proofs.Lays.n317 Tryd.prog Tryd.lays317_ren := {
  mixed := by kernel_rfl
  f317 := Tryd.func90.trans (congrArg some (by kernel_rfl))
  t3 := Tryd.underlying3
  a3 := Tryd.isAgg3
  z3 := Tryd.sizeOf3
  v3 := Tryd.zeroValue3
  t46 := Tryd.underlying76
  a46 := Tryd.isAgg76
  z46 := Tryd.sizeOf76
  v46 := Tryd.zeroValue76 }
open Go.Lib in
/-- internal/strconv.log10Pow2: "log10Pow2(x) returns ⌊log₁₀ 2**x⌋ = ⌊x * log₁₀ 2⌋.": '(x * 78913) >> 18', at an x up to 64 (a length in bits). The world is as it was. (LAID: no walk: one application.) -/
theorem Tryd.internal_strconv_log10Pow2 (x : Nat) (h : x ≤ 64) (w : World) :
    Calls Tryd.prog 90 #[.int .i64 x] w fun e w' => e = .returned (.int .i64 (Lib.l10 x)) ∧ w' = w := Any.internal_strconv_log10Pow2 Tryd.lays317 x h w
def Tryd.lays318_ren : Go.Shelf.Ren := ⟨fun | 318 => 91 | n => n, fun | 3 => 3 | 4 => 4 | n => n, fun | n => n⟩
theorem Tryd.lays318 : Go.Proofs.Lays.n318 Tryd.prog Tryd.lays318_ren := {
  mixed := by kernel_rfl
  f318 := Tryd.func91.trans (congrArg some (by kernel_rfl))
  t3 := Tryd.underlying3
  a3 := Tryd.isAgg3
  z3 := Tryd.sizeOf3
  v3 := Tryd.zeroValue3
  t4 := Tryd.underlying4
  a4 := Tryd.isAgg4
  z4 := Tryd.sizeOf4
  v4 := Tryd.zeroValue4 }
open Go.Lib in
/-- internal/strconv.bool2: "bool2 converts b to an integer: 1 for true, 0 for false." The world is as it was. (LAID: no walk: one application.) -/
theorem Tryd.internal_strconv_bool2_int (b : Bool) (w : World) :
    Calls Tryd.prog 91 #[.bool b] w fun e w' => e = .returned (.int .i64 (if b then 1 else 0)) ∧ w' = w := Any.internal_strconv_bool2_int Tryd.lays318 b w
def Tryd.lays283_ren : Go.Shelf.Ren := ⟨fun | 283 => 79 | n => n, fun | 3 => 3 | 9 => 9 | 4 => 4 | n => n, fun | n => n⟩
theorem Tryd.lays283 : Go.Proofs.Lays.n283 Tryd.prog Tryd.lays283_ren := {
  mixed := by kernel_rfl
  f283 := Tryd.func79.trans (congrArg some (by kernel_rfl))
  t3 := Tryd.underlying3
  a3 := Tryd.isAgg3
  z3 := Tryd.sizeOf3
  v3 := Tryd.zeroValue3
  t4 := Tryd.underlying4
  a4 := Tryd.isAgg4
  z4 := Tryd.sizeOf4
  v4 := Tryd.zeroValue4
  t9 := Tryd.underlying9
  a9 := Tryd.isAgg9
  z9 := Tryd.sizeOf9
  v9 := Tryd.zeroValue9 }
open Go.Lib in
/-- internal/strconv.small: "small returns the string for an i with 0 <= i < nSmalls.": i's decimal numeral. The world is as it was. (LAID: no walk: one application.) -/
theorem Tryd.internal_strconv_small (i : Nat) (h : i < 100) (w : World) :
    Calls Tryd.prog 79 #[.int .i64 i] w fun e w' => e = .returned (.string ⟨(Lib.decDigits i).toArray⟩) ∧ w' = w := Any.internal_strconv_small Tryd.lays283 i h w
def Tryd.laysM284_ren : Go.Shelf.Ren := ⟨fun | 284 => 80 | 129 => 89 | 317 => 90 | 318 => 91 | n => n, fun | 53 => 51 | 3 => 3 | 212 => 125 | 0 => 0 | 4 => 4 | 46 => 76 | 5 => 5 | 9 => 9 | n => n, fun | 17 => 0 | n => n⟩
theorem Tryd.laysM284 : Go.Proofs.LaysM.n284 Tryd.prog Tryd.laysM284_ren := {
  mixed := by kernel_rfl
  f129 := Tryd.func89.trans (congrArg some (by kernel_rfl))
  f284 := Tryd.func80.trans (congrArg some (by kernel_rfl))
  f317 := Tryd.func90.trans (congrArg some (by kernel_rfl))
  f318 := Tryd.func91.trans (congrArg some (by kernel_rfl))
  t0 := Tryd.underlying0
  a0 := Tryd.isAgg0
  z0 := Tryd.sizeOf0
  v0 := Tryd.zeroValue0
  t3 := Tryd.underlying3
  a3 := Tryd.isAgg3
  z3 := Tryd.sizeOf3
  v3 := Tryd.zeroValue3
  t4 := Tryd.underlying4
  a4 := Tryd.isAgg4
  z4 := Tryd.sizeOf4
  v4 := Tryd.zeroValue4
  t5 := Tryd.underlying5
  a5 := Tryd.isAgg5
  z5 := Tryd.sizeOf5
  v5 := Tryd.zeroValue5
  t9 := Tryd.underlying9
  a9 := Tryd.isAgg9
  z9 := Tryd.sizeOf9
  v9 := Tryd.zeroValue9
  t46 := Tryd.underlying76
  a46 := Tryd.isAgg76
  z46 := Tryd.sizeOf76
  v46 := Tryd.zeroValue76
  t53 := Tryd.underlying51
  a53 := Tryd.isAgg51
  z53 := Tryd.sizeOf51
  v53 := Tryd.zeroValue51
  t212 := Tryd.underlying125
  a212 := Tryd.isAgg125
  z212 := Tryd.sizeOf125
  v212 := Tryd.zeroValue125
  g17 := by kernel_rfl
  i0 := by kernel_rfl
  i3 := by kernel_rfl
  i4 := by kernel_rfl
  i5 := by kernel_rfl
  i9 := by kernel_rfl
  i46 := by kernel_rfl
  i53 := by kernel_rfl
  i212 := by kernel_rfl
  m17 := by kernel_rfl }
open Go.Lib in
/-- internal/strconv.numDigits, at a d that is not 0: THE NUMBER OF d's DECIMAL DIGITS. The world is as it was. (LAID: no walk: one application.) -/
theorem Tryd.internal_strconv_numDigits (u : Nat) (h1 : 1 ≤ u) (h2 : u < 18446744073709551616) (w : World) (htab : Lib.TabIs Tryd.prog w "internal/strconv.uint64pow10" .u64 Lib.pow10Tab) :
    Calls Tryd.prog 80 #[.int .u64 u] w fun e w' => e = .returned (.int .i64 (Lib.nDigits u)) ∧ w' = w := Any.internal_strconv_numDigits Tryd.laysM284 u h1 h2 w htab
def Tryd.lays285_ren : Go.Shelf.Ren := ⟨fun | 285 => 81 | n => n, fun | 37 => 97 | 53 => 51 | 3 => 3 | 4 => 4 | 51 => 126 | 9 => 9 | 5 => 5 | 0 => 0 | n => n, fun | n => n⟩
theorem Tryd.lays285 : Go.Proofs.Lays.n285 Tryd.prog Tryd.lays285_ren := {
  mixed := by kernel_rfl
  f285 := Tryd.func81.trans (congrArg some (by kernel_rfl))
  t0 := Tryd.underlying0
  a0 := Tryd.isAgg0
  z0 := Tryd.sizeOf0
  v0 := Tryd.zeroValue0
  t3 := Tryd.underlying3
  a3 := Tryd.isAgg3
  z3 := Tryd.sizeOf3
  v3 := Tryd.zeroValue3
  t4 := Tryd.underlying4
  a4 := Tryd.isAgg4
  z4 := Tryd.sizeOf4
  v4 := Tryd.zeroValue4
  t5 := Tryd.underlying5
  a5 := Tryd.isAgg5
  z5 := Tryd.sizeOf5
  v5 := Tryd.zeroValue5
  t9 := Tryd.underlying9
  a9 := Tryd.isAgg9
  z9 := Tryd.sizeOf9
  v9 := Tryd.zeroValue9
  t37 := Tryd.underlying97
  a37 := Tryd.isAgg97
  z37 := Tryd.sizeOf97
  v37 := Tryd.zeroValue97
  t51 := Tryd.underlying126
  a51 := Tryd.isAgg126
  z51 := Tryd.sizeOf126
  v51 := Tryd.zeroValue126
  t53 := Tryd.underlying51
  a53 := Tryd.isAgg51
  z53 := Tryd.sizeOf51
  v53 := Tryd.zeroValue51 }
open Go.RowKit Go.Sort Go.Lib in
/-- internal/strconv.formatBase10: "formatBase10 formats the decimal representation of u into a. The caller is responsible for ensuring that a is big enough to hold u. If a is too big, leading zeros will be filled in as needed.": THE ROW HOLDS u's DIGITS ('FmtInv .. 0 ..': every place t holds 'dg u (len - 1 - t)'); all else is as it was but for the count of draws. (LAID: no walk: one application.) -/
theorem Tryd.internal_strconv_formatBase10 (blk off cap : Nat) (u : Nat) (d : Array UInt8) (w : World) (hH : Holds (fun (b : UInt8) => Value.int .u8 (b.toNat : Int)) w blk off d) (hu : u < 10 ^ d.size) (hu64 : u < 18446744073709551616) (hsz : d.size < 4611686018427387904) :
    Calls Tryd.prog 81 #[.slice (some ⟨blk, off, none⟩) d.size cap, .int .u64 u] w fun e w' =>
      e = .returned (.tuple #[]) ∧ ∃ (n v' : Nat) (dk : Array UInt8), w' = (putRow (fun (b : UInt8) => Value.int .u8 (b.toNat : Int)) w blk off dk).drewN n ∧ FmtInv d.size u 0 v' dk := Any.internal_strconv_formatBase10 Tryd.lays285 blk off cap u d w hH hu hu64 hsz
def Tryd.laysM246_ren : Go.Shelf.Ren := ⟨fun | 246 => 68 | 283 => 79 | 284 => 80 | 285 => 81 | 286 => 82 | 129 => 89 | 317 => 90 | 318 => 91 | 319 => 92 | 320 => 93 | 337 => 98 | 338 => 99 | n => n, fun | 2 => 2 | 3 => 3 | 9 => 9 | 4 => 4 | 171 => 112 | 0 => 0 | 53 => 51 | 37 => 97 | 5 => 5 | 173 => 114 | 212 => 125 | 51 => 126 | 20 => 20 | 213 => 127 | 46 => 76 | 232 => 137 | 233 => 138 | n => n, fun | 17 => 0 | 18 => 3 | 19 => 4 | n => n⟩
theorem Tryd.laysM246 : Go.Proofs.LaysM.n246 Tryd.prog Tryd.laysM246_ren := {
  mixed := by kernel_rfl
  f129 := Tryd.func89.trans (congrArg some (by kernel_rfl))
  f246 := Tryd.func68.trans (congrArg some (by kernel_rfl))
  f283 := Tryd.func79.trans (congrArg some (by kernel_rfl))
  f284 := Tryd.func80.trans (congrArg some (by kernel_rfl))
  f285 := Tryd.func81.trans (congrArg some (by kernel_rfl))
  f286 := Tryd.func82.trans (congrArg some (by kernel_rfl))
  f317 := Tryd.func90.trans (congrArg some (by kernel_rfl))
  f318 := Tryd.func91.trans (congrArg some (by kernel_rfl))
  f319 := Tryd.func92.trans (congrArg some (by kernel_rfl))
  f320 := Tryd.func93.trans (congrArg some (by kernel_rfl))
  f337 := Tryd.func98.trans (congrArg some (by kernel_rfl))
  f338 := Tryd.func99.trans (congrArg some (by kernel_rfl))
  t0 := Tryd.underlying0
  a0 := Tryd.isAgg0
  z0 := Tryd.sizeOf0
  v0 := Tryd.zeroValue0
  t2 := Tryd.underlying2
  a2 := Tryd.isAgg2
  z2 := Tryd.sizeOf2
  v2 := Tryd.zeroValue2
  t3 := Tryd.underlying3
  a3 := Tryd.isAgg3
  z3 := Tryd.sizeOf3
  v3 := Tryd.zeroValue3
  t4 := Tryd.underlying4
  a4 := Tryd.isAgg4
  z4 := Tryd.sizeOf4
  v4 := Tryd.zeroValue4
  t5 := Tryd.underlying5
  a5 := Tryd.isAgg5
  z5 := Tryd.sizeOf5
  v5 := Tryd.zeroValue5
  t9 := Tryd.underlying9
  a9 := Tryd.isAgg9
  z9 := Tryd.sizeOf9
  v9 := Tryd.zeroValue9
  t20 := Tryd.underlying20
  a20 := Tryd.isAgg20
  z20 := Tryd.sizeOf20
  v20 := Tryd.zeroValue20
  t37 := Tryd.underlying97
  a37 := Tryd.isAgg97
  z37 := Tryd.sizeOf97
  v37 := Tryd.zeroValue97
  t46 := Tryd.underlying76
  a46 := Tryd.isAgg76
  z46 := Tryd.sizeOf76
  v46 := Tryd.zeroValue76
  t51 := Tryd.underlying126
  a51 := Tryd.isAgg126
  z51 := Tryd.sizeOf126
  v51 := Tryd.zeroValue126
  t53 := Tryd.underlying51
  a53 := Tryd.isAgg51
  z53 := Tryd.sizeOf51
  v53 := Tryd.zeroValue51
  t171 := Tryd.underlying112
  a171 := Tryd.isAgg112
  z171 := Tryd.sizeOf112
  v171 := Tryd.zeroValue112
  t173 := Tryd.underlying114
  a173 := Tryd.isAgg114
  z173 := Tryd.sizeOf114
  v173 := Tryd.zeroValue114
  t212 := Tryd.underlying125
  a212 := Tryd.isAgg125
  z212 := Tryd.sizeOf125
  v212 := Tryd.zeroValue125
  t213 := Tryd.underlying127
  a213 := Tryd.isAgg127
  z213 := Tryd.sizeOf127
  t232 := Tryd.underlying137
  a232 := Tryd.isAgg137
  z232 := Tryd.sizeOf137
  v232 := Tryd.zeroValue137
  t233 := Tryd.underlying138
  a233 := Tryd.isAgg138
  z233 := Tryd.sizeOf138
  v233 := Tryd.zeroValue138
  g17 := by kernel_rfl
  g18 := by kernel_rfl
  g19 := by kernel_rfl
  i0 := by kernel_rfl
  i2 := by kernel_rfl
  i3 := by kernel_rfl
  i4 := by kernel_rfl
  i5 := by kernel_rfl
  i9 := by kernel_rfl
  i20 := by kernel_rfl
  i37 := by kernel_rfl
  i46 := by kernel_rfl
  i51 := by kernel_rfl
  i53 := by kernel_rfl
  i171 := by kernel_rfl
  i173 := by kernel_rfl
  i212 := by kernel_rfl
  i232 := by kernel_rfl
  i233 := by kernel_rfl
  m17 := by kernel_rfl
  m18 := by kernel_rfl
  m19 := by kernel_rfl }
open Go.RowKit Go.Sort Go.Lib in
/-- internal/strconv.FormatInt: "FormatInt returns the string representation of i in the given base": AT BASE 10: i's decimal numeral, for every int64. The world behind the call: the world before it, new blocks behind the heap, draws. (LAID: no walk: one application.) -/
theorem Tryd.internal_strconv_FormatInt_10 (n : Int) (h0 : -9223372036854775808 ≤ n) (h1 : n ≤ 9223372036854775807) (w : World) (htab : Lib.TabIs Tryd.prog w "internal/strconv.uint64pow10" .u64 Lib.pow10Tab) :
    Calls Tryd.prog 68 #[.int .i64 n, .int .i64 10] w fun e w' => e = .returned (.string ⟨(Lib.itoa n).toArray⟩) ∧ ∃ k os, w' = grow (w.drewN k) os := Any.internal_strconv_FormatInt_10 Tryd.laysM246 n h0 h1 w htab
def Tryd.lays246_ren : Go.Shelf.Ren := ⟨fun | 246 => 68 | 283 => 79 | 284 => 80 | 285 => 81 | 286 => 82 | 129 => 89 | 317 => 90 | 318 => 91 | 319 => 92 | 320 => 93 | 337 => 98 | 338 => 99 | n => n, fun | 2 => 2 | 3 => 3 | 9 => 9 | 4 => 4 | 171 => 112 | 0 => 0 | 53 => 51 | 37 => 97 | 5 => 5 | 173 => 114 | 212 => 125 | 51 => 126 | 20 => 20 | 213 => 127 | 46 => 76 | 232 => 137 | 233 => 138 | n => n, fun | 17 => 0 | 18 => 3 | 19 => 4 | n => n⟩
theorem Tryd.lays246 : Go.Proofs.Lays.n246 Tryd.prog Tryd.lays246_ren := {
  mixed := by kernel_rfl
  f129 := Tryd.func89.trans (congrArg some (by kernel_rfl))
  f246 := Tryd.func68.trans (congrArg some (by kernel_rfl))
  f283 := Tryd.func79.trans (congrArg some (by kernel_rfl))
  f284 := Tryd.func80.trans (congrArg some (by kernel_rfl))
  f285 := Tryd.func81.trans (congrArg some (by kernel_rfl))
  f286 := Tryd.func82.trans (congrArg some (by kernel_rfl))
  f317 := Tryd.func90.trans (congrArg some (by kernel_rfl))
  f318 := Tryd.func91.trans (congrArg some (by kernel_rfl))
  f319 := Tryd.func92.trans (congrArg some (by kernel_rfl))
  f320 := Tryd.func93.trans (congrArg some (by kernel_rfl))
  f337 := Tryd.func98.trans (congrArg some (by kernel_rfl))
  f338 := Tryd.func99.trans (congrArg some (by kernel_rfl))
  t0 := Tryd.underlying0
  a0 := Tryd.isAgg0
  z0 := Tryd.sizeOf0
  v0 := Tryd.zeroValue0
  t2 := Tryd.underlying2
  a2 := Tryd.isAgg2
  z2 := Tryd.sizeOf2
  v2 := Tryd.zeroValue2
  t3 := Tryd.underlying3
  a3 := Tryd.isAgg3
  z3 := Tryd.sizeOf3
  v3 := Tryd.zeroValue3
  t4 := Tryd.underlying4
  a4 := Tryd.isAgg4
  z4 := Tryd.sizeOf4
  v4 := Tryd.zeroValue4
  t5 := Tryd.underlying5
  a5 := Tryd.isAgg5
  z5 := Tryd.sizeOf5
  v5 := Tryd.zeroValue5
  t9 := Tryd.underlying9
  a9 := Tryd.isAgg9
  z9 := Tryd.sizeOf9
  v9 := Tryd.zeroValue9
  t20 := Tryd.underlying20
  a20 := Tryd.isAgg20
  z20 := Tryd.sizeOf20
  v20 := Tryd.zeroValue20
  t37 := Tryd.underlying97
  a37 := Tryd.isAgg97
  z37 := Tryd.sizeOf97
  v37 := Tryd.zeroValue97
  t46 := Tryd.underlying76
  a46 := Tryd.isAgg76
  z46 := Tryd.sizeOf76
  v46 := Tryd.zeroValue76
  t51 := Tryd.underlying126
  a51 := Tryd.isAgg126
  z51 := Tryd.sizeOf126
  v51 := Tryd.zeroValue126
  t53 := Tryd.underlying51
  a53 := Tryd.isAgg51
  z53 := Tryd.sizeOf51
  v53 := Tryd.zeroValue51
  t171 := Tryd.underlying112
  a171 := Tryd.isAgg112
  z171 := Tryd.sizeOf112
  v171 := Tryd.zeroValue112
  t173 := Tryd.underlying114
  a173 := Tryd.isAgg114
  z173 := Tryd.sizeOf114
  v173 := Tryd.zeroValue114
  t212 := Tryd.underlying125
  a212 := Tryd.isAgg125
  z212 := Tryd.sizeOf125
  v212 := Tryd.zeroValue125
  t213 := Tryd.underlying127
  a213 := Tryd.isAgg127
  z213 := Tryd.sizeOf127
  t232 := Tryd.underlying137
  a232 := Tryd.isAgg137
  z232 := Tryd.sizeOf137
  v232 := Tryd.zeroValue137
  t233 := Tryd.underlying138
  a233 := Tryd.isAgg138
  z233 := Tryd.sizeOf138
  v233 := Tryd.zeroValue138
  g17 := by kernel_rfl
  g18 := by kernel_rfl
  g19 := by kernel_rfl }
open Go.RowKit Go.Sort Go.Lib in
/-- THE ROAD WITHOUT THE TABLE: 0 <= i < 100: two constants are read, nothing is laid: no premise on the world, and the world is as it was. (LAID: no walk: one application.) -/
theorem Tryd.internal_strconv_FormatInt_10_small (i : Nat) (hi : i < 100) (w : World) :
    Calls Tryd.prog 68 #[.int .i64 i, .int .i64 10] w fun e w' => e = .returned (.string ⟨(Lib.decDigits i).toArray⟩) ∧ w' = w := Any.internal_strconv_FormatInt_10_small Tryd.lays246 i hi w
def Tryd.laysM173_ren : Go.Shelf.Ren := ⟨fun | 173 => 55 | 246 => 68 | 283 => 79 | 284 => 80 | 285 => 81 | 286 => 82 | 129 => 89 | 317 => 90 | 318 => 91 | 319 => 92 | 320 => 93 | 337 => 98 | 338 => 99 | n => n, fun | 2 => 2 | 3 => 3 | 9 => 9 | 4 => 4 | 171 => 112 | 0 => 0 | 53 => 51 | 37 => 97 | 5 => 5 | 173 => 114 | 212 => 125 | 51 => 126 | 20 => 20 | 213 => 127 | 46 => 76 | 232 => 137 | 233 => 138 | n => n, fun | 17 => 0 | 18 => 3 | 19 => 4 | n => n⟩
theorem Tryd.laysM173 : Go.Proofs.LaysM.n173 Tryd.prog Tryd.laysM173_ren := {
  mixed := by kernel_rfl
  f129 := Tryd.func89.trans (congrArg some (by kernel_rfl))
  f173 := Tryd.func55.trans (congrArg some (by kernel_rfl))
  f246 := Tryd.func68.trans (congrArg some (by kernel_rfl))
  f283 := Tryd.func79.trans (congrArg some (by kernel_rfl))
  f284 := Tryd.func80.trans (congrArg some (by kernel_rfl))
  f285 := Tryd.func81.trans (congrArg some (by kernel_rfl))
  f286 := Tryd.func82.trans (congrArg some (by kernel_rfl))
  f317 := Tryd.func90.trans (congrArg some (by kernel_rfl))
  f318 := Tryd.func91.trans (congrArg some (by kernel_rfl))
  f319 := Tryd.func92.trans (congrArg some (by kernel_rfl))
  f320 := Tryd.func93.trans (congrArg some (by kernel_rfl))
  f337 := Tryd.func98.trans (congrArg some (by kernel_rfl))
  f338 := Tryd.func99.trans (congrArg some (by kernel_rfl))
  t0 := Tryd.underlying0
  a0 := Tryd.isAgg0
  z0 := Tryd.sizeOf0
  v0 := Tryd.zeroValue0
  t2 := Tryd.underlying2
  a2 := Tryd.isAgg2
  z2 := Tryd.sizeOf2
  v2 := Tryd.zeroValue2
  t3 := Tryd.underlying3
  a3 := Tryd.isAgg3
  z3 := Tryd.sizeOf3
  v3 := Tryd.zeroValue3
  t4 := Tryd.underlying4
  a4 := Tryd.isAgg4
  z4 := Tryd.sizeOf4
  v4 := Tryd.zeroValue4
  t5 := Tryd.underlying5
  a5 := Tryd.isAgg5
  z5 := Tryd.sizeOf5
  v5 := Tryd.zeroValue5
  t9 := Tryd.underlying9
  a9 := Tryd.isAgg9
  z9 := Tryd.sizeOf9
  v9 := Tryd.zeroValue9
  t20 := Tryd.underlying20
  a20 := Tryd.isAgg20
  z20 := Tryd.sizeOf20
  v20 := Tryd.zeroValue20
  t37 := Tryd.underlying97
  a37 := Tryd.isAgg97
  z37 := Tryd.sizeOf97
  v37 := Tryd.zeroValue97
  t46 := Tryd.underlying76
  a46 := Tryd.isAgg76
  z46 := Tryd.sizeOf76
  v46 := Tryd.zeroValue76
  t51 := Tryd.underlying126
  a51 := Tryd.isAgg126
  z51 := Tryd.sizeOf126
  v51 := Tryd.zeroValue126
  t53 := Tryd.underlying51
  a53 := Tryd.isAgg51
  z53 := Tryd.sizeOf51
  v53 := Tryd.zeroValue51
  t171 := Tryd.underlying112
  a171 := Tryd.isAgg112
  z171 := Tryd.sizeOf112
  v171 := Tryd.zeroValue112
  t173 := Tryd.underlying114
  a173 := Tryd.isAgg114
  z173 := Tryd.sizeOf114
  v173 := Tryd.zeroValue114
  t212 := Tryd.underlying125
  a212 := Tryd.isAgg125
  z212 := Tryd.sizeOf125
  v212 := Tryd.zeroValue125
  t213 := Tryd.underlying127
  a213 := Tryd.isAgg127
  z213 := Tryd.sizeOf127
  t232 := Tryd.underlying137
  a232 := Tryd.isAgg137
  z232 := Tryd.sizeOf137
  v232 := Tryd.zeroValue137
  t233 := Tryd.underlying138
  a233 := Tryd.isAgg138
  z233 := Tryd.sizeOf138
  v233 := Tryd.zeroValue138
  g17 := by kernel_rfl
  g18 := by kernel_rfl
  g19 := by kernel_rfl
  i0 := by kernel_rfl
  i2 := by kernel_rfl
  i3 := by kernel_rfl
  i4 := by kernel_rfl
  i5 := by kernel_rfl
  i9 := by kernel_rfl
  i20 := by kernel_rfl
  i37 := by kernel_rfl
  i46 := by kernel_rfl
  i51 := by kernel_rfl
  i53 := by kernel_rfl
  i171 := by kernel_rfl
  i173 := by kernel_rfl
  i212 := by kernel_rfl
  i232 := by kernel_rfl
  i233 := by kernel_rfl
  m17 := by kernel_rfl
  m18 := by kernel_rfl
  m19 := by kernel_rfl }
open Go.RowKit Go.Sort Go.Lib in
/-- strconv.FormatInt: "FormatInt returns the string representation of i in the given base": AT BASE 10: i's decimal numeral, for every int64. (LAID: no walk: one application.) -/
theorem Tryd.strconv_FormatInt_10 (n : Int) (h0 : -9223372036854775808 ≤ n) (h1 : n ≤ 9223372036854775807) (w : World) (htab : Lib.TabIs Tryd.prog w "internal/strconv.uint64pow10" .u64 Lib.pow10Tab) :
    Calls Tryd.prog 55 #[.int .i64 n, .int .i64 10] w fun e w' => e = .returned (.string ⟨(Lib.itoa n).toArray⟩) ∧ ∃ k os, w' = grow (w.drewN k) os := Any.strconv_FormatInt_10 Tryd.laysM173 n h0 h1 w htab
def Tryd.lays173_ren : Go.Shelf.Ren := ⟨fun | 173 => 55 | 246 => 68 | 283 => 79 | 284 => 80 | 285 => 81 | 286 => 82 | 129 => 89 | 317 => 90 | 318 => 91 | 319 => 92 | 320 => 93 | 337 => 98 | 338 => 99 | n => n, fun | 2 => 2 | 3 => 3 | 9 => 9 | 4 => 4 | 171 => 112 | 0 => 0 | 53 => 51 | 37 => 97 | 5 => 5 | 173 => 114 | 212 => 125 | 51 => 126 | 20 => 20 | 213 => 127 | 46 => 76 | 232 => 137 | 233 => 138 | n => n, fun | 17 => 0 | 18 => 3 | 19 => 4 | n => n⟩
theorem Tryd.lays173 : Go.Proofs.Lays.n173 Tryd.prog Tryd.lays173_ren := {
  mixed := by kernel_rfl
  f129 := Tryd.func89.trans (congrArg some (by kernel_rfl))
  f173 := Tryd.func55.trans (congrArg some (by kernel_rfl))
  f246 := Tryd.func68.trans (congrArg some (by kernel_rfl))
  f283 := Tryd.func79.trans (congrArg some (by kernel_rfl))
  f284 := Tryd.func80.trans (congrArg some (by kernel_rfl))
  f285 := Tryd.func81.trans (congrArg some (by kernel_rfl))
  f286 := Tryd.func82.trans (congrArg some (by kernel_rfl))
  f317 := Tryd.func90.trans (congrArg some (by kernel_rfl))
  f318 := Tryd.func91.trans (congrArg some (by kernel_rfl))
  f319 := Tryd.func92.trans (congrArg some (by kernel_rfl))
  f320 := Tryd.func93.trans (congrArg some (by kernel_rfl))
  f337 := Tryd.func98.trans (congrArg some (by kernel_rfl))
  f338 := Tryd.func99.trans (congrArg some (by kernel_rfl))
  t0 := Tryd.underlying0
  a0 := Tryd.isAgg0
  z0 := Tryd.sizeOf0
  v0 := Tryd.zeroValue0
  t2 := Tryd.underlying2
  a2 := Tryd.isAgg2
  z2 := Tryd.sizeOf2
  v2 := Tryd.zeroValue2
  t3 := Tryd.underlying3
  a3 := Tryd.isAgg3
  z3 := Tryd.sizeOf3
  v3 := Tryd.zeroValue3
  t4 := Tryd.underlying4
  a4 := Tryd.isAgg4
  z4 := Tryd.sizeOf4
  v4 := Tryd.zeroValue4
  t5 := Tryd.underlying5
  a5 := Tryd.isAgg5
  z5 := Tryd.sizeOf5
  v5 := Tryd.zeroValue5
  t9 := Tryd.underlying9
  a9 := Tryd.isAgg9
  z9 := Tryd.sizeOf9
  v9 := Tryd.zeroValue9
  t20 := Tryd.underlying20
  a20 := Tryd.isAgg20
  z20 := Tryd.sizeOf20
  v20 := Tryd.zeroValue20
  t37 := Tryd.underlying97
  a37 := Tryd.isAgg97
  z37 := Tryd.sizeOf97
  v37 := Tryd.zeroValue97
  t46 := Tryd.underlying76
  a46 := Tryd.isAgg76
  z46 := Tryd.sizeOf76
  v46 := Tryd.zeroValue76
  t51 := Tryd.underlying126
  a51 := Tryd.isAgg126
  z51 := Tryd.sizeOf126
  v51 := Tryd.zeroValue126
  t53 := Tryd.underlying51
  a53 := Tryd.isAgg51
  z53 := Tryd.sizeOf51
  v53 := Tryd.zeroValue51
  t171 := Tryd.underlying112
  a171 := Tryd.isAgg112
  z171 := Tryd.sizeOf112
  v171 := Tryd.zeroValue112
  t173 := Tryd.underlying114
  a173 := Tryd.isAgg114
  z173 := Tryd.sizeOf114
  v173 := Tryd.zeroValue114
  t212 := Tryd.underlying125
  a212 := Tryd.isAgg125
  z212 := Tryd.sizeOf125
  v212 := Tryd.zeroValue125
  t213 := Tryd.underlying127
  a213 := Tryd.isAgg127
  z213 := Tryd.sizeOf127
  t232 := Tryd.underlying137
  a232 := Tryd.isAgg137
  z232 := Tryd.sizeOf137
  v232 := Tryd.zeroValue137
  t233 := Tryd.underlying138
  a233 := Tryd.isAgg138
  z233 := Tryd.sizeOf138
  v233 := Tryd.zeroValue138
  g17 := by kernel_rfl
  g18 := by kernel_rfl
  g19 := by kernel_rfl }
open Go.RowKit Go.Sort Go.Lib in
/-- THE ROAD WITHOUT THE TABLE: 0 <= i < 100. (LAID: no walk: one application.) -/
theorem Tryd.strconv_FormatInt_10_small (i : Nat) (hi : i < 100) (w : World) :
    Calls Tryd.prog 55 #[.int .i64 i, .int .i64 10] w fun e w' => e = .returned (.string ⟨(Lib.decDigits i).toArray⟩) ∧ w' = w := Any.strconv_FormatInt_10_small Tryd.lays173 i hi w
def Tryd.lays217_ren : Go.Shelf.Ren := ⟨fun | 217 => 106 | 266 => 107 | n => n, fun | 9 => 9 | 5 => 5 | 3 => 3 | n => n, fun | n => n⟩
theorem Tryd.lays217 : Go.Proofs.Lays.n217 Tryd.prog Tryd.lays217_ren := {
  mixed := by kernel_rfl
  f217 := Tryd.func106.trans (congrArg some (by kernel_rfl))
  f266 := Tryd.func107.trans (congrArg some (by kernel_rfl))
  t3 := Tryd.underlying3
  a3 := Tryd.isAgg3
  z3 := Tryd.sizeOf3
  v3 := Tryd.zeroValue3
  t5 := Tryd.underlying5
  a5 := Tryd.isAgg5
  z5 := Tryd.sizeOf5
  v5 := Tryd.zeroValue5
  t9 := Tryd.underlying9
  a9 := Tryd.isAgg9
  z9 := Tryd.sizeOf9
  v9 := Tryd.zeroValue9 }
open Go.RowKit Go.Lib in
/-- internal/stringslite.IndexByte (what strings.IndexByte calls): IT RETURNS 'Lib.indexByte s c'; the world is as it was. (LAID: no walk: one application.) -/
theorem Tryd.stringslite_IndexByte (s : ByteArray) (c : Int) (w : World) :
    Calls Tryd.prog 106 #[.string s, .int .u8 c] w fun e w' => e = .returned (.int .i64 (Lib.indexByte s.data.toList c.toNat.toUInt8)) ∧ w' = w := Any.stringslite_IndexByte Tryd.lays217 s c w
def Tryd.lays224_ren : Go.Shelf.Ren := ⟨fun | 224 => 104 | n => n, fun | 3 => 3 | n => n, fun | n => n⟩
theorem Tryd.lays224 : Go.Proofs.Lays.n224 Tryd.prog Tryd.lays224_ren := {
  mixed := by kernel_rfl
  f224 := Tryd.func104.trans (congrArg some (by kernel_rfl))
  t3 := Tryd.underlying3
  a3 := Tryd.isAgg3
  z3 := Tryd.sizeOf3
  v3 := Tryd.zeroValue3 }
open Go.RowKit Go.Lib in
/-- internal/bytealg.Cutover: "Cutover reports the number of failures of IndexByte we should tolerate before switching over to Index. n is the number of bytes processed so far.": on amd64: (n + 16) / 8. (LAID: no walk: one application.) -/
theorem Tryd.bytealg_Cutover (n : Int) (h0 : 0 ≤ n) (h1 : n < 4611686018427387904) (w : World) :
    Calls Tryd.prog 104 #[.int .i64 n] w fun e w' => e = .returned (.int .i64 ((n + 16) / 8)) ∧ w' = w := Any.bytealg_Cutover Tryd.lays224 n h0 h1 w
def Tryd.lays197_ren : Go.Shelf.Ren := ⟨fun | 197 => 95 | 260 => 100 | n => n, fun | 9 => 9 | 21 => 21 | 3 => 3 | 4 => 4 | 5 => 5 | 105 => 130 | 119 => 139 | 0 => 0 | 46 => 76 | 139 => 142 | 138 => 141 | n => n, fun | 3 => 5 | 4 => 6 | n => n⟩
theorem Tryd.lays197 : Go.Proofs.Lays.n197 Tryd.prog Tryd.lays197_ren := {
  mixed := by kernel_rfl
  f197 := Tryd.func95.trans (congrArg some (by kernel_rfl))
  f260 := Tryd.func100.trans (congrArg some (by kernel_rfl))
  t0 := Tryd.underlying0
  a0 := Tryd.isAgg0
  z0 := Tryd.sizeOf0
  v0 := Tryd.zeroValue0
  t3 := Tryd.underlying3
  a3 := Tryd.isAgg3
  z3 := Tryd.sizeOf3
  v3 := Tryd.zeroValue3
  t4 := Tryd.underlying4
  a4 := Tryd.isAgg4
  z4 := Tryd.sizeOf4
  v4 := Tryd.zeroValue4
  t5 := Tryd.underlying5
  a5 := Tryd.isAgg5
  z5 := Tryd.sizeOf5
  v5 := Tryd.zeroValue5
  t9 := Tryd.underlying9
  a9 := Tryd.isAgg9
  z9 := Tryd.sizeOf9
  v9 := Tryd.zeroValue9
  t21 := Tryd.underlying21
  a21 := Tryd.isAgg21
  z21 := Tryd.sizeOf21
  v21 := Tryd.zeroValue21
  t46 := Tryd.underlying76
  a46 := Tryd.isAgg76
  z46 := Tryd.sizeOf76
  v46 := Tryd.zeroValue76
  t105 := Tryd.underlying130
  a105 := Tryd.isAgg130
  z105 := Tryd.sizeOf130
  v105 := Tryd.zeroValue130
  t119 := Tryd.underlying139
  a119 := Tryd.isAgg139
  z119 := Tryd.sizeOf139
  t138 := Tryd.underlying141
  a138 := Tryd.isAgg141
  z138 := Tryd.sizeOf141
  v138 := Tryd.zeroValue141
  t139 := Tryd.underlying142
  a139 := Tryd.isAgg142
  z139 := Tryd.sizeOf142
  v139 := Tryd.zeroValue142
  g3 := by kernel_rfl
  g4 := by kernel_rfl }
open Go.RowKit Go.Lib in
/-- unicode/utf8.DecodeRuneInString: "DecodeRuneInString is like DecodeRune but its input is a string.": ("DecodeRune unpacks the first UTF-8 encoding in p and returns the rune and its width in bytes."): WHERE s BEGINS WITH AN ASCII BYTE x: (x, 1). (LAID: no walk: one application.) -/
theorem Tryd.utf8_DecodeRuneInString_ascii (s : ByteArray) (x : UInt8) (w : World) (h0 : s.data.toList[0]? = some x) (hx : x.toNat < 128) :
    Calls Tryd.prog 95 #[.string s] w fun e w' => e = .returned (.tuple #[.int .i32 x.toNat, .int .i64 1]) ∧ w' = w := Any.utf8_DecodeRuneInString_ascii Tryd.lays197 s x w h0 hx
def Tryd.lays152_ren : Go.Shelf.Ren := ⟨fun | 152 => 101 | 137 => 102 | 119 => 103 | 224 => 104 | 225 => 105 | 217 => 106 | 266 => 107 | n => n, fun | 9 => 9 | 21 => 21 | 3 => 3 | 4 => 4 | 5 => 5 | 0 => 0 | 46 => 76 | n => n, fun | n => n⟩
theorem Tryd.lays152 : Go.Proofs.Lays.n152 Tryd.prog Tryd.lays152_ren := {
  mixed := by kernel_rfl
  f119 := Tryd.func103.trans (congrArg some (by kernel_rfl))
  f137 := Tryd.func102.trans (congrArg some (by kernel_rfl))
  f152 := Tryd.func101.trans (congrArg some (by kernel_rfl))
  f217 := Tryd.func106.trans (congrArg some (by kernel_rfl))
  f224 := Tryd.func104.trans (congrArg some (by kernel_rfl))
  f225 := Tryd.func105.trans (congrArg some (by kernel_rfl))
  f266 := Tryd.func107.trans (congrArg some (by kernel_rfl))
  t0 := Tryd.underlying0
  a0 := Tryd.isAgg0
  z0 := Tryd.sizeOf0
  v0 := Tryd.zeroValue0
  t3 := Tryd.underlying3
  a3 := Tryd.isAgg3
  z3 := Tryd.sizeOf3
  v3 := Tryd.zeroValue3
  t4 := Tryd.underlying4
  a4 := Tryd.isAgg4
  z4 := Tryd.sizeOf4
  v4 := Tryd.zeroValue4
  t5 := Tryd.underlying5
  a5 := Tryd.isAgg5
  z5 := Tryd.sizeOf5
  v5 := Tryd.zeroValue5
  t9 := Tryd.underlying9
  a9 := Tryd.isAgg9
  z9 := Tryd.sizeOf9
  v9 := Tryd.zeroValue9
  t21 := Tryd.underlying21
  a21 := Tryd.isAgg21
  z21 := Tryd.sizeOf21
  v21 := Tryd.zeroValue21
  t46 := Tryd.underlying76
  a46 := Tryd.isAgg76
  z46 := Tryd.sizeOf76
  v46 := Tryd.zeroValue76 }
open Go.RowKit Go.Lib in
theorem Tryd.strings_IndexRune_ascii (s : ByteArray) (r : Int) (w : World) (h0 : 0 ≤ r) (h1 : r < 128) :
    Calls Tryd.prog 101 #[.string s, .int .i32 r] w fun e w' => e = .returned (.int .i64 (Lib.indexByte s.data.toList r.toNat.toUInt8)) ∧ w' = w := Any.strings_IndexRune_ascii Tryd.lays152 s r w h0 h1
def Tryd.lays151_ren : Go.Shelf.Ren := ⟨fun | 151 => 96 | 152 => 101 | 137 => 102 | 119 => 103 | 224 => 104 | 225 => 105 | 217 => 106 | 266 => 107 | n => n, fun | 9 => 9 | 21 => 21 | 4 => 4 | 3 => 3 | 5 => 5 | 0 => 0 | 46 => 76 | n => n, fun | n => n⟩
theorem Tryd.lays151 : Go.Proofs.Lays.n151 Tryd.prog Tryd.lays151_ren := {
  mixed := by kernel_rfl
  f119 := Tryd.func103.trans (congrArg some (by kernel_rfl))
  f137 := Tryd.func102.trans (congrArg some (by kernel_rfl))
  f151 := Tryd.func96.trans (congrArg some (by kernel_rfl))
  f152 := Tryd.func101.trans (congrArg some (by kernel_rfl))
  f217 := Tryd.func106.trans (congrArg some (by kernel_rfl))
  f224 := Tryd.func104.trans (congrArg some (by kernel_rfl))
  f225 := Tryd.func105.trans (congrArg some (by kernel_rfl))
  f266 := Tryd.func107.trans (congrArg some (by kernel_rfl))
  t0 := Tryd.underlying0
  a0 := Tryd.isAgg0
  z0 := Tryd.sizeOf0
  v0 := Tryd.zeroValue0
  t3 := Tryd.underlying3
  a3 := Tryd.isAgg3
  z3 := Tryd.sizeOf3
  v3 := Tryd.zeroValue3
  t4 := Tryd.underlying4
  a4 := Tryd.isAgg4
  z4 := Tryd.sizeOf4
  v4 := Tryd.zeroValue4
  t5 := Tryd.underlying5
  a5 := Tryd.isAgg5
  z5 := Tryd.sizeOf5
  v5 := Tryd.zeroValue5
  t9 := Tryd.underlying9
  a9 := Tryd.isAgg9
  z9 := Tryd.sizeOf9
  v9 := Tryd.zeroValue9
  t21 := Tryd.underlying21
  a21 := Tryd.isAgg21
  z21 := Tryd.sizeOf21
  v21 := Tryd.zeroValue21
  t46 := Tryd.underlying76
  a46 := Tryd.isAgg76
  z46 := Tryd.sizeOf76
  v46 := Tryd.zeroValue76 }
open Go.RowKit Go.Lib in
theorem Tryd.strings_ContainsRune_ascii (s : ByteArray) (r : Int) (w : World) (h0 : 0 ≤ r) (h1 : r < 128) :
    Calls Tryd.prog 96 #[.string s, .int .i32 r] w fun e w' => e = .returned (.bool (decide (0 ≤ Lib.indexByte s.data.toList r.toNat.toUInt8))) ∧ w' = w := Any.strings_ContainsRune_ascii Tryd.lays151 s r w h0 h1
def Tryd.lays227_ren : Go.Shelf.Ren := ⟨fun | 227 => 85 | n => n, fun | 9 => 9 | 116 => 118 | 4 => 4 | 0 => 0 | 3 => 3 | 5 => 5 | n => n, fun | n => n⟩
theorem Tryd.lays227 : Go.Proofs.Lays.n227 Tryd.prog Tryd.lays227_ren := {
  mixed := by kernel_rfl
  f227 := Tryd.func85.trans (congrArg some (by kernel_rfl))
  t0 := Tryd.underlying0
  a0 := Tryd.isAgg0
  z0 := Tryd.sizeOf0
  v0 := Tryd.zeroValue0
  t3 := Tryd.underlying3
  a3 := Tryd.isAgg3
  z3 := Tryd.sizeOf3
  v3 := Tryd.zeroValue3
  t4 := Tryd.underlying4
  a4 := Tryd.isAgg4
  z4 := Tryd.sizeOf4
  v4 := Tryd.zeroValue4
  t5 := Tryd.underlying5
  a5 := Tryd.isAgg5
  z5 := Tryd.sizeOf5
  v5 := Tryd.zeroValue5
  t9 := Tryd.underlying9
  a9 := Tryd.isAgg9
  z9 := Tryd.sizeOf9
  v9 := Tryd.zeroValue9
  t116 := Tryd.underlying118
  a116 := Tryd.isAgg118
  z116 := Tryd.sizeOf118 }
open Go.RowKit Go.Lib in
theorem Tryd.strings_makeASCIISet (hv116 : ∀ w, (zeroValue 118).run Tryd.prog w = .ok (.agg (Array.replicate 256 (.bool false))) w) (chars : ByteArray) (w : World) (hs : chars.size < 4294967281) (hascii : ∀ (j : Nat) b, chars.data.toList[j]? = some b → b.toNat < 128) :
    Calls Tryd.prog 85 #[.string chars] w fun e w' => e = .returned (.tuple #[.agg (Lib.setCells chars.data.toList), .bool true]) ∧ w' = w.alloc (.cells (Lib.setCells chars.data.toList) 118) := Any.strings_makeASCIISet Tryd.lays227 hv116 (by kernel_rfl) chars w hs hascii
def Tryd.lays228_ren : Go.Shelf.Ren := ⟨fun | 228 => 94 | n => n, fun | 124 => 122 | 5 => 5 | 4 => 4 | 0 => 0 | 116 => 118 | n => n, fun | n => n⟩
theorem Tryd.lays228 : Go.Proofs.Lays.n228 Tryd.prog Tryd.lays228_ren := {
  mixed := by kernel_rfl
  f228 := Tryd.func94.trans (congrArg some (by kernel_rfl))
  t0 := Tryd.underlying0
  a0 := Tryd.isAgg0
  z0 := Tryd.sizeOf0
  v0 := Tryd.zeroValue0
  t4 := Tryd.underlying4
  a4 := Tryd.isAgg4
  z4 := Tryd.sizeOf4
  v4 := Tryd.zeroValue4
  t5 := Tryd.underlying5
  a5 := Tryd.isAgg5
  z5 := Tryd.sizeOf5
  v5 := Tryd.zeroValue5
  t116 := Tryd.underlying118
  a116 := Tryd.isAgg118
  z116 := Tryd.sizeOf118
  t124 := Tryd.underlying122
  a124 := Tryd.isAgg122
  z124 := Tryd.sizeOf122
  v124 := Tryd.zeroValue122 }
open Go.RowKit Go.Lib in
/-- '(as *asciiSet) contains(c)': 'as[c]': the set lies at block b, whole. (LAID: no walk: one application.) -/
theorem Tryd.asciiSet_contains (b : Nat) (x : UInt8) (v : Bool) (w : World) (hc : w.cell? ⟨b, x.toNat, none⟩ = some (.bool v)) :
    Calls Tryd.prog 94 #[.pointer (some ⟨b, 0, none⟩), .int .u8 x.toNat] w fun e w' => e = .returned (.bool v) ∧ w' = w := Any.asciiSet_contains Tryd.lays228 b x v w hc
def Tryd.lays264_ren : Go.Shelf.Ren := ⟨fun | 264 => 64 | n => n, fun | 53 => 51 | 46 => 76 | n => n, fun | n => n⟩
theorem Tryd.lays264 : Go.Proofs.Lays.n264 Tryd.prog Tryd.lays264_ren := {
  mixed := by kernel_rfl
  f264 := Tryd.func64.trans (congrArg some (by kernel_rfl))
  t46 := Tryd.underlying76
  a46 := Tryd.isAgg76
  z46 := Tryd.sizeOf76
  v46 := Tryd.zeroValue76
  t53 := Tryd.underlying51
  a53 := Tryd.isAgg51
  z53 := Tryd.sizeOf51
  v53 := Tryd.zeroValue51 }
open Go.RowKit Go.Lib in
theorem Tryd.bits_Mul64 (x y : Nat) (hx : x < 18446744073709551616) (hy : y < 18446744073709551616) (w : World) :
    Calls Tryd.prog 64 #[.int .u64 x, .int .u64 y] w fun e w' => e = .returned (.tuple #[.int .u64 ((x * y / 18446744073709551616 : Nat) : Int), .int .u64 ((x * y % 18446744073709551616 : Nat) : Int)]) ∧ w' = w := Any.bits_Mul64 Tryd.lays264 x y hx hy w
def Tryd.lays260_ren : Go.Shelf.Ren := ⟨fun | 260 => 100 | n => n, fun | 9 => 9 | 21 => 21 | 3 => 3 | 4 => 4 | 5 => 5 | 119 => 139 | 0 => 0 | 46 => 76 | 139 => 142 | 138 => 141 | n => n, fun | 3 => 5 | 4 => 6 | n => n⟩
theorem Tryd.lays260 : Go.Proofs.Lays.n260 Tryd.prog Tryd.lays260_ren := {
  mixed := by kernel_rfl
  f260 := Tryd.func100.trans (congrArg some (by kernel_rfl))
  t0 := Tryd.underlying0
  a0 := Tryd.isAgg0
  z0 := Tryd.sizeOf0
  v0 := Tryd.zeroValue0
  t3 := Tryd.underlying3
  a3 := Tryd.isAgg3
  z3 := Tryd.sizeOf3
  v3 := Tryd.zeroValue3
  t4 := Tryd.underlying4
  a4 := Tryd.isAgg4
  z4 := Tryd.sizeOf4
  v4 := Tryd.zeroValue4
  t5 := Tryd.underlying5
  a5 := Tryd.isAgg5
  z5 := Tryd.sizeOf5
  v5 := Tryd.zeroValue5
  t9 := Tryd.underlying9
  a9 := Tryd.isAgg9
  z9 := Tryd.sizeOf9
  v9 := Tryd.zeroValue9
  t21 := Tryd.underlying21
  a21 := Tryd.isAgg21
  z21 := Tryd.sizeOf21
  v21 := Tryd.zeroValue21
  t46 := Tryd.underlying76
  a46 := Tryd.isAgg76
  z46 := Tryd.sizeOf76
  v46 := Tryd.zeroValue76
  t119 := Tryd.underlying139
  a119 := Tryd.isAgg139
  z119 := Tryd.sizeOf139
  t138 := Tryd.underlying141
  a138 := Tryd.isAgg141
  z138 := Tryd.sizeOf141
  v138 := Tryd.zeroValue141
  t139 := Tryd.underlying142
  a139 := Tryd.isAgg142
  z139 := Tryd.sizeOf142
  v139 := Tryd.zeroValue142
  g3 := by kernel_rfl
  g4 := by kernel_rfl }
open Go.RowKit Go.Lib in
theorem Tryd.utf8_decodeRuneInStringSlow (s : ByteArray) (w : World) (hT : Lib.Utf8Tabs 5 6 w) :
    Calls Tryd.prog 100 #[.string s] w fun e w' => e = .returned (.tuple #[.int .i32 (Lib.decodeGo s).1, .int .i64 (Lib.decodeGo s).2]) ∧ Below w.heap.size w w' := Any.utf8_decodeRuneInStringSlow Tryd.lays260 s w hT
open Go.RowKit Go.Lib in
/-- **unicode/utf8.DecodeRuneInString AT EVERY STRING.** (LAID: no walk: one application.) -/
theorem Tryd.utf8_DecodeRuneInString (s : ByteArray) (w : World) (hT : Lib.Utf8Tabs 5 6 w) :
    Calls Tryd.prog 95 #[.string s] w fun e w' => e = .returned (.tuple #[.int .i32 (Lib.decodeGo s).1, .int .i64 (Lib.decodeGo s).2]) ∧ Below w.heap.size w w' := Any.utf8_DecodeRuneInString Tryd.lays197 s w hT
end Go.Proofs

namespace Go.Proofs.YtcjhnkmoloiepaaDoor
open Go Go.RowKit Go.Proofs.Vc
set_option linter.unusedVariables false
set_option linter.unusedSimpArgs false

set_option maxHeartbeats 4000000 in
theorem num_text {g : Mem} {w : World} (hag : Agree g w) {A : Option Addr} {n c N : Nat} (ha : IsNat g A n N) (hn : n ≤ 1099511627776) :
    CallTo Tryd.prog 56 #[.slice A n c] w (Ret w g fun v g => v = .string ⟨(Lib.decDigits N).toArray⟩) := by
  refine CallTo.enter (vs := [.slice A n c]) zf64 (by kernel_rfl) rfl rfl rfl ?_
  have hst := St.init hag
  have hNB : N < 18446744073709551616 ^ n := ha.lt
  refine zsr ?_
  refine zA rfl hst rfl ?_
  refine znq ?_
  refine zsr ?_
  refine zM rfl hst rfl ?_
  refine stepK_d rfl rfl rfl hst (does_len_slice rfl zf1 rfl) ?_
  refine stepK_d rfl rfl rfl hst (does_eql rfl rfl rfl) ?_
  refine znt ?_
  refine cp_if rfl ?_ ?_
  intro c13
  refine zsr ?_
  refine zA rfl hst rfl ?_
  refine zn5 ?_
  refine ret1 rfl rfl hst ?_
  rw [ha.zero_iff.1 (by omega), Lib.decDigits_one (by decide)]
  rfl
  intro c13
  have c13n : n ≠ 0 := by omega
  refine zk4 ?_
  refine zA rfl hst rfl ?_
  refine znq ?_
  refine cp_block ?_
  refine cp_loop (ι := Option Addr × Nat × Nat × Nat × Option Addr × Nat × List Nat) (fun (A, m, c, X, P, cp, ps) => [(0, .slice A m c), (3, .slice P ps.length cp)]) (fun (A, m, c, X, P, cp, ps) w1 => ∃ g1, Row w [] g g1 [] 51 1 (.slice P ps.length cp) ps.length (uN .u64 ps) w1 ∧ IsNat g1 A m X ∧ m ≤ n ∧ N = X * 10000000000000000000 ^ ps.length + pv ps ∧ (∀ d ∈ ps, d < 10000000000000000000) ∧ (X = 0 → ps ≠ [] ∧ ps.getLast? ≠ some 0) ∧ ps.length ≤ 2 * n + 1) (fun (A, m, c, X, P, cp, ps) => X) (A, n, c, N, none, 0, []) ?k1 ?i1 ?r1
  case k1 => exact ⟨rfl, rfl, trivial⟩
  case i1 =>
    exact ⟨_, Row.nil hst, ha, Nat.le_refl _, by simp [pv], by simp, fun e => absurd (ha.zero_iff.2 e) c13n, by simp⟩
  case r1 =>
    clear hst
    rintro ⟨A, m, c, X, P, cp, ps⟩ w1 ⟨g1, hrow, hX, hmn, hval, hps, hlast, hpl⟩
    have hst := hrow.st
    refine cp_seq ?_
    refine zsr ?_
    refine zM rfl hst rfl ?_
    refine stepK_d rfl rfl rfl hst (does_len_slice rfl zf1 rfl) ?_
    refine stepK_d rfl rfl rfl hst (does_gtr rfl rfl rfl) ?_
    refine znt ?_
    refine cp_if rfl ?_ ?_
    intro c16
    refine cp_skip ?_
    refine cp_then ?_
    refine cp_block ?_
    refine cp_seq ?_
    have hX0 : 0 < X := Nat.pos_of_ne_zero fun e => by have := hX.zero_iff.2 e; omega
    refine cp_region ?_
    refine zA rfl hst rfl ?_
    refine zn4 ?_
    refine zM rfl hst rfl ?_
    refine stepK_call rfl rfl rfl rfl rfl hst (num_byWord hst.agree hX (x := 10000000000000000000) (by decide) (by decide) (by omega)) ?_
    clear hst
    intro v2 g2 w2 hst hle2 hcs2 hp2
    replace hX := hX.mono hle2
    obtain ⟨A9, m9, c9, rfl, hX9⟩ := hp2
    replace hrow := hrow.call (by assumption)
    have hm9 : m9 ≤ m := hX9.len (Nat.lt_of_le_of_lt (Nat.div_le_self _ _) hX.lt)
    refine zM rfl hst rfl ?_
    refine zE rfl hst rfl rfl ?_
    refine zE rfl hst rfl rfl ?_
    refine zA rfl hst rfl ?_
    refine zA rfl hst rfl ?_
    refine zn3 ?_
    refine zM rfl hst rfl ?_
    refine zM rfl hst rfl ?_
    refine stepK_buildSlice_row rfl rfl rfl rfl zf65 zf2 rfl rfl (by decide) (by decide) (by decide) rfl rfl hrow ?_
    clear hst
    intro bx w9 hrow
    have hst := hrow.st
    refine stepK_append rfl rfl rfl rfl zf65 zf2 rfl (by decide) rfl rfl (hrow) (k := 1) rfl (fun j u hj => by rw [addr_add, Nat.zero_add]; exact hst.cell_own 0 rfl (by simpa using hj)) (by simp [Value.oneCell']) (by omega) (by omega) ?_
    clear hst
    intro vr3 w3 hrow
    obtain ⟨Ar, cr, rfl⟩ := hrow.shape
    have hst := hrow.st
    refine zA rfl hst rfl ?_
    refine wpK_nil ?_
    refine at_block_normal ?_
    refine round_end ((A9, m9, c9, X / 10000000000000000000, Ar, cr, ps ++ [X % 10000000000000000000])) ?_ ?_ ?_
    exact ⟨rfl, by rw [List.length_append]; rfl, trivial⟩
    refine ⟨_, by rw [List.length_append, uN_append]; exact hrow.sub (List.nil_sublist _), hX9, by omega, ?_, ?_, ?_, ?_⟩
    rw [hval, pv_snoc, List.length_append, List.length_singleton, Nat.pow_succ]
    have h8 := Nat.div_add_mod X 10000000000000000000
    generalize X / 10000000000000000000 = a at *
    generalize X % 10000000000000000000 = b at *
    rw [← h8]
    grind
    intro d hd
    rw [List.mem_append] at hd
    rcases hd with hd | hd
    exact hps d hd
    have : d = X % 10000000000000000000 := by simpa using hd
    omega
    intro e
    refine ⟨by simp, ?_⟩
    rw [List.getLast?_concat]
    intro e2
    have : X % 10000000000000000000 = 0 := by simpa using e2
    omega
    rw [List.length_append, List.length_singleton]
    have := parts_len (X := X) (k := ps.length) hX0 (by rw [hval]; exact Nat.le_add_right _ _) hNB
    omega
    show X / 10000000000000000000 < X
    omega
    intro c16
    refine cp_exit ?_
    refine at_then_exit ?_
    refine at_then_exit ?_
    refine cp_exit_here ?_
    refine cp_then ?_
    refine zsr ?_
    obtain ⟨g2, P2, c2, e2, hc2, hst, hle2, hsv⟩ := hrow.publish
    cases e2
    obtain rfl : X = 0 := hX.zero_iff.1 (by omega)
    rw [Nat.zero_mul, Nat.zero_add] at hval
    obtain ⟨hpne, hplast⟩ := hlast rfl
    have hpp := SlV.toN hsv rfl
    have hst6 := hst
    refine stepK_allocW rfl rfl rfl rfl zf66 rfl ?_
    have hbel : Below w1.heap.size w1 (w1.alloc (.cells [.pointer none, .slice none 0 0].toArray 99)) := ⟨rfl, rfl, rfl, by simp, fun k hk => Below.heap_alloc _ _ _ hk⟩
    have hbld : Lib.IsBuilder 99 5 w1.heap.size w1.heap.size (Lib.byteCells []) (w1.alloc (.cells [.pointer none, .slice none 0 0].toArray 99)) := .inl ⟨Nat.le_refl _, _, heap_alloc_new _ _, World.ownsRow_nil _ _ _ _, by simp [Value.ownBlock]⟩
    clear hst
    have hst := hst6.later hbel
    refine znq ?_
    refine zsr ?_
    refine zM rfl hst rfl ?_
    refine stepK_d rfl rfl rfl hst (does_len_slice rfl zf65 rfl) ?_
    refine stepK_d rfl rfl rfl hst (Does.int (does_sub rfl rfl rfl) (wrap_i64 (by omega) (by omega))) ?_
    refine zA rfl hst rfl ?_
    refine znt ?_
    refine cp_block ?_
    refine cp_loop (ι := Nat × List UInt8) (fun (k, acc) => [(3, .slice P ps.length cp), (5, .pointer (some ⟨w1.heap.size, 0, none⟩)), (6, .int .i64 ((k : Int) - 1))]) (fun (k, acc) w3 => Below w1.heap.size w1 w3 ∧ Lib.IsBuilder 99 5 w1.heap.size w1.heap.size (Lib.byteCells acc) w3 ∧ k ≤ ps.length ∧ acc = (if k = ps.length then [] else Lib.decDigits (pv (ps.drop k)))) (fun (k, acc) => k) (ps.length, []) ?k4 ?i4 ?r4
    case k4 => exact ⟨rfl, rfl, kint (by omega), trivial⟩
    case i4 =>
      refine ⟨hbel, hbld, Nat.le_refl _, by rw [if_pos rfl]⟩
    case r4 =>
      clear hst
      rintro ⟨k, acc⟩ w3 ⟨hbel, hbld, hk, hacc⟩
      have hst := hst6.later hbel
      refine cp_seq ?_
      refine zsr ?_
      refine zM rfl hst rfl ?_
      refine stepK_d rfl rfl rfl hst (does_geq rfl rfl rfl) ?_
      refine znt ?_
      refine cp_if rfl ?_ ?_
      intro c30
      refine cp_skip ?_
      refine cp_then ?_
      refine cp_seq ?_
      refine cp_block ?_
      refine cp_seq ?_
      obtain ⟨b8, o8, rfl, hb8⟩ := hpp.some_ (by omega)
      obtain ⟨x, hx⟩ := get_of_lt (ws := ps) (j := k - 1) (by omega)
      have hxl : x < 10000000000000000000 := hps x (List.mem_of_getElem? hx)
      have hout := hst
      replace hst := St.init hst.agree
      refine cp_region ?_
      refine stepK_alloc rfl rfl rfl rfl zf67 rfl hst ?_
      clear hst
      intro bd w5 hst
      replace hst : St w3 [] g2 g2 [(bd, .cells (uN .u8 (List.replicate 19 0)).toArray 100 (0, 0))] _ := hst
      refine zn4 ?_
      refine zM rfl hst rfl ?_
      refine zM rfl hst rfl ?_
      refine stepK_d rfl rfl rfl hst (does_indexAddr1 (j := (k - 1)) rfl zf65 (by kernel_rfl) rfl rfl (by omega) (by omega)) ?_
      refine stepK_d rfl rfl rfl hst (does_load_g1 rfl (by kernel_rfl) rfl (hb8.at_ _ _ hx)) ?_
      refine zA rfl hst rfl ?_
      refine znq ?_
      refine zsr ?_
      refine zA rfl hst rfl ?_
      refine znt ?_
      refine cp_block ?_
      refine cp_loop (ι := Nat × Nat × List Nat) (fun (j, Y, ds) => [(3, .slice (some ⟨b8, o8, none⟩) ps.length cp), (5, .pointer (some ⟨w1.heap.size, 0, none⟩)), (6, .int .i64 ((k : Int) - 1)), (7, .pointer (some ⟨bd, 0, none⟩)), (8, .int .u64 (Y : Int)), (9, .int .i64 ((j : Int) - 1))]) (fun (j, Y, ds) w4 => St w3 [] g2 g2 [(bd, .cells (uN .u8 ds).toArray 100 (0, 0))] w4 ∧ j ≤ 19 ∧ ds.length = 19 ∧ Y < 10 ^ j ∧ (∀ d ∈ ds.drop j, 48 ≤ d ∧ d ≤ 57) ∧ Y * 10 ^ (19 - j) + dvL ((ds.drop j).map UInt8.ofNat) = x) (fun (j, Y, ds) => j) (19, x, List.replicate 19 0) ?k6 ?i6 ?r6
      case k6 => exact ⟨rfl, rfl, rfl, rfl, rfl, rfl, trivial⟩
      case i6 =>
        exact ⟨hst, Nat.le_refl _, by simp, hxl, by simp, by simp [dvL]⟩
      case r6 =>
        clear hst
        rintro ⟨j, Y, ds⟩ w4 ⟨hst, hj, hdl, hY, hdd, hdv⟩
        have hYl : Y < 18446744073709551616 := Nat.lt_of_lt_of_le hY (Nat.le_trans (Nat.pow_le_pow_right (by decide) hj) (by decide))
        refine cp_seq ?_
        refine zsr ?_
        refine zM rfl hst rfl ?_
        refine stepK_d rfl rfl rfl hst (does_geq rfl rfl rfl) ?_
        refine znt ?_
        refine cp_if rfl ?_ ?_
        intro c38
        refine cp_skip ?_
        refine cp_then ?_
        refine cp_seq ?_
        refine cp_block ?_
        refine zsr ?_
        refine zM rfl hst rfl ?_
        refine zM rfl hst rfl ?_
        refine stepK_d rfl rfl rfl hst (does_rem_n (b := 10) rfl rfl rfl (by omega)) ?_
        refine stepK_d rfl rfl rfl hst (Does.nat (b := 48 + Y % 10) (does_add_u64 (a := 48) rfl rfl rfl) (by omega)) ?_
        refine stepK_d rfl rfl rfl hst (Does.nat (b := 48 + Y % 10) (does_conv_n_u8 rfl (by kernel_rfl) (by kernel_rfl) rfl) (by omega)) ?_
        refine stepK_d rfl rfl rfl hst (does_indexAddr_arr (j := (j - 1)) rfl zf68 zf69 rfl rfl (by omega) (by omega)) ?_
        refine stepK_store 0 rfl rfl rfl rfl rfl rfl zf69 rfl rfl hst rfl (by first | (simp [uN_length]; omega) | simp) ?_
        clear hst
        intro w7 hst
        rw [Nat.mul_one, Nat.zero_add, splice_uN _ _ _ _ (by omega)] at hst
        simp only [List.set_cons_zero] at hst
        refine zn3 ?_
        refine zM rfl hst rfl ?_
        refine stepK_d rfl rfl rfl hst (Does.nat (b := Y / 10) (does_quo_u64 (b := 10) rfl rfl rfl (by omega) (by omega)) rfl) ?_
        refine zA rfl hst rfl ?_
        refine wpK_nil ?_
        refine at_block_normal ?_
        refine cp_then ?_
        refine cp_region ?_
        refine zM rfl hst rfl ?_
        refine stepK_d rfl rfl rfl hst (Does.int (does_sub rfl rfl rfl) (wrap_i64 (by omega) (by omega))) ?_
        refine zA rfl hst rfl ?_
        refine wpK_nil ?_
        refine round_end ((j - 1, Y / 10, ds.set (j - 1) (48 + Y % 10))) ?_ ?_ ?_
        exact ⟨rfl, rfl, rfl, rfl, rfl, kint (by omega), trivial⟩
        exact ⟨hst, by omega, by simp [hdl], digit_lt hY (by omega), digit_ok hdd (by omega), digit_put hdv hdd (by omega) hj hdl⟩
        show j - 1 < j
        omega
        intro c38
        refine cp_exit ?_
        refine at_then_exit ?_
        refine at_then_exit ?_
        refine cp_exit_here ?_
        refine cp_then ?_
        refine cp_seq ?_
        obtain rfl : j = 0 := by omega
        rw [List.drop_zero] at hdd hdv
        obtain rfl : Y = 0 := by simpa using hY
        rw [Nat.zero_mul, Nat.zero_add] at hdv
        have hdig : DigL (ds.map UInt8.ofNat) := digL_map hdd
        refine cp_region ?_
        refine stepK_d rfl rfl rfl hst (does_slice_arr (N := 19) (e := 5) rfl (by kernel_rfl) (by kernel_rfl) rfl (by decide)) ?_
        refine stepK_d rfl rfl rfl hst (does_conv_bytes (e := 5) 0 rfl (by kernel_rfl) (by kernel_rfl) (by kernel_rfl) rfl rfl hdl) ?_
        refine zA rfl hst rfl ?_
        refine znt ?_
        refine cp_join (ι := ByteArray) (fun s2 => [(3, .slice (some ⟨b8, o8, none⟩) ps.length cp), (5, .pointer (some ⟨w1.heap.size, 0, none⟩)), (6, .int .i64 ((k : Int) - 1)), (10, .string s2)]) (fun s2 w5 => Below w3.heap.size w3 w5 ∧ s2.size ≤ 19 ∧ acc ++ Lb s2 = Lib.decDigits (pv (ps.drop (k - 1)))) ?c8 ?d8
        case c8 =>
          refine zsr ?_
          refine zM rfl hst rfl ?_
          refine zM rfl hst rfl ?_
          refine stepK_d rfl rfl rfl hst (does_len_slice rfl zf65 rfl) ?_
          refine stepK_d rfl rfl rfl hst (Does.int (does_sub rfl rfl rfl) (wrap_i64 (by omega) (by omega))) ?_
          refine stepK_d rfl rfl rfl hst (does_eql rfl rfl rfl) ?_
          refine znt ?_
          refine cp_if rfl ?_ ?_
          intro c55
          refine cp_region ?_
          refine zM rfl hst rfl ?_
          refine stepK_call rfl rfl rfl rfl rfl hst (strings_TrimLeft hst.agree (c := 48) (by show _ ≤ _; rw [← Lb_length, Lb_mk, List.length_map, hdl]; decide) (by decide)) ?_
          clear hst
          intro v9 g9 w9 hst hle9 hcs9 hp9
          obtain rfl := hp9
          refine zA rfl hst rfl ?_
          refine wpK_nil ?_
          refine join_end (⟨((Lb ⟨(ds.map UInt8.ofNat).toArray⟩).dropWhile (· == 48)).toArray⟩) ?_ ?_
          exact ⟨rfl, rfl, rfl, rfl, trivial⟩
          exact ⟨hst.below, strip_size hdl, text_first hacc hdig hdv hx (by omega) hplast⟩
          intro c55
          refine cp_skip ?_
          refine join_end (⟨(ds.map UInt8.ofNat).toArray⟩) ?_ ?_
          exact ⟨rfl, rfl, rfl, rfl, trivial⟩
          exact ⟨hst.below, by rw [← Lb_length, Lb_mk, List.length_map, hdl]; exact Nat.le_refl _, text_next hacc hdig (by rw [List.length_map]; exact hdl) hdv hx (by omega) (by omega) hplast⟩
        case d8 =>
          clear hst
          rintro s2 w5 ⟨hb35, hs2, hacc2⟩
          have hst := hout.later hb35
          refine cp_region ?_
          refine zM rfl hst rfl ?_
          refine stepK_callR rfl rfl rfl rfl rfl (Builder_WriteString (IsBuilder.later hbld hb35) (Nat.le_trans hbel.size hb35.size) (by have := acc_len hacc hps hk; omega)) ?_
          rintro e w6 ⟨⟨r9, rfl⟩, hbld9, hb56⟩
          refine ⟨_, rfl, ?_⟩
          have hbel9 : Below w1.heap.size w1 w6 := hbel.trans (Below.trans ⟨hb35.os, hb35.tape, hb35.output, hb35.size, fun k hk => hb35.block k (Nat.lt_of_lt_of_le hk hbel.size)⟩ hb56)
          have hacc9 : acc ++ Lb s2 = (if k - 1 = ps.length then [] else Lib.decDigits (pv (ps.drop (k - 1)))) := by
            rw [if_neg (by omega)]
            exact hacc2
          clear hst
          have hst := hst6.later hbel9
          refine wpK_nil ?_
          refine at_block_normal ?_
          refine cp_then ?_
          refine cp_region ?_
          refine zM rfl hst rfl ?_
          refine stepK_d rfl rfl rfl hst (Does.int (does_sub rfl rfl rfl) (wrap_i64 (by omega) (by omega))) ?_
          refine zA rfl hst rfl ?_
          refine wpK_nil ?_
          refine round_end ((k - 1, acc ++ Lb s2)) ?_ ?_ ?_
          exact ⟨rfl, rfl, kint (by omega), trivial⟩
          exact ⟨hbel9, hbld9, by omega, hacc9⟩
          show k - 1 < k
          omega
      intro c30
      refine cp_exit ?_
      refine at_then_exit ?_
      refine at_then_exit ?_
      refine cp_exit_here ?_
      refine cp_then ?_
      refine zsr ?_
      obtain rfl : k = 0 := by omega
      rw [if_neg (by have := List.length_pos_iff.2 hpne; omega), List.drop_zero, ← hval] at hacc
      subst hacc
      refine stepK_callR rfl rfl rfl rfl rfl (.inl ⟨enters zf70 (by kernel_rfl) rfl _ _, Tryd.Builder_String_any _ _ _ _ hbld hbel.size⟩) ?_
      rintro e w9 ⟨rfl, hb9⟩
      refine ⟨_, rfl, ?_⟩
      clear hst
      have hst := hst6.later (hbel.trans hb9)
      refine zA rfl hst rfl ?_
      refine znt ?_
      refine cp_ret ?_
      refine ret1 rfl rfl hst ?_
      rfl

end Go.Proofs.YtcjhnkmoloiepaaDoor

namespace Go.Proofs.YtcjhnkmoloiepaaDoor
open Go Go.RowKit Go.Proofs.Vc
set_option linter.unusedVariables false
set_option linter.unusedSimpArgs false


theorem iFormatInt {g : Mem} {w : World} (hag : Agree g w) (hT : TabG Tryd.prog g) {n : Int} (h1 : -9223372036854775808 ≤ n) (h2 : n ≤ 9223372036854775807) :
    CallTo Tryd.prog 68 #[.int .i64 n, .int .i64 10] w (Ret w g fun v g' => v = .string ⟨(Lib.itoa n).toArray⟩) :=
  .inl ⟨enters zf71 (by kernel_rfl) rfl _ _, (Tryd.internal_strconv_FormatInt_10 n h1 h2 w (hT w hag)).mono fun e w' ⟨he, k, os, hw⟩ => ⟨_, g, he, by rw [hw]; exact St.of_below hag (below_grow _ _ _), rfl⟩⟩

set_option maxHeartbeats 1000000 in
theorem FormatInt {g : Mem} {w : World} (hag : Agree g w) (hT : TabG Tryd.prog g) {n : Int} (h1 : -9223372036854775808 ≤ n) (h2 : n ≤ 9223372036854775807) :
    CallTo Tryd.prog 55 #[.int .i64 n, .int .i64 10] w (Ret w g fun v g => v = .string ⟨(Lib.itoa n).toArray⟩) := by
  refine CallTo.enter (vs := [.int .i64 n, .int .i64 10]) zf72 (by kernel_rfl) rfl rfl rfl ?_
  have hst := St.init hag
  refine zsr ?_
  refine zA rfl hst rfl ?_
  refine zn4 ?_
  refine zM rfl hst rfl ?_
  refine zM rfl hst rfl ?_
  refine stepK_call rfl rfl rfl rfl rfl hst (iFormatInt hst.agree hT h1 h2) ?_
  clear hst
  intro v1 g1 w1 hst hle1 hcs1 hp1
  replace hT := hT.mono hle1
  obtain rfl := hp1
  refine zA rfl hst rfl ?_
  refine znt ?_
  refine cp_ret ?_
  refine ret1 rfl rfl hst ?_
  rfl

end Go.Proofs.YtcjhnkmoloiepaaDoor

namespace Go.Proofs.YtcjhnkmoloiepaaDoor
open Go Go.RowKit Go.Proofs.Vc
set_option linter.unusedVariables false
set_option linter.unusedSimpArgs false

set_option maxHeartbeats 1000000 in
theorem Rat_String {g : Mem} {w : World} (hag : Agree g w) (hT : TabG Tryd.prog g) {p q : Int} {a : Option Addr} {r : Rat} (ha : IsRat g p q a r) (hfa : Fit r) :
    CallTo Tryd.prog 27 #[.agg #[.int .i64 p, .int .i64 q, .pointer a]] w (Ret w g fun v g => v = .string (ratS r)) := by
  refine CallTo.enter (vs := [.agg #[.int .i64 p, .int .i64 q, .pointer a]]) zf73 (by kernel_rfl) rfl rfl rfl ?_
  have hst := St.init hag
  refine zsr ?_
  refine stepK_box rfl rfl rfl rfl rfl rfl hst ?_
  clear hst
  intro rb w1 hst
  refine zA rfl hst rfl ?_
  refine znq ?_
  refine zsr ?_
  refine stepK_d rfl rfl rfl hst (does_fieldAddr rfl zf36 rfl) ?_
  refine stepK_d rfl rfl rfl hst (does_load_ownL 0 rfl (by kernel_rfl) rfl rfl rfl) ?_
  refine stepK_d rfl rfl rfl hst (does_eql_nilD rfl zf37 rfl rfl) ?_
  refine znt ?_
  refine cp_if rfl ?_ ?_
  intro c8
  obtain rfl : a = none := c8
  have hl := ha.low
  have hbd := hl.1.bound
  refine zsr ?_
  refine stepK_d rfl rfl rfl hst (does_load_ownN 0 rfl (by kernel_rfl) zf31 rfl rfl rfl) ?_
  refine stepK_call rfl rfl rfl rfl rfl hst (Rat_low hst.agree hl) ?_
  clear hst
  intro v2 g2 w2 hst hle2 hcs2 hp2
  replace ha := ha.mono hle2
  replace hT := hT.mono hle2
  obtain rfl := hp2
  refine zM rfl hst rfl ?_
  refine zE rfl hst rfl rfl ?_
  refine zE rfl hst rfl rfl ?_
  refine zA rfl hst rfl ?_
  refine zA rfl hst rfl ?_
  refine znq ?_
  refine zsr ?_
  refine zM rfl hst rfl ?_
  refine stepK_d rfl rfl rfl hst (does_eql rfl rfl rfl) ?_
  refine znt ?_
  refine cp_if rfl ?_ ?_
  intro c15
  refine zsr ?_
  refine zM rfl hst rfl ?_
  refine stepK_call rfl rfl rfl rfl rfl hst (FormatInt hst.agree hT (by omega) (by omega)) ?_
  clear hst
  intro v3 g3 w3 hst hle3 hcs3 hp3
  replace ha := ha.mono hle3
  replace hT := hT.mono hle3
  obtain rfl := hp3
  refine zA rfl hst rfl ?_
  refine zn5 ?_
  refine at_then_ret ?_
  refine ret1 rfl rfl hst ?_
  rw [ratS_of (itoa_one_den (by omega)).symm]
  intro c15
  refine zk4 ?_
  refine zM rfl hst rfl ?_
  refine stepK_call rfl rfl rfl rfl rfl hst (FormatInt hst.agree hT (by omega) (by omega)) ?_
  clear hst
  intro v4 g4 w4 hst hle4 hcs4 hp4
  replace ha := ha.mono hle4
  replace hT := hT.mono hle4
  obtain rfl := hp4
  have k1 := itoa_len r.num
  have k2 := len_small hl.1.1
  have k3 := itoa_len (r.den : Int)
  have k4 := len_small hl.1.2
  rw [show (r.den : Int).natAbs = r.den by omega] at k3
  refine stepK_d rfl rfl rfl hst (does_add_L (b := [47]) rfl rfl rfl (by simp; omega)) ?_
  refine zM rfl hst rfl ?_
  refine stepK_call rfl rfl rfl rfl rfl hst (FormatInt hst.agree hT (by omega) (by omega)) ?_
  clear hst
  intro v5 g5 w5 hst hle5 hcs5 hp5
  replace ha := ha.mono hle5
  replace hT := hT.mono hle5
  obtain rfl := hp5
  refine stepK_d rfl rfl rfl hst (does_add_L rfl rfl rfl (by simp; omega)) ?_
  refine zA rfl hst rfl ?_
  refine zn5 ?_
  refine ret1 rfl rfl hst ?_
  refine congrArg Value.string (ratS_of ?_)
  rw [itoa_den, ratL, if_neg (by omega)]
  simp
  intro c8
  obtain ⟨rfl, rfl, bl, rfl, hb9⟩ := ha.big c8
  obtain ⟨hs, A, n, c, B, m, d, e0, e1, e2, e3, e4⟩ := hb9
  have l1 := e3.len hfa.1
  have l2 := e4.len hfa.2
  have k1 := len_big hfa.1 (by decide)
  have k2 := len_big hfa.2 (by decide)
  refine zk4 ?_
  refine stepK_d rfl rfl rfl hst (does_fieldAddr rfl zf36 rfl) ?_
  refine stepK_d rfl rfl rfl hst (does_load_ownL 0 rfl (by kernel_rfl) rfl rfl rfl) ?_
  refine stepK_d rfl rfl rfl hst (does_nilCheck rfl rfl) ?_
  refine stepK_d rfl rfl rfl hst (does_fieldAddr rfl zf39 rfl) ?_
  refine stepK_d rfl rfl rfl hst (does_load_g1 rfl (by kernel_rfl) rfl e1) ?_
  refine stepK_call rfl rfl rfl rfl rfl hst (num_text hst.agree e3 (by omega)) ?_
  clear hst
  intro v6 g6 w6 hst hle6 hcs6 hp6
  replace ha := ha.mono hle6
  replace hT := hT.mono hle6
  obtain rfl := hp6
  refine zA rfl hst rfl ?_
  refine znt ?_
  refine cp_join (ι := List UInt8) (fun u => [(1, .pointer (some ⟨rb, 0, none⟩)), (5, .string ⟨u.toArray⟩)]) (fun u w2 => ∃ g2, St w [] g g2 [(rb, .cells #[.int .i64 0, .int .i64 0, .pointer (some ⟨bl, 0, none⟩)] 46 (0, 0))] w2 ∧ TabG Tryd.prog g2 ∧ GCell g2 bl 2 (.slice B m d) ∧ IsNat g2 B m r.den ∧ u = (if r.num < 0 then 45 :: Lib.decDigits r.num.natAbs else Lib.decDigits r.num.natAbs)) ?c7 ?d7
  case c7 =>
    refine zsr ?_
    replace e0 := gcell_le (by assumption) e0
    replace e2 := gcell_le (by assumption) e2
    replace e3 := e3.mono (by assumption)
    replace e4 := e4.mono (by assumption)
    refine stepK_d rfl rfl rfl hst (does_fieldAddr rfl zf36 rfl) ?_
    refine stepK_d rfl rfl rfl hst (does_load_ownL 0 rfl (by kernel_rfl) rfl rfl rfl) ?_
    refine stepK_d rfl rfl rfl hst (does_nilCheck rfl rfl) ?_
    refine stepK_d rfl rfl rfl hst (does_fieldAddr rfl zf38 rfl) ?_
    refine stepK_d rfl rfl rfl hst (does_load_g1 rfl (by kernel_rfl) rfl e0) ?_
    refine znt ?_
    refine cp_if rfl ?_ ?_
    intro c34
    refine cp_region ?_
    refine zM rfl hst rfl ?_
    refine stepK_d rfl rfl rfl hst (does_add_L (a := [45]) rfl rfl rfl (by simp; omega)) ?_
    refine zA rfl hst rfl ?_
    refine wpK_nil ?_
    refine join_end (45 :: Lib.decDigits r.num.natAbs) ?_ ?_
    exact ⟨rfl, rfl, trivial⟩
    exact ⟨_, hst, hT, e2, e4, (if_pos c34).symm⟩
    intro c34
    refine cp_skip ?_
    refine join_end (Lib.decDigits r.num.natAbs) ?_ ?_
    exact ⟨rfl, rfl, trivial⟩
    exact ⟨_, hst, hT, e2, e4, (if_neg c34).symm⟩
  case d7 =>
    clear hst
    rintro u w2 ⟨g2, hst, hT, e2, e4, hu⟩
    have hul : u.length ≤ 20 * 1099511627776 + 1 := by rw [hu]; split <;> simp <;> omega
    refine cp_join (ι := List UInt8) (fun u2 => [(5, .string ⟨u2.toArray⟩)]) (fun u2 w4 => ∃ g4, St w [] g g4 [] w4 ∧ u2 = ratL r) ?c8 ?d8
    case c8 =>
      refine zsr ?_
      refine stepK_d rfl rfl rfl hst (does_fieldAddr rfl zf36 rfl) ?_
      refine stepK_d rfl rfl rfl hst (does_load_ownL 0 rfl (by kernel_rfl) rfl rfl rfl) ?_
      refine stepK_d rfl rfl rfl hst (does_nilCheck rfl rfl) ?_
      refine stepK_d rfl rfl rfl hst (does_fieldAddr rfl zf40 rfl) ?_
      refine stepK_d rfl rfl rfl hst (does_load_g1 rfl (by kernel_rfl) rfl e2) ?_
      refine stepK_buildSlice rfl rfl rfl rfl zf1 zf2 rfl rfl (by decide) (by decide) (by decide) rfl rfl hst ?_
      clear hst
      intro b9 w9 hst
      obtain ⟨g9, hst, hle9, h1⟩ := hst.lit (x := 1) (by decide) (by decide)
      replace hT := hT.mono hle9
      replace e4 := e4.mono hle9
      replace e2 := e2.mono hle9
      refine stepK_call rfl rfl rfl rfl rfl hst (num_compare hst.agree e4 h1 (by omega)) ?_
      clear hst
      intro v10 g10 w10 hst hle10 hcs10 hp10
      replace hT := hT.mono hle10
      replace e4 := e4.mono hle10
      replace e2 := e2.mono hle10
      replace h1 := h1.mono hle10
      obtain rfl := hp10
      refine stepK_d rfl rfl rfl hst (does_neq rfl rfl rfl) ?_
      refine znt ?_
      refine cp_if rfl ?_ ?_
      intro c44
      refine cp_region ?_
      refine zM rfl hst rfl ?_
      refine stepK_d rfl rfl rfl hst (does_fieldAddr rfl zf36 rfl) ?_
      refine stepK_d rfl rfl rfl hst (does_load_ownL 0 rfl (by kernel_rfl) rfl rfl rfl) ?_
      refine stepK_d rfl rfl rfl hst (does_nilCheck rfl rfl) ?_
      refine stepK_d rfl rfl rfl hst (does_fieldAddr rfl zf40 rfl) ?_
      refine stepK_d rfl rfl rfl hst (does_load_g1 rfl (by kernel_rfl) rfl e2) ?_
      refine stepK_call rfl rfl rfl rfl rfl hst (num_text hst.agree e4 (by omega)) ?_
      clear hst
      intro v11 g11 w11 hst hle11 hcs11 hp11
      replace hT := hT.mono hle11
      replace e4 := e4.mono hle11
      replace e2 := e2.mono hle11
      replace h1 := h1.mono hle11
      obtain rfl := hp11
      refine stepK_d rfl rfl rfl hst (does_add_L (a := [47]) rfl rfl rfl (by simp; omega)) ?_
      refine stepK_d rfl rfl rfl hst (does_add_L rfl rfl rfl (by simp; omega)) ?_
      refine zA rfl hst rfl ?_
      refine wpK_nil ?_
      have hd1 : r.den ≠ 1 := fun e => c44 (cmpN_zero.2 e)
      refine join_end (u ++ (47 :: Lib.decDigits r.den)) ?_ ?_
      exact ⟨rfl, trivial⟩
      exact ⟨_, hst.forget, by rw [ratL_cut, if_neg hd1, hu]⟩
      intro c44
      refine cp_skip ?_
      have hd1 : r.den = 1 := cmpN_zero.1 (Decidable.byContradiction c44)
      refine join_end (u) ?_ ?_
      exact ⟨rfl, trivial⟩
      exact ⟨_, hst.forget, by rw [ratL_cut, if_pos hd1, hu, List.append_nil]⟩
    case d8 =>
      clear hst
      rintro u2 w4 ⟨g4, hst, hu2⟩
      refine zsr ?_
      refine zM rfl hst rfl ?_
      refine zA rfl hst rfl ?_
      refine znt ?_
      refine cp_ret ?_
      refine ret1 rfl rfl hst ?_
      rw [hu2]
      rfl

end Go.Proofs.YtcjhnkmoloiepaaDoor
