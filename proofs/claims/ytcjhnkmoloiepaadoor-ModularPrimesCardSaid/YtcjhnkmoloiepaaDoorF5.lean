/- A helper of the claim: general lemmas and walks of functions, printed by a program of this session. Conditions: none. -/
import Derived.Test.YtcjhnkmoloiepaaDoorF4
import Derived.Test.YtcjhnkmoloiepaaDoorQ2
import Derived.Test.YtcjhnkmoloiepaaDoorProg
import Derived.Test.YtcjhnkmoloiepaaDoorF0
namespace Go.Proofs.YtcjhnkmoloiepaaDoor
open Go Go.RowKit Go.Proofs.Vc
set_option linter.unusedVariables false
set_option linter.unusedSimpArgs false

set_option maxHeartbeats 1000000 in
theorem num_divisor {g : Mem} {w : World} (hag : Agree g w) {A B : Option Addr} {n c m d N M : Nat} (ha : IsNat g A n N) (hb : IsNat g B m M) (hn : n ≤ 8796093022206) (hm : m ≤ 8796093022206) :
    CallTo Tryd.prog 59 #[.slice A n c, .slice B m d] w (Ret w g fun v g => ∃ A n c, v = .slice A n c ∧ IsNat g A n (Nat.gcd N M)) := by
  refine CallTo.enter (vs := [.slice A n c, .slice B m d]) zf22 (by kernel_rfl) rfl rfl rfl ?_
  have hst := St.init hag
  refine zsr ?_
  refine zA rfl hst rfl ?_
  refine znq ?_
  refine cp_block ?_
  refine cp_loop (ι := Option Addr × Nat × Nat × Nat × Option Addr × Nat × Nat × Nat) (fun (A, n, c, X, B, m, d, Y) => [(0, .slice A n c), (1, .slice B m d)]) (fun (A, n, c, X, B, m, d, Y) w1 => ∃ g1, St w [] g g1 [] w1 ∧ IsNat g1 A n X ∧ IsNat g1 B m Y ∧ n ≤ 8796093022206 ∧ m ≤ 8796093022206 ∧ Nat.gcd X Y = Nat.gcd N M) (fun (A, n, c, X, B, m, d, Y) => Y) (A, n, c, N, B, m, d, M) ?k1 ?i1 ?r1
  case k1 => exact ⟨rfl, rfl, trivial⟩
  case i1 =>
    exact ⟨_, hst, ha, hb, hn, hm, rfl⟩
  case r1 =>
    clear hst
    clear ha hb hn hm
    rintro ⟨A, n, c, X, B, m, d, Y⟩ w1 ⟨g1, hst, ha, hb, hn, hm, hG⟩
    refine cp_seq ?_
    refine zsr ?_
    refine zM rfl hst rfl ?_
    refine stepK_d rfl rfl rfl hst (does_len_slice rfl zf1 rfl) ?_
    refine stepK_d rfl rfl rfl hst (does_gtr rfl rfl rfl) ?_
    refine znt ?_
    refine cp_if rfl ?_ ?_
    intro c11
    refine cp_skip ?_
    refine cp_then ?_
    refine cp_block ?_
    refine cp_seq ?_
    refine cp_seq ?_
    have hY0 : 0 < Y := Nat.pos_of_ne_zero fun e => by have := hb.zero_iff.2 e; omega
    refine cp_region ?_
    refine zM rfl hst rfl ?_
    refine stepK_d rfl rfl rfl hst (does_len_slice rfl zf1 rfl) ?_
    refine stepK_d rfl rfl rfl hst (does_leq rfl rfl rfl) ?_
    refine zM rfl hst rfl ?_
    refine wpK_split (t := 15) rfl ?_ ?_
    intro s15
    refine stepK_guard rfl rfl rfl rfl rfl rfl hst (does_move rfl rfl) ?_
    refine stepK_guard rfl rfl rfl rfl rfl rfl hst (does_len_slice rfl zf1 rfl) ?_
    refine stepK_guard rfl rfl rfl rfl rfl rfl hst (does_leq rfl rfl rfl) ?_
    refine stepK_d rfl rfl rfl hst (does_pick_true rfl rfl rfl) ?_
    refine znt ?_
    refine cp_if rfl ?_ ?_
    intro c19
    refine cp_seq ?_
    obtain rfl : m = 1 := by omega
    obtain ⟨b1, o1, rfl, hYl, hcY⟩ := hb.word
    have hXl : X < 18446744073709551616 := by
      have h9 := ha.lt
      refine Nat.lt_of_lt_of_le h9 (Nat.le_trans (Nat.pow_le_pow_right (by decide) (show n ≤ 1 by omega)) (by decide))
    refine cp_drawn (by kernel_rfl) 5 [(0, true), (1, true), (2, true), (3, true), (4, true)] _ rfl (by kernel_rfl) (by kernel_rfl) (by kernel_rfl) (fun _ _ _ _ _ h => h) _ (hst.drew) ?_
    have hst0 := hst.drew
    clear hst
    have hst := hst0
    refine stepD_d rfl rfl rfl rfl (does_move rfl rfl) ?_
    refine stepD_d rfl rfl rfl rfl (does_indexAddr1 rfl zf1 (by kernel_rfl) rfl rfl rfl (by decide)) ?_
    refine stepD_d rfl rfl rfl rfl (does_load_g1 rfl (by kernel_rfl) rfl hcY) ?_
    refine stepD_d rfl rfl rfl rfl (does_assign rfl rfl) ?_
    refine stepD_d rfl rfl rfl rfl (does_assign rfl rfl) ?_
    refine stepD_tail ?_
    refine znt ?_
    refine cp_join (ι := Nat) (fun x => [(5, .int .u64 (x : Int)), (6, .int .u64 (Y : Int))]) (fun x w2 => St w [] g g1 [] w2 ∧ x = X) ?c2 ?d2
    case c2 =>
      refine zsr ?_
      refine zM rfl hst rfl ?_
      refine stepK_d rfl rfl rfl hst (does_len_slice rfl zf1 rfl) ?_
      refine stepK_d rfl rfl rfl hst (does_gtr rfl rfl rfl) ?_
      refine znt ?_
      refine cp_if rfl ?_ ?_
      intro c25
      obtain rfl : n = 1 := by omega
      obtain ⟨b2, o2, rfl, hXl2, hcX⟩ := ha.word
      refine cp_region ?_
      refine zM rfl hst rfl ?_
      refine stepK_d rfl rfl rfl hst (does_indexAddr1 rfl zf1 (by kernel_rfl) rfl rfl rfl (by decide)) ?_
      refine stepK_d rfl rfl rfl hst (does_load_g1 rfl (by kernel_rfl) rfl hcX) ?_
      refine zA rfl hst rfl ?_
      refine wpK_nil ?_
      refine join_end (X) ?_ ?_
      exact ⟨rfl, rfl, trivial⟩
      exact ⟨hst, rfl⟩
      intro c25
      refine cp_skip ?_
      have hn0 : n = 0 := by omega
      refine join_end (0) ?_ ?_
      exact ⟨rfl, rfl, trivial⟩
      exact ⟨hst, (ha.zero_iff.1 hn0).symm⟩
    case d2 =>
      clear hst
      rintro x w2 ⟨hst, rfl⟩
      refine cp_seq ?_
      refine cp_block ?_
      refine cp_loop (ι := Nat × Nat) (fun (x, y) => [(5, .int .u64 (x : Int)), (6, .int .u64 (y : Int))]) (fun (x, y) w3 => St w [] g g1 [] w3 ∧ x < 18446744073709551616 ∧ y < 18446744073709551616 ∧ Nat.gcd x y = Nat.gcd N M) (fun (x, y) => y) (x, Y) ?k3 ?i3 ?r3
      case k3 => exact ⟨rfl, rfl, trivial⟩
      case i3 =>
        exact ⟨hst, hXl, hYl, hG⟩
      case r3 =>
        clear hst
        rintro ⟨x, y⟩ w3 ⟨hst, hx, hy, hG⟩
        refine cp_seq ?_
        refine zsr ?_
        refine zM rfl hst rfl ?_
        refine stepK_d rfl rfl rfl hst (does_neq_n (b := 0) rfl rfl rfl) ?_
        refine znt ?_
        refine cp_if rfl ?_ ?_
        intro c30
        refine cp_skip ?_
        refine cp_then ?_
        refine cp_block ?_
        refine cp_drawn (by kernel_rfl) 6 [(0, true), (1, true), (2, true), (3, true), (4, true), (5, true)] _ rfl (by kernel_rfl) (by kernel_rfl) (by kernel_rfl) (fun _ _ _ _ _ h => h) _ (hst.drew) ?_
        have hst0 := hst.drew
        clear hst
        have hst := hst0
        refine stepD_d rfl rfl rfl rfl (does_move rfl rfl) ?_
        refine stepD_d rfl rfl rfl rfl (does_move rfl rfl) ?_
        refine stepD_d rfl rfl rfl rfl (does_move rfl rfl) ?_
        refine stepD_d rfl rfl rfl rfl (does_rem_n rfl rfl rfl (by omega)) ?_
        refine stepD_d rfl rfl rfl rfl (does_assign rfl rfl) ?_
        refine stepD_d rfl rfl rfl rfl (does_assign rfl rfl) ?_
        refine stepD_tail ?_
        refine wpK_nil ?_
        refine at_block_normal ?_
        refine round_end ((y, x % y)) ?_ ?_ ?_
        exact ⟨rfl, rfl, trivial⟩
        exact ⟨hst, hy, Nat.lt_trans (Nat.mod_lt _ (by omega)) hy, gcd_step.trans hG⟩
        show x % y < y
        exact Nat.mod_lt _ (by omega)
        intro c30
        refine cp_exit ?_
        refine at_then_exit ?_
        refine at_then_exit ?_
        refine cp_exit_here ?_
        refine cp_then ?_
        refine zsr ?_
        refine zM rfl hst rfl ?_
        refine stepK_call rfl rfl rfl rfl rfl hst (num_word hst.agree hx) ?_
        clear hst
        intro v4 g4 w4 hst hle4 hcs4 hp4
        obtain ⟨A4, n4, c4, rfl, hn4⟩ := hp4
        refine zA rfl hst rfl ?_
        refine zn5 ?_
        refine at_block_ret ?_
        refine at_then_ret ?_
        refine at_block_ret ?_
        refine at_then_ret ?_
        refine ret1 rfl rfl hst ?_
        refine ⟨_, _, _, rfl, ?_⟩
        obtain rfl : y = 0 := by omega
        rw [Nat.gcd_zero_right] at hG
        rw [← hG]
        assumption
    intro c19
    refine zk4 ?_
    refine zM rfl hst rfl ?_
    refine zM rfl hst rfl ?_
    refine stepK_call rfl rfl rfl rfl rfl hst (num_divide hst.agree ha hb hY0 hn hm) ?_
    clear hst
    intro v5 g5 w5 hst hle5 hcs5 hp5
    replace ha := ha.mono hle5
    replace hb := hb.mono hle5
    obtain ⟨A8, n8, c8, B9, m9, d9, rfl, hQ, hR⟩ := hp5
    refine zM rfl hst rfl ?_
    refine zE rfl hst rfl rfl ?_
    refine zE rfl hst rfl rfl ?_
    refine zA rfl hst rfl ?_
    refine zA rfl hst rfl ?_
    refine zn3 ?_
    refine zM rfl hst rfl ?_
    refine zM rfl hst rfl ?_
    refine zA rfl hst rfl ?_
    refine zA rfl hst rfl ?_
    refine wpK_nil ?_
    refine at_block_normal ?_
    refine round_end ((B, m, d, Y, B9, m9, d9, X % Y)) ?_ ?_ ?_
    exact ⟨rfl, rfl, trivial⟩
    exact ⟨_, hst, hb, hR, hm, by have := hR.len (Nat.lt_trans (Nat.mod_lt X hY0) hb.lt); omega, gcd_step.trans hG⟩
    show X % Y < Y
    exact Nat.mod_lt _ hY0
    intro s15
    refine stepK_pass rfl rfl rfl rfl rfl rfl rfl ?_
    refine stepK_pass rfl rfl rfl rfl rfl rfl rfl ?_
    refine stepK_pass rfl rfl rfl rfl rfl rfl rfl ?_
    refine stepK_d rfl rfl rfl hst (does_pick_false rfl rfl rfl) ?_
    refine znt ?_
    refine cp_cond_false rfl ?_
    refine zk4 ?_
    refine zM rfl hst rfl ?_
    refine zM rfl hst rfl ?_
    refine stepK_call rfl rfl rfl rfl rfl hst (num_divide hst.agree ha hb hY0 hn hm) ?_
    clear hst
    intro v6 g6 w6 hst hle6 hcs6 hp6
    replace ha := ha.mono hle6
    replace hb := hb.mono hle6
    obtain ⟨A8, n8, c8, B9, m9, d9, rfl, hQ, hR⟩ := hp6
    refine zM rfl hst rfl ?_
    refine zE rfl hst rfl rfl ?_
    refine zE rfl hst rfl rfl ?_
    refine zA rfl hst rfl ?_
    refine zA rfl hst rfl ?_
    refine zn3 ?_
    refine zM rfl hst rfl ?_
    refine zM rfl hst rfl ?_
    refine zA rfl hst rfl ?_
    refine zA rfl hst rfl ?_
    refine wpK_nil ?_
    refine at_block_normal ?_
    refine round_end ((B, m, d, Y, B9, m9, d9, X % Y)) ?_ ?_ ?_
    exact ⟨rfl, rfl, trivial⟩
    exact ⟨_, hst, hb, hR, hm, by have := hR.len (Nat.lt_trans (Nat.mod_lt X hY0) hb.lt); omega, gcd_step.trans hG⟩
    show X % Y < Y
    exact Nat.mod_lt _ hY0
    intro c11
    refine cp_exit ?_
    refine at_then_exit ?_
    refine at_then_exit ?_
    refine cp_exit_here ?_
    refine cp_then ?_
    refine zsr ?_
    refine zM rfl hst rfl ?_
    refine zA rfl hst rfl ?_
    refine znt ?_
    refine cp_ret ?_
    refine ret1 rfl rfl hst ?_
    refine ⟨_, _, _, rfl, ?_⟩
    obtain rfl : Y = 0 := hb.zero_iff.1 (by omega)
    rw [Nat.gcd_zero_right] at hG
    rw [← hG]
    exact ha

end Go.Proofs.YtcjhnkmoloiepaaDoor

namespace Go.Proofs.YtcjhnkmoloiepaaDoor
open Go Go.RowKit Go.Proofs.Vc
set_option linter.unusedVariables false
set_option linter.unusedSimpArgs false

set_option maxHeartbeats 1000000 in
theorem num_digits {g : Mem} {w : World} (hag : Agree g w) {s : ByteArray} (hd : AllDig s) (hs : s.size ≤ 1099511627776) :
    CallTo Tryd.prog 58 #[.string s] w (Ret w g fun v g => ∃ A n c, v = .slice A n c ∧ IsNat g A n (dval s s.size)) := by
  refine CallTo.enter (vs := [.string s]) zf23 (by kernel_rfl) rfl rfl rfl ?_
  have hst := St.init hag
  refine zsr ?_
  refine zA rfl hst rfl ?_
  refine zn4 ?_
  refine zA rfl hst rfl ?_
  refine znq ?_
  refine cp_block ?_
  refine cp_loop (ι := ByteArray × Nat × Option Addr × Nat × Nat) (fun (t, p, A, n, c) => [(0, .string t), (3, .slice A n c)]) (fun (t, p, A, n, c) w1 => ∃ g1, St w [] g g1 [] w1 ∧ t = s.extract p s.size ∧ p ≤ s.size ∧ (p = 0 ∨ (s.size - p) % 19 = 0) ∧ IsNat g1 A n (dval s p)) (fun (t, p, A, n, c) => s.size - p) (s, 0, none, 0, 0) ?k1 ?i1 ?r1
  case k1 => exact ⟨rfl, rfl, trivial⟩
  case i1 =>
    exact ⟨_, hst, by rw [ByteArray.extract_zero_size], Nat.zero_le _, .inl rfl, IsNat.nil _⟩
  case r1 =>
    clear hst
    rintro ⟨t, p, A, n, c⟩ w1 ⟨g1, hst, ht, hp, hp19, ha⟩
    have htl : t.size = s.size - p := by rw [ht, size_tail]
    refine cp_seq ?_
    refine zsr ?_
    refine zM rfl hst rfl ?_
    refine stepK_d rfl rfl rfl hst (does_len_string rfl (by kernel_rfl) rfl) ?_
    refine stepK_d rfl rfl rfl hst (does_gtr rfl rfl rfl) ?_
    refine znt ?_
    refine cp_if rfl ?_ ?_
    intro c9
    refine cp_skip ?_
    refine cp_then ?_
    refine cp_block ?_
    refine zsr ?_
    refine zM rfl hst rfl ?_
    refine stepK_d rfl rfl rfl hst (does_len_string rfl (by kernel_rfl) rfl) ?_
    refine stepK_d rfl rfl rfl hst (Does.nat (b := t.size % 19) (does_rem_p (b := 19) rfl rfl rfl (by omega)) rfl) ?_
    refine zA rfl hst rfl ?_
    refine znt ?_
    refine cp_join (ι := Nat) (fun k => [(0, .string t), (3, .slice A n c), (4, .int .i64 (k : Int))]) (fun k w2 => St w [] g g1 [] w2 ∧ k ≤ s.size - p ∧ 0 < k ∧ k ≤ 19 ∧ (s.size - p - k) % 19 = 0 ∧ (0 < p → k = 19)) ?c2 ?d2
    case c2 =>
      refine zsr ?_
      refine zM rfl hst rfl ?_
      refine stepK_d rfl rfl rfl hst (does_eql rfl rfl rfl) ?_
      refine znt ?_
      refine cp_if rfl ?_ ?_
      intro c14
      refine cp_region ?_
      refine zA rfl hst rfl ?_
      refine wpK_nil ?_
      refine join_end (19) ?_ ?_
      exact ⟨rfl, rfl, rfl, trivial⟩
      exact ⟨hst, by omega, by omega, by omega, by omega, fun _ => rfl⟩
      intro c14
      refine cp_skip ?_
      refine join_end (t.size % 19) ?_ ?_
      exact ⟨rfl, rfl, rfl, trivial⟩
      exact ⟨hst, by omega, by omega, by omega, by omega, fun h => by omega⟩
    case d2 =>
      clear hst
      rintro k w2 ⟨hst, hk1, hk0, hk19, hk2, hkp⟩
      refine zsr ?_
      refine zA rfl hst rfl ?_
      refine znq ?_
      refine zsr ?_
      refine zM rfl hst rfl ?_
      refine zM rfl hst rfl ?_
      refine znt ?_
      refine cp_block ?_
      refine cp_loop (ι := Nat × Nat) (fun (i, wv) => [(0, .string t), (3, .slice A n c), (4, .int .i64 (k : Int)), (5, .int .u64 (wv : Int)), (15, .int .i64 (k : Int)), (16, .int .i64 (i : Int))]) (fun (i, wv) w3 => St w [] g g1 [] w3 ∧ i ≤ k ∧ wv < 10 ^ i ∧ dval s p * 10 ^ i + wv = dval s (p + i)) (fun (i, wv) => k - i) (0, 0) ?k3 ?i3 ?r3
      case k3 => exact ⟨rfl, rfl, rfl, rfl, rfl, rfl, trivial⟩
      case i3 =>
        exact ⟨hst, Nat.zero_le _, by decide, by simp⟩
      case r3 =>
        clear hst
        rintro ⟨i, wv⟩ w3 ⟨hst, hi, hwv, hv⟩
        refine zsr ?_
        refine stepK_d rfl rfl rfl hst (does_lss rfl rfl rfl) ?_
        refine znq ?_
        refine cp_if rfl ?_ ?_
        intro c17
        refine cp_skip ?_
        refine cp_then ?_
        refine cp_seq ?_
        refine cp_block ?_
        refine zsr ?_
        refine zM rfl hst rfl ?_
        refine zA rfl hst rfl ?_
        refine zn3 ?_
        have hil : i < t.size := by omega
        have hbt : (t[i]'hil).toNat = bt s (p + i) := by
          rw [bt_eq hil, ht, bt_extract (Nat.le_refl _) (by omega)]
        have hdg := hd (p + i) (by omega)
        obtain ⟨hc1, hc2⟩ := chunk_lt (d := bt s (p + i) - 48) (show i < k by omega) hk19 hwv (by omega)
        refine zM rfl hst rfl ?_
        refine stepK_d rfl rfl rfl hst (Does.nat (b := 10 * wv) (does_mul_u64 (a := 10) rfl rfl rfl) (by omega)) ?_
        refine zM rfl hst rfl ?_
        refine zM rfl hst rfl ?_
        refine stepK_d rfl rfl rfl hst (Does.nat (b := bt s (p + i)) (does_index_string (j := i) rfl (by kernel_rfl) rfl rfl rfl hil) (by rw [hbt])) ?_
        refine stepK_d rfl rfl rfl hst (Does.nat (b := bt s (p + i) - 48) (does_sub_u8 (b := 48) rfl rfl rfl) (by omega)) ?_
        refine stepK_d rfl rfl rfl hst (Does.nat (b := bt s (p + i) - 48) (does_conv_n_u64 rfl (by kernel_rfl) (by kernel_rfl) rfl) (by omega)) ?_
        refine stepK_d rfl rfl rfl hst (Does.nat (b := 10 * wv + (bt s (p + i) - 48)) (does_add_u64 rfl rfl rfl) (by omega)) ?_
        refine zA rfl hst rfl ?_
        refine wpK_nil ?_
        refine at_block_normal ?_
        refine cp_then ?_
        refine cp_region ?_
        refine stepK_d rfl rfl rfl hst (Does.int (does_add rfl rfl rfl) (wrap_i64 (by omega) (by omega))) ?_
        refine zM rfl hst rfl ?_
        refine wpK_nil ?_
        refine round_end ((i + 1, 10 * wv + (bt s (p + i) - 48))) ?_ ?_ ?_
        exact ⟨rfl, rfl, rfl, rfl, rfl, rfl, trivial⟩
        exact ⟨hst, by omega, hc1, chunk_step hv⟩
        show k - (i + 1) < k - i
        omega
        intro c17
        refine cp_exit ?_
        refine at_then_exit ?_
        refine at_then_exit ?_
        refine cp_exit_here ?_
        refine cp_then ?_
        refine cp_seq ?_
        obtain rfl : k = i := by omega
        have hwl : wv < 10000000000000000000 := Nat.lt_of_lt_of_le hwv (Nat.le_trans (Nat.pow_le_pow_right (by decide) hk19) (by decide))
        have hnp : n ≤ p := ha.len (Nat.lt_of_lt_of_le (dval_lt hd p hp) (ten_le p))
        refine cp_region ?_
        refine zM rfl hst rfl ?_
        refine stepK_buildSlice rfl rfl rfl rfl zf1 zf2 rfl rfl (by decide) (by decide) (by decide) rfl rfl hst ?_
        clear hst
        intro b4 w4 hst
        obtain ⟨g4, hst, hle4, hten⟩ := hst.lit (x := 10000000000000000000) (by decide) (by decide)
        replace ha := ha.mono hle4
        refine stepK_call rfl rfl rfl rfl rfl hst (num_product hst.agree ha hten (by omega) (by omega)) ?_
        clear hst
        intro v5 g5 w5 hst hle5 hcs5 hp5
        replace ha := ha.mono hle5
        replace hten := hten.mono hle5
        obtain ⟨A7, n7, c7, rfl, h7⟩ := hp5
        refine zM rfl hst rfl ?_
        refine stepK_call rfl rfl rfl rfl rfl hst (num_word hst.agree (by omega)) ?_
        clear hst
        intro v6 g6 w6 hst hle6 hcs6 hp6
        replace ha := ha.mono hle6
        replace hten := hten.mono hle6
        replace h7 := h7.mono hle6
        obtain ⟨A8, n8, c8, rfl, h8⟩ := hp6
        have hn7 : n7 ≤ p + 19 := h7.len (by
          refine Nat.lt_of_lt_of_le ?_ (ten_le _)
          rw [Nat.pow_add]
          exact (Nat.mul_lt_mul_right (by decide)).2 (dval_lt hd p hp))
        have hn8 : n8 ≤ 1 := h8.len (by omega)
        refine stepK_call rfl rfl rfl rfl rfl hst (num_sum hst.agree h7 h8 (by omega) (by omega)) ?_
        clear hst
        intro v7 g7 w7 hst hle7 hcs7 hp7
        replace ha := ha.mono hle7
        replace hten := hten.mono hle7
        replace h7 := h7.mono hle7
        replace h8 := h8.mono hle7
        obtain ⟨A9, n9, c9, rfl, hN⟩ := hp7
        refine zA rfl hst rfl ?_
        refine zn3 ?_
        refine zM rfl hst rfl ?_
        refine zM rfl hst rfl ?_
        refine stepK_d rfl rfl rfl hst (does_slice_string (l := k) (h := t.size) rfl (by kernel_rfl) rfl ⟨_, _, rfl, rfl⟩ rfl (by omega) (Nat.le_refl _)) ?_
        refine zA rfl hst rfl ?_
        refine wpK_nil ?_
        refine at_block_normal ?_
        refine round_end ((t.extract k t.size, p + k, A9, n9, c9)) ?_ ?_ ?_
        exact ⟨rfl, rfl, trivial⟩
        refine ⟨_, hst, by rw [ht, extract_tail], by omega, .inr (by omega), ?_⟩
        rcases Nat.eq_zero_or_pos p with h0 | h0
        subst h0
        rw [← hv]
        simp only [dval, Nat.zero_mul, Nat.zero_add] at hN ⊢
        exact hN
        rw [← hv]
        obtain rfl : k = 19 := by omega
        exact hN
        show s.size - (p + k) < s.size - p
        omega
    intro c9
    refine cp_exit ?_
    refine at_then_exit ?_
    refine at_then_exit ?_
    refine cp_exit_here ?_
    refine cp_then ?_
    refine zsr ?_
    refine zM rfl hst rfl ?_
    refine zA rfl hst rfl ?_
    refine znt ?_
    refine cp_ret ?_
    refine ret1 rfl rfl hst ?_
    refine ⟨_, _, _, rfl, ?_⟩
    obtain rfl : s.size = p := by omega
    exact ha

end Go.Proofs.YtcjhnkmoloiepaaDoor

namespace Go.Proofs.YtcjhnkmoloiepaaDoor
open Go Go.RowKit Go.Proofs.Vc
set_option linter.unusedVariables false
set_option linter.unusedSimpArgs false

set_option maxHeartbeats 1000000 in
theorem Rat_low {g : Mem} {w : World} (hag : Agree g w) {p q : Int} {a : Option Addr} {r : Rat} (ha : LowR p q r) :
    CallTo Tryd.prog 49 #[.agg #[.int .i64 p, .int .i64 q, .pointer a]] w (Ret w g fun v g => v = .tuple #[.int .i64 r.num, .int .i64 (r.den : Int)]) := by
  refine CallTo.enter (vs := [.agg #[.int .i64 p, .int .i64 q, .pointer a]]) zf24 (by kernel_rfl) rfl rfl rfl ?_
  have hst := St.init hag
  refine zsr ?_
  refine stepK_box rfl rfl rfl rfl rfl rfl hst ?_
  clear hst
  intro b1 w1 hst
  refine zA rfl hst rfl ?_
  refine zA rfl hst rfl ?_
  refine znq ?_
  refine zsr ?_
  refine stepK_d rfl rfl rfl hst (does_fieldAddr rfl zf25 rfl) ?_
  refine stepK_d rfl rfl rfl hst (does_load_ownL 0 rfl (by kernel_rfl) rfl rfl rfl) ?_
  refine stepK_d rfl rfl rfl hst (does_eql rfl rfl rfl) ?_
  refine znt ?_
  refine cp_if rfl ?_ ?_
  intro c6
  refine zsr ?_
  refine stepK_d rfl rfl rfl hst (does_fieldAddr rfl zf26 rfl) ?_
  refine stepK_d rfl rfl rfl hst (does_load_ownL 0 rfl (by kernel_rfl) rfl rfl rfl) ?_
  refine zA rfl hst rfl ?_
  refine zA rfl hst rfl ?_
  refine zn5 ?_
  refine ret2 rfl rfl rfl hst ?_
  obtain ⟨h1, h2⟩ := ha.q0 c6
  subst h1 h2
  rfl
  intro c6
  refine cp_skip ?_
  refine cp_then ?_
  refine cp_seq ?_
  refine cp_drawn (by kernel_rfl) 6 [(0, true), (1, true), (2, true), (3, true), (4, true), (5, true)] _ rfl (by kernel_rfl) (by kernel_rfl) (by kernel_rfl) (fun _ _ _ _ _ h => h) _ (hst.drew) ?_
  have hst0 := hst.drew
  clear hst
  have hst := hst0
  refine stepD_d rfl rfl rfl rfl (does_fieldAddr rfl zf26 rfl) ?_
  refine stepD_d rfl rfl rfl rfl (does_load_ownL 0 rfl (by kernel_rfl) rfl rfl rfl) ?_
  refine stepD_d rfl rfl rfl rfl (does_fieldAddr rfl zf25 rfl) ?_
  refine stepD_d rfl rfl rfl rfl (does_load_ownL 0 rfl (by kernel_rfl) rfl rfl rfl) ?_
  refine stepD_d rfl rfl rfl rfl (does_assign rfl rfl) ?_
  refine stepD_d rfl rfl rfl rfl (does_assign rfl rfl) ?_
  refine stepD_tail ?_
  refine znt ?_
  refine cp_ret ?_
  refine ret2 rfl rfl rfl hst ?_
  obtain ⟨h1, h2⟩ := ha.q1 c6
  rw [h1, h2]

set_option maxHeartbeats 1000000 in
theorem num_magnitude {g : Mem} {w : World} (hag : Agree g w) {n : Int} (h1 : -9223372036854775808 ≤ n) (h2 : n ≤ 9223372036854775807) :
    CallTo Tryd.prog 47 #[.int .i64 n] w (Ret w g fun v g => v = .int .u64 ((n.natAbs : Nat) : Int)) := by
  refine CallTo.enter (vs := [.int .i64 n]) zf27 (by kernel_rfl) rfl rfl rfl ?_
  have hst := St.init hag
  refine zsr ?_
  refine zA rfl hst rfl ?_
  refine znq ?_
  refine zsr ?_
  refine zM rfl hst rfl ?_
  refine stepK_d rfl rfl rfl hst (does_lss rfl rfl rfl) ?_
  refine znt ?_
  refine cp_if rfl ?_ ?_
  intro c4
  refine zsr ?_
  refine zM rfl hst rfl ?_
  refine stepK_d rfl rfl rfl hst (does_neg rfl rfl) ?_
  refine stepK_d rfl rfl rfl hst (Does.int (does_conv rfl (by kernel_rfl) (by kernel_rfl) rfl) (u64_magnitude h1 c4)) ?_
  refine zA rfl hst rfl ?_
  refine zn5 ?_
  refine ret1 rfl rfl hst ?_
  rfl
  intro c4
  refine zk4 ?_
  refine zM rfl hst rfl ?_
  refine stepK_d rfl rfl rfl hst (Does.int (does_conv rfl (by kernel_rfl) (by kernel_rfl) rfl) (show _ = ((n.natAbs : Nat) : Int) by rw [IntKind.wrap_u64]; omega)) ?_
  refine zA rfl hst rfl ?_
  refine znt ?_
  refine cp_ret ?_
  refine ret1 rfl rfl hst ?_
  rfl

set_option maxHeartbeats 1000000 in
theorem num_lowest {g : Mem} {w : World} (hag : Agree g w) {neg : Bool} {A B : Option Addr} {n c m d N M : Nat} (ha : IsNat g A n N) (hb : IsNat g B m M) (hM : 0 < M) (hc : Nat.gcd N M = 1) :
    CallTo Tryd.prog 60 #[.bool neg, .slice A n c, .slice B m d] w (Ret w g fun v g => ∃ p q a, v = .agg #[.int .i64 p, .int .i64 q, .pointer a] ∧ IsRat g p q a (mkRat (sg neg N) M)) := by
  refine CallTo.enter (vs := [.bool neg, .slice A n c, .slice B m d]) zf28 (by kernel_rfl) rfl rfl rfl ?_
  have hst := St.init hag
  refine zsr ?_
  refine stepK_alloc rfl rfl rfl rfl zf29 rfl hst ?_
  clear hst
  intro b1 w1 hst
  refine znq ?_
  refine zsr ?_
  refine zM rfl hst rfl ?_
  refine stepK_d rfl rfl rfl hst (does_len_slice rfl zf1 rfl) ?_
  refine stepK_d rfl rfl rfl hst (does_eql rfl rfl rfl) ?_
  refine znt ?_
  refine cp_if rfl ?_ ?_
  intro c10
  obtain rfl : N = 0 := ha.zero_iff.1 (by omega)
  refine zsr ?_
  refine stepK_d rfl rfl rfl hst (does_build rfl zf30 rfl rfl) ?_
  refine stepK_store 0 rfl rfl rfl rfl rfl rfl zf31 rfl rfl hst rfl (by first | (simp [uN_length]; omega) | simp) ?_
  clear hst
  intro w2 hst
  simp only [zL, splice, Nat.reduceAdd] at hst
  refine zn5 ?_
  refine ret1c (k := 0) rfl rfl (by kernel_rfl) (by kernel_rfl) rfl hst rfl ?_
  exact ⟨_, _, _, rfl, IsRat.mk_zero _ _ _⟩
  intro c10
  have hN0 : 0 < N := Nat.pos_of_ne_zero fun e => by have := ha.zero_iff.2 e; omega
  refine cp_skip ?_
  refine cp_then ?_
  refine cp_seq ?_
  refine zsr ?_
  refine zM rfl hst rfl ?_
  refine stepK_d rfl rfl rfl hst (does_len_slice rfl zf1 rfl) ?_
  refine stepK_d rfl rfl rfl hst (does_eql rfl rfl rfl) ?_
  refine zM rfl hst rfl ?_
  refine wpK_split (t := 15) rfl ?_ ?_
  intro s15
  refine stepK_guard rfl rfl rfl rfl rfl rfl hst (does_move rfl rfl) ?_
  refine stepK_guard rfl rfl rfl rfl rfl rfl hst (does_len_slice rfl zf1 rfl) ?_
  refine stepK_guard rfl rfl rfl rfl rfl rfl hst (does_eql rfl rfl rfl) ?_
  refine stepK_d rfl rfl rfl hst (does_pick_true rfl rfl rfl) ?_
  refine zM rfl hst rfl ?_
  refine wpK_split (t := 20) rfl ?_ ?_
  intro s20
  obtain rfl : n = 1 := by omega
  obtain ⟨b1, o1, rfl, hNl, hcN⟩ := ha.word
  refine stepK_guard rfl rfl rfl rfl rfl rfl hst (does_move rfl rfl) ?_
  refine stepK_guard rfl rfl rfl rfl rfl rfl hst (does_indexAddr1 rfl zf1 (by kernel_rfl) rfl rfl rfl (by decide)) ?_
  refine stepK_guard rfl rfl rfl rfl rfl rfl hst (does_load_g1 rfl (by kernel_rfl) rfl hcN) ?_
  refine stepK_guard rfl rfl rfl rfl rfl rfl hst (does_lss_n (b := 2147483648) rfl rfl rfl) ?_
  refine stepK_d rfl rfl rfl hst (does_pick_true rfl rfl rfl) ?_
  refine zM rfl hst rfl ?_
  refine wpK_split (t := 26) rfl ?_ ?_
  intro s26
  obtain rfl : m = 1 := by omega
  obtain ⟨b2, o2, rfl, hMl, hcM⟩ := hb.word
  refine stepK_guard rfl rfl rfl rfl rfl rfl hst (does_move rfl rfl) ?_
  refine stepK_guard rfl rfl rfl rfl rfl rfl hst (does_indexAddr1 rfl zf1 (by kernel_rfl) rfl rfl rfl (by decide)) ?_
  refine stepK_guard rfl rfl rfl rfl rfl rfl hst (does_load_g1 rfl (by kernel_rfl) rfl hcM) ?_
  refine stepK_guard rfl rfl rfl rfl rfl rfl hst (does_lss_n (b := 2147483648) rfl rfl rfl) ?_
  refine stepK_d rfl rfl rfl hst (does_pick_true rfl rfl rfl) ?_
  refine znt ?_
  refine cp_if rfl ?_ ?_
  intro c31
  refine cp_seq ?_
  refine cp_drawn (by kernel_rfl) 10 [(0, true), (1, true), (2, true), (3, true), (4, true), (5, true), (6, true), (7, true), (8, true), (9, false)] _ rfl (by kernel_rfl) (by kernel_rfl) (by kernel_rfl) (fun _ _ _ _ _ h => h) _ (hst.drew) ?_
  have hst0 := hst.drew
  clear hst
  have hst := hst0
  refine stepD_d rfl rfl rfl rfl (does_move rfl rfl) ?_
  refine stepD_d rfl rfl rfl rfl (does_indexAddr1 rfl zf1 (by kernel_rfl) rfl rfl rfl (by decide)) ?_
  refine stepD_d rfl rfl rfl rfl (does_load_g1 rfl (by kernel_rfl) rfl hcN) ?_
  refine stepD_d rfl rfl rfl rfl (does_conv_n_i64 rfl (by kernel_rfl) (by kernel_rfl) rfl (by omega)) ?_
  refine stepD_d rfl rfl rfl rfl (does_move rfl rfl) ?_
  refine stepD_d rfl rfl rfl rfl (does_indexAddr1 rfl zf1 (by kernel_rfl) rfl rfl rfl (by decide)) ?_
  refine stepD_d rfl rfl rfl rfl (does_load_g1 rfl (by kernel_rfl) rfl hcM) ?_
  refine stepD_d rfl rfl rfl rfl (does_conv_n_i64 rfl (by kernel_rfl) (by kernel_rfl) rfl (by omega)) ?_
  refine stepD_d rfl rfl rfl rfl (does_build rfl zf30 rfl rfl) ?_
  refine stepD_alloc rfl rfl rfl rfl rfl zf29 rfl hst (keep_alloc hst0 (Mem.le.refl _) (by simp)) ?_
  clear hst
  intro b3 w3 hst
  refine stepD_tail ?_
  refine stepK_store 1 rfl rfl rfl rfl rfl rfl zf31 rfl rfl hst rfl (by first | (simp [uN_length]; omega) | simp) ?_
  clear hst
  intro w4 hst
  simp only [zL, splice, Nat.reduceAdd] at hst
  refine znq ?_
  refine zsr ?_
  refine zM rfl hst rfl ?_
  refine znt ?_
  refine cp_cond rfl ?_ ?_
  intro c41
  refine cp_region ?_
  refine stepK_d rfl rfl rfl hst (does_fieldAddr rfl zf26 rfl) ?_
  refine stepK_d rfl rfl rfl hst (does_load_ownL 1 rfl (by kernel_rfl) rfl rfl rfl) ?_
  refine stepK_d rfl rfl rfl hst (Does.int (does_neg rfl rfl) (wrap_i64 (by omega) (by omega))) ?_
  refine stepK_d rfl rfl rfl hst (does_fieldAddr rfl zf26 rfl) ?_
  refine stepK_store 1 rfl rfl rfl rfl rfl rfl zf32 rfl rfl hst rfl (by first | (simp [uN_length]; omega) | simp) ?_
  clear hst
  intro w5 hst
  simp only [zL, splice, Nat.reduceAdd] at hst
  refine zn4 ?_
  refine stepK_d rfl rfl rfl hst (does_load_ownN 1 rfl (by kernel_rfl) zf31 rfl rfl rfl) ?_
  refine stepK_store 0 rfl rfl rfl rfl rfl rfl zf31 rfl rfl hst rfl (by first | (simp [uN_length]; omega) | simp) ?_
  clear hst
  intro w6 hst
  simp only [zL, splice, Nat.reduceAdd] at hst
  refine zn5 ?_
  refine ret1c (k := 0) rfl rfl (by kernel_rfl) (by kernel_rfl) rfl hst rfl ?_
  have h9 := IsRat.mk_small (g := g) (b := neg) hM hc (by omega) (by omega)
  rw [c41] at h9 ⊢
  exact ⟨_, _, _, rfl, h9⟩
  intro c41
  refine zk4 ?_
  refine stepK_d rfl rfl rfl hst (does_load_ownN 1 rfl (by kernel_rfl) zf31 rfl rfl rfl) ?_
  refine stepK_store 0 rfl rfl rfl rfl rfl rfl zf31 rfl rfl hst rfl (by first | (simp [uN_length]; omega) | simp) ?_
  clear hst
  intro w7 hst
  simp only [zL, splice, Nat.reduceAdd] at hst
  refine zn5 ?_
  refine ret1c (k := 0) rfl rfl (by kernel_rfl) (by kernel_rfl) rfl hst rfl ?_
  have h9 := IsRat.mk_small (g := g) (b := neg) hM hc (by omega) (by omega)
  rw [c41] at h9 ⊢
  exact ⟨_, _, _, rfl, h9⟩
  intro c31
  refine zk4 ?_
  refine zM rfl hst rfl ?_
  refine zM rfl hst rfl ?_
  refine zM rfl hst rfl ?_
  refine stepK_d rfl rfl rfl hst (does_build rfl zf33 rfl rfl) ?_
  refine stepK_box rfl rfl rfl rfl rfl rfl hst ?_
  clear hst
  intro bx w8 hst
  refine stepK_d rfl rfl rfl hst (does_build rfl zf30 rfl rfl) ?_
  refine stepK_store 0 rfl rfl rfl rfl rfl rfl zf31 rfl rfl hst rfl (by first | (simp [uN_length]; omega) | simp) ?_
  clear hst
  intro w9 hst
  simp only [zL, splice, Nat.reduceAdd] at hst
  refine znt ?_
  refine cp_ret ?_
  have hbig : ¬ (N < 2147483648 ∧ M < 2147483648) := fun hh => by
    have e1 := ha.small1 hN0 hh.1
    have e2 := hb.small1 hM hh.2
    omega
  have hgn := hst.own_none 1 rfl
  obtain ⟨hst, hle9⟩ := hst.publish 1 rfl
  refine ret1c (k := 0) rfl rfl (by kernel_rfl) (by kernel_rfl) rfl hst rfl ?_
  exact ⟨_, _, _, rfl, IsRat.mk_big hgn ha hb hN0 hM hc hbig⟩
  intro s26
  refine stepK_pass rfl rfl rfl rfl rfl rfl rfl ?_
  refine stepK_pass rfl rfl rfl rfl rfl rfl rfl ?_
  refine stepK_pass rfl rfl rfl rfl rfl rfl rfl ?_
  refine stepK_pass rfl rfl rfl rfl rfl rfl rfl ?_
  refine stepK_d rfl rfl rfl hst (does_pick_false rfl rfl rfl) ?_
  refine znt ?_
  refine cp_cond_false rfl ?_
  refine zk4 ?_
  refine zM rfl hst rfl ?_
  refine zM rfl hst rfl ?_
  refine zM rfl hst rfl ?_
  refine stepK_d rfl rfl rfl hst (does_build rfl zf33 rfl rfl) ?_
  refine stepK_box rfl rfl rfl rfl rfl rfl hst ?_
  clear hst
  intro bx w10 hst
  refine stepK_d rfl rfl rfl hst (does_build rfl zf30 rfl rfl) ?_
  refine stepK_store 0 rfl rfl rfl rfl rfl rfl zf31 rfl rfl hst rfl (by first | (simp [uN_length]; omega) | simp) ?_
  clear hst
  intro w11 hst
  simp only [zL, splice, Nat.reduceAdd] at hst
  refine znt ?_
  refine cp_ret ?_
  have hbig : ¬ (N < 2147483648 ∧ M < 2147483648) := fun hh => by
    have e1 := ha.small1 hN0 hh.1
    have e2 := hb.small1 hM hh.2
    omega
  have hgn := hst.own_none 1 rfl
  obtain ⟨hst, hle9⟩ := hst.publish 1 rfl
  refine ret1c (k := 0) rfl rfl (by kernel_rfl) (by kernel_rfl) rfl hst rfl ?_
  exact ⟨_, _, _, rfl, IsRat.mk_big hgn ha hb hN0 hM hc hbig⟩
  intro s20
  refine stepK_pass rfl rfl rfl rfl rfl rfl rfl ?_
  refine stepK_pass rfl rfl rfl rfl rfl rfl rfl ?_
  refine stepK_pass rfl rfl rfl rfl rfl rfl rfl ?_
  refine stepK_pass rfl rfl rfl rfl rfl rfl rfl ?_
  refine stepK_d rfl rfl rfl hst (does_pick_false rfl rfl rfl) ?_
  refine zM rfl hst rfl ?_
  refine stepK_pass rfl rfl rfl rfl rfl rfl rfl ?_
  refine stepK_pass rfl rfl rfl rfl rfl rfl rfl ?_
  refine stepK_pass rfl rfl rfl rfl rfl rfl rfl ?_
  refine stepK_pass rfl rfl rfl rfl rfl rfl rfl ?_
  refine stepK_d rfl rfl rfl hst (does_pick_false rfl rfl rfl) ?_
  refine znt ?_
  refine cp_cond_false rfl ?_
  refine zk4 ?_
  refine zM rfl hst rfl ?_
  refine zM rfl hst rfl ?_
  refine zM rfl hst rfl ?_
  refine stepK_d rfl rfl rfl hst (does_build rfl zf33 rfl rfl) ?_
  refine stepK_box rfl rfl rfl rfl rfl rfl hst ?_
  clear hst
  intro bx w12 hst
  refine stepK_d rfl rfl rfl hst (does_build rfl zf30 rfl rfl) ?_
  refine stepK_store 0 rfl rfl rfl rfl rfl rfl zf31 rfl rfl hst rfl (by first | (simp [uN_length]; omega) | simp) ?_
  clear hst
  intro w13 hst
  simp only [zL, splice, Nat.reduceAdd] at hst
  refine znt ?_
  refine cp_ret ?_
  have hbig : ¬ (N < 2147483648 ∧ M < 2147483648) := fun hh => by
    have e1 := ha.small1 hN0 hh.1
    have e2 := hb.small1 hM hh.2
    omega
  have hgn := hst.own_none 1 rfl
  obtain ⟨hst, hle9⟩ := hst.publish 1 rfl
  refine ret1c (k := 0) rfl rfl (by kernel_rfl) (by kernel_rfl) rfl hst rfl ?_
  exact ⟨_, _, _, rfl, IsRat.mk_big hgn ha hb hN0 hM hc hbig⟩
  intro s15
  refine stepK_pass rfl rfl rfl rfl rfl rfl rfl ?_
  refine stepK_pass rfl rfl rfl rfl rfl rfl rfl ?_
  refine stepK_pass rfl rfl rfl rfl rfl rfl rfl ?_
  refine stepK_d rfl rfl rfl hst (does_pick_false rfl rfl rfl) ?_
  refine zM rfl hst rfl ?_
  refine stepK_pass rfl rfl rfl rfl rfl rfl rfl ?_
  refine stepK_pass rfl rfl rfl rfl rfl rfl rfl ?_
  refine stepK_pass rfl rfl rfl rfl rfl rfl rfl ?_
  refine stepK_pass rfl rfl rfl rfl rfl rfl rfl ?_
  refine stepK_d rfl rfl rfl hst (does_pick_false rfl rfl rfl) ?_
  refine zM rfl hst rfl ?_
  refine stepK_pass rfl rfl rfl rfl rfl rfl rfl ?_
  refine stepK_pass rfl rfl rfl rfl rfl rfl rfl ?_
  refine stepK_pass rfl rfl rfl rfl rfl rfl rfl ?_
  refine stepK_pass rfl rfl rfl rfl rfl rfl rfl ?_
  refine stepK_d rfl rfl rfl hst (does_pick_false rfl rfl rfl) ?_
  refine znt ?_
  refine cp_cond_false rfl ?_
  refine zk4 ?_
  refine zM rfl hst rfl ?_
  refine zM rfl hst rfl ?_
  refine zM rfl hst rfl ?_
  refine stepK_d rfl rfl rfl hst (does_build rfl zf33 rfl rfl) ?_
  refine stepK_box rfl rfl rfl rfl rfl rfl hst ?_
  clear hst
  intro bx w14 hst
  refine stepK_d rfl rfl rfl hst (does_build rfl zf30 rfl rfl) ?_
  refine stepK_store 0 rfl rfl rfl rfl rfl rfl zf31 rfl rfl hst rfl (by first | (simp [uN_length]; omega) | simp) ?_
  clear hst
  intro w15 hst
  simp only [zL, splice, Nat.reduceAdd] at hst
  refine znt ?_
  refine cp_ret ?_
  have hbig : ¬ (N < 2147483648 ∧ M < 2147483648) := fun hh => by
    have e1 := ha.small1 hN0 hh.1
    have e2 := hb.small1 hM hh.2
    omega
  have hgn := hst.own_none 1 rfl
  obtain ⟨hst, hle9⟩ := hst.publish 1 rfl
  refine ret1c (k := 0) rfl rfl (by kernel_rfl) (by kernel_rfl) rfl hst rfl ?_
  exact ⟨_, _, _, rfl, IsRat.mk_big hgn ha hb hN0 hM hc hbig⟩

end Go.Proofs.YtcjhnkmoloiepaaDoor

namespace Go.Proofs.YtcjhnkmoloiepaaDoor
open Go Go.RowKit Go.Proofs.Vc
set_option linter.unusedVariables false
set_option linter.unusedSimpArgs false

set_option maxHeartbeats 1000000 in
theorem num_reduce {g : Mem} {w : World} (hag : Agree g w) {neg : Bool} {A B : Option Addr} {n c m d N M : Nat} (ha : IsNat g A n N) (hb : IsNat g B m M) (hM : 0 < M) (hn : n ≤ 8796093022206) (hm : m ≤ 8796093022206) :
    CallTo Tryd.prog 45 #[.bool neg, .slice A n c, .slice B m d] w (Ret w g fun v g => ∃ p q a, v = .agg #[.int .i64 p, .int .i64 q, .pointer a] ∧ IsRat g p q a (mkRat (sg neg N) M)) := by
  refine CallTo.enter (vs := [.bool neg, .slice A n c, .slice B m d]) zf34 (by kernel_rfl) rfl rfl rfl ?_
  have hst := St.init hag
  refine zsr ?_
  refine stepK_alloc rfl rfl rfl rfl zf29 rfl hst ?_
  clear hst
  intro r0 w1 hst
  refine znq ?_
  refine zsr ?_
  refine zM rfl hst rfl ?_
  refine stepK_d rfl rfl rfl hst (does_len_slice rfl zf1 rfl) ?_
  refine stepK_d rfl rfl rfl hst (does_eql rfl rfl rfl) ?_
  refine znt ?_
  refine cp_if rfl ?_ ?_
  intro c10
  obtain rfl : N = 0 := ha.zero_iff.1 (by omega)
  refine zsr ?_
  refine stepK_d rfl rfl rfl hst (does_build rfl zf30 rfl rfl) ?_
  refine stepK_store 0 rfl rfl rfl rfl rfl rfl zf31 rfl rfl hst rfl (by first | (simp [uN_length]; omega) | simp) ?_
  clear hst
  intro w2 hst
  simp only [zL, splice, Nat.reduceAdd] at hst
  refine zn5 ?_
  refine ret1c (k := 0) rfl rfl (by kernel_rfl) (by kernel_rfl) rfl hst rfl ?_
  exact ⟨_, _, _, rfl, IsRat.mk_zero _ _ _⟩
  intro c10
  refine cp_skip ?_
  refine cp_then ?_
  refine cp_join (ι := Option Addr × Nat × Nat × Nat × Option Addr × Nat × Nat × Nat) (fun (A, n, c, N2, B, m, d, M2) => [(0, .bool neg), (1, .slice A n c), (2, .slice B m d), (6, .pointer (some ⟨r0, 0, none⟩))]) (fun (A, n, c, N2, B, m, d, M2) w2 => ∃ g1, St w [] g g1 [(r0, .cells #[.int .i64 0, .int .i64 0, .pointer none] 46 (0, 0))] w2 ∧ IsNat g1 A n N2 ∧ IsNat g1 B m M2 ∧ 0 < M2 ∧ Nat.gcd N2 M2 = 1 ∧ mkRat (sg neg N2) M2 = mkRat (sg neg N) M) ?c3 ?d3
  case c3 =>
    refine zsr ?_
    refine zM rfl hst rfl ?_
    refine zM rfl hst rfl ?_
    refine stepK_call rfl rfl rfl rfl rfl hst (num_divisor hst.agree ha hb hn hm) ?_
    clear hst
    intro v4 g4 w4 hst hle4 hcs4 hp4
    replace ha := ha.mono hle4
    replace hb := hb.mono hle4
    obtain ⟨G, gn, gc, rfl, hg⟩ := hp4
    have hgn : gn ≤ m := hg.len (Nat.lt_of_le_of_lt (Nat.gcd_le_right _ hM) hb.lt)
    have hG0 : 0 < Nat.gcd N M := Nat.gcd_pos_of_pos_right _ hM
    refine zA rfl hst rfl ?_
    refine zn4 ?_
    refine zM rfl hst rfl ?_
    refine stepK_buildSlice rfl rfl rfl rfl zf1 zf2 rfl rfl (by decide) (by decide) (by decide) rfl rfl hst ?_
    clear hst
    intro b5 w5 hst
    obtain ⟨g5, hst, hle5, h1⟩ := hst.lit (x := 1) (by decide) (by decide)
    replace ha := ha.mono hle5
    replace hb := hb.mono hle5
    replace hg := hg.mono hle5
    refine stepK_call rfl rfl rfl rfl rfl hst (num_compare hst.agree hg h1 (by omega)) ?_
    clear hst
    intro v6 g6 w6 hst hle6 hcs6 hp6
    replace ha := ha.mono hle6
    replace hb := hb.mono hle6
    replace hg := hg.mono hle6
    replace h1 := h1.mono hle6
    obtain rfl := hp6
    refine stepK_d rfl rfl rfl hst (does_neq rfl rfl rfl) ?_
    refine znt ?_
    refine cp_if rfl ?_ ?_
    intro c18
    refine zsr ?_
    refine zM rfl hst rfl ?_
    refine zM rfl hst rfl ?_
    refine stepK_call rfl rfl rfl rfl rfl hst (num_divide hst.agree ha hg hG0 hn (by omega)) ?_
    clear hst
    intro v7 g7 w7 hst hle7 hcs7 hp7
    replace ha := ha.mono hle7
    replace hb := hb.mono hle7
    replace hg := hg.mono hle7
    replace h1 := h1.mono hle7
    obtain ⟨A7, n7, c7, B7, m7, d7, rfl, h7, h77⟩ := hp7
    refine zM rfl hst rfl ?_
    refine zE rfl hst rfl rfl ?_
    refine zE rfl hst rfl rfl ?_
    refine zA rfl hst rfl ?_
    refine zn3 ?_
    refine zM rfl hst rfl ?_
    refine zM rfl hst rfl ?_
    refine stepK_call rfl rfl rfl rfl rfl hst (num_divide hst.agree hb hg hG0 hm (by omega)) ?_
    clear hst
    intro v8 g8 w8 hst hle8 hcs8 hp8
    replace ha := ha.mono hle8
    replace hb := hb.mono hle8
    replace hg := hg.mono hle8
    replace h1 := h1.mono hle8
    replace h7 := h7.mono hle8
    obtain ⟨A8, n8, c8, B8, m8, d8, rfl, h8, h88⟩ := hp8
    refine zM rfl hst rfl ?_
    refine zE rfl hst rfl rfl ?_
    refine zE rfl hst rfl rfl ?_
    refine zA rfl hst rfl ?_
    refine wpK_nil ?_
    refine join_end ((A7, n7, c7, N / Nat.gcd N M, A8, n8, c8, M / Nat.gcd N M)) ?_ ?_
    exact ⟨rfl, rfl, rfl, rfl, trivial⟩
    exact ⟨_, hst, h7, h8, Nat.div_pos (Nat.gcd_le_right _ hM) hG0, gcd_coprime hM, mkRat_gcd hM⟩
    intro c18
    refine cp_skip ?_
    have hG1 : Nat.gcd N M = 1 := cmpN_zero.1 (Decidable.byContradiction c18)
    refine join_end ((A, n, c, N, B, m, d, M)) ?_ ?_
    exact ⟨rfl, rfl, rfl, rfl, trivial⟩
    exact ⟨_, hst, ha, hb, hM, hG1, rfl⟩
  case d3 =>
    clear hst
    rintro ⟨A2, n2, c2, N2, B2, m2, d2, M2⟩ w2 ⟨g2, hst, ha2, hb2, hM2, hc2, hmk⟩
    refine zsr ?_
    refine zM rfl hst rfl ?_
    refine zM rfl hst rfl ?_
    refine zM rfl hst rfl ?_
    refine stepK_call rfl rfl rfl rfl rfl hst (num_lowest hst.agree ha2 hb2 hM2 hc2) ?_
    clear hst
    intro v9 g9 w9 hst hle9 hcs9 hp9
    replace ha2 := ha2.mono hle9
    replace hb2 := hb2.mono hle9
    obtain ⟨p9, q9, a9, rfl, hr9⟩ := hp9
    refine stepK_store 0 rfl rfl rfl rfl rfl rfl zf31 rfl rfl hst rfl (by first | (simp [uN_length]; omega) | simp) ?_
    clear hst
    intro w10 hst
    simp only [zL, splice, Nat.reduceAdd] at hst
    refine znt ?_
    refine cp_ret ?_
    refine ret1c (k := 0) rfl rfl (by kernel_rfl) (by kernel_rfl) rfl hst rfl ?_
    refine ⟨_, _, _, rfl, ?_⟩
    rw [← hmk]
    assumption

set_option maxHeartbeats 1000000 in
theorem Rat_parts {g : Mem} {w : World} (hag : Agree g w) {p q : Int} {a : Option Addr} {r : Rat} (ha : IsRat g p q a r) :
    CallTo Tryd.prog 48 #[.agg #[.int .i64 p, .int .i64 q, .pointer a]] w (Ret w g fun v g => ∃ A n c B m d, v = .tuple #[.bool (decide (r.num < 0)), .slice A n c, .slice B m d] ∧ IsNat g A n r.num.natAbs ∧ IsNat g B m r.den) := by
  refine CallTo.enter (vs := [.agg #[.int .i64 p, .int .i64 q, .pointer a]]) zf35 (by kernel_rfl) rfl rfl rfl ?_
  have hst := St.init hag
  refine zsr ?_
  refine stepK_box rfl rfl rfl rfl rfl rfl hst ?_
  clear hst
  intro b1 w1 hst
  refine zA rfl hst rfl ?_
  refine zA rfl hst rfl ?_
  refine zA rfl hst rfl ?_
  refine znq ?_
  refine zsr ?_
  refine stepK_d rfl rfl rfl hst (does_fieldAddr rfl zf36 rfl) ?_
  refine stepK_d rfl rfl rfl hst (does_load_ownL 0 rfl (by kernel_rfl) rfl rfl rfl) ?_
  refine stepK_d rfl rfl rfl hst (does_neq_nilD rfl zf37 rfl rfl) ?_
  refine znt ?_
  refine cp_if rfl ?_ ?_
  intro c9
  obtain ⟨rfl, rfl, bl, rfl, hs, A, n, c, B, m, d, e0, e1, e2, e3, e4⟩ := ha.big c9
  refine cp_seq ?_
  refine cp_drawn (by kernel_rfl) 18 [(0, true), (1, true), (2, true), (3, true), (4, true), (5, true), (6, true), (7, true), (8, true), (9, true), (10, true), (11, true), (12, true), (13, true), (14, true), (15, true), (16, true), (17, true)] _ rfl (by kernel_rfl) (by kernel_rfl) (by kernel_rfl) (fun _ _ _ _ _ h => h) _ (hst.drew) ?_
  have hst0 := hst.drew
  clear hst
  have hst := hst0
  refine stepD_d rfl rfl rfl rfl (does_fieldAddr rfl zf36 rfl) ?_
  refine stepD_d rfl rfl rfl rfl (does_load_ownL 0 rfl (by kernel_rfl) rfl rfl rfl) ?_
  refine stepD_d rfl rfl rfl rfl (does_nilCheck rfl rfl) ?_
  refine stepD_d rfl rfl rfl rfl (does_fieldAddr rfl zf38 rfl) ?_
  refine stepD_d rfl rfl rfl rfl (does_load_g1 rfl (by kernel_rfl) rfl e0) ?_
  refine stepD_d rfl rfl rfl rfl (does_fieldAddr rfl zf36 rfl) ?_
  refine stepD_d rfl rfl rfl rfl (does_load_ownL 0 rfl (by kernel_rfl) rfl rfl rfl) ?_
  refine stepD_d rfl rfl rfl rfl (does_nilCheck rfl rfl) ?_
  refine stepD_d rfl rfl rfl rfl (does_fieldAddr rfl zf39 rfl) ?_
  refine stepD_d rfl rfl rfl rfl (does_load_g1 rfl (by kernel_rfl) rfl e1) ?_
  refine stepD_d rfl rfl rfl rfl (does_fieldAddr rfl zf36 rfl) ?_
  refine stepD_d rfl rfl rfl rfl (does_load_ownL 0 rfl (by kernel_rfl) rfl rfl rfl) ?_
  refine stepD_d rfl rfl rfl rfl (does_nilCheck rfl rfl) ?_
  refine stepD_d rfl rfl rfl rfl (does_fieldAddr rfl zf40 rfl) ?_
  refine stepD_d rfl rfl rfl rfl (does_load_g1 rfl (by kernel_rfl) rfl e2) ?_
  refine stepD_d rfl rfl rfl rfl (does_assign rfl rfl) ?_
  refine stepD_d rfl rfl rfl rfl (does_assign rfl rfl) ?_
  refine stepD_d rfl rfl rfl rfl (does_assign rfl rfl) ?_
  refine stepD_tail ?_
  refine zn5 ?_
  refine ret3 rfl rfl rfl rfl hst ?_
  exact ⟨_, _, _, _, _, _, rfl, e3, e4⟩
  intro c9
  obtain rfl : a = none := Decidable.byContradiction c9
  have hl := ha.low
  have hbd := hl.1.bound
  refine zk4 ?_
  refine stepK_d rfl rfl rfl hst (does_load_ownN 0 rfl (by kernel_rfl) zf31 rfl rfl rfl) ?_
  refine stepK_call rfl rfl rfl rfl rfl hst (Rat_low hst.agree hl) ?_
  clear hst
  intro v2 g2 w2 hst hle2 hcs2 hp2
  replace ha := ha.mono hle2
  obtain rfl := hp2
  refine zM rfl hst rfl ?_
  refine zE rfl hst rfl rfl ?_
  refine zE rfl hst rfl rfl ?_
  refine zA rfl hst rfl ?_
  refine zA rfl hst rfl ?_
  refine zn4 ?_
  refine zM rfl hst rfl ?_
  refine stepK_d rfl rfl rfl hst (does_lss rfl rfl rfl) ?_
  refine zM rfl hst rfl ?_
  refine stepK_call rfl rfl rfl rfl rfl hst (num_magnitude hst.agree (by omega) (by omega)) ?_
  clear hst
  intro v3 g3 w3 hst hle3 hcs3 hp3
  replace ha := ha.mono hle3
  obtain rfl := hp3
  refine stepK_call rfl rfl rfl rfl rfl hst (num_word hst.agree (by omega)) ?_
  clear hst
  intro v4 g4 w4 hst hle4 hcs4 hp4
  replace ha := ha.mono hle4
  obtain ⟨A4, n4, c4, rfl, hn4⟩ := hp4
  refine zM rfl hst rfl ?_
  refine stepK_d rfl rfl rfl hst (Does.nat (b := r.den) (does_conv_n_u64 rfl (by kernel_rfl) (by kernel_rfl) rfl) (by rw [Nat.mod_eq_of_lt (by omega)])) ?_
  refine stepK_call rfl rfl rfl rfl rfl hst (num_word hst.agree (by omega)) ?_
  clear hst
  intro v5 g5 w5 hst hle5 hcs5 hp5
  replace ha := ha.mono hle5
  replace hn4 := hn4.mono hle5
  obtain ⟨A5, n5, c5, rfl, hn5⟩ := hp5
  refine zA rfl hst rfl ?_
  refine zA rfl hst rfl ?_
  refine zA rfl hst rfl ?_
  refine znt ?_
  refine cp_ret ?_
  refine ret3 rfl rfl rfl rfl hst ?_
  exact ⟨_, _, _, _, _, _, rfl, by assumption, by assumption⟩

end Go.Proofs.YtcjhnkmoloiepaaDoor

namespace Go.Proofs.YtcjhnkmoloiepaaDoor
open Go Go.RowKit Go.Proofs.Vc
set_option linter.unusedVariables false
set_option linter.unusedSimpArgs false

set_option maxHeartbeats 1000000 in
theorem num_quotient {g : Mem} {w : World} (hag : Agree g w) {n d : Int} (h1 : -9223372036854775808 ≤ n) (h2 : n ≤ 9223372036854775807) (h3 : -9223372036854775808 ≤ d) (h4 : d ≤ 9223372036854775807) (hd : d ≠ 0) :
    CallTo Tryd.prog 50 #[.int .i64 n, .int .i64 d] w (Ret w g fun v g => ∃ p q a, v = .agg #[.int .i64 p, .int .i64 q, .pointer a] ∧ IsRat g p q a (Rat.divInt n d)) := by
  refine CallTo.enter (vs := [.int .i64 n, .int .i64 d]) zf41 (by kernel_rfl) rfl rfl rfl ?_
  have hst := St.init hag
  refine zsr ?_
  refine stepK_alloc rfl rfl rfl rfl zf29 rfl hst ?_
  clear hst
  intro r0 w1 hst
  refine zn4 ?_
  refine zM rfl hst rfl ?_
  refine stepK_d rfl rfl rfl hst (does_lss rfl rfl rfl) ?_
  refine zM rfl hst rfl ?_
  refine stepK_d rfl rfl rfl hst (does_lss rfl rfl rfl) ?_
  refine stepK_d rfl rfl rfl hst (does_neq_bool rfl (by kernel_rfl) rfl rfl) ?_
  refine zA rfl hst rfl ?_
  refine znq ?_
  generalize hneg : (!(decide (n < 0) == decide (d < 0))) = neg
  have hnn : n.natAbs < 18446744073709551616 := by omega
  have hdd : d.natAbs < 18446744073709551616 := by omega
  refine cp_region ?_
  refine zM rfl hst rfl ?_
  refine stepK_call rfl rfl rfl rfl rfl hst (num_magnitude hst.agree h1 h2) ?_
  clear hst
  intro v2 g2 w2 hst hle2 hcs2 hp2
  obtain rfl := hp2
  refine zM rfl hst rfl ?_
  refine stepK_call rfl rfl rfl rfl rfl hst (num_magnitude hst.agree h3 h4) ?_
  clear hst
  intro v3 g3 w3 hst hle3 hcs3 hp3
  obtain rfl := hp3
  refine zA rfl hst rfl ?_
  refine zA rfl hst rfl ?_
  refine zn4 ?_
  refine zM rfl hst rfl ?_
  refine zM rfl hst rfl ?_
  refine zA rfl hst rfl ?_
  refine zA rfl hst rfl ?_
  refine znq ?_
  refine cp_block ?_
  refine cp_loop (ι := Nat × Nat) (fun (x, y) => [(4, .pointer (some ⟨r0, 0, none⟩)), (5, .bool neg), (6, .int .u64 ((n.natAbs : Nat) : Int)), (7, .int .u64 ((d.natAbs : Nat) : Int)), (8, .int .u64 (x : Int)), (9, .int .u64 (y : Int))]) (fun (x, y) w1 => ∃ g3, St w [] g g3 [(r0, .cells #[.int .i64 0, .int .i64 0, .pointer none] 46 (0, 0))] w1 ∧ x < 18446744073709551616 ∧ y < 18446744073709551616 ∧ Nat.gcd x y = Nat.gcd n.natAbs d.natAbs) (fun (x, y) => y) (n.natAbs, d.natAbs) ?k4 ?i4 ?r4
  case k4 => exact ⟨rfl, rfl, rfl, rfl, rfl, rfl, trivial⟩
  case i4 =>
    exact ⟨_, hst, by omega, by omega, rfl⟩
  case r4 =>
    clear hst
    rintro ⟨x, y⟩ w1 ⟨g3, hst, hx, hy, hG⟩
    refine cp_seq ?_
    refine zsr ?_
    refine zM rfl hst rfl ?_
    refine stepK_d rfl rfl rfl hst (does_neq_n (b := 0) rfl rfl rfl) ?_
    refine znt ?_
    refine cp_if rfl ?_ ?_
    intro c23
    refine cp_skip ?_
    refine cp_then ?_
    refine cp_block ?_
    refine cp_drawn (by kernel_rfl) 6 [(0, true), (1, true), (2, true), (3, true), (4, true), (5, true)] _ rfl (by kernel_rfl) (by kernel_rfl) (by kernel_rfl) (fun _ _ _ _ _ h => h) _ (hst.drew) ?_
    have hst0 := hst.drew
    clear hst
    have hst := hst0
    refine stepD_d rfl rfl rfl rfl (does_move rfl rfl) ?_
    refine stepD_d rfl rfl rfl rfl (does_move rfl rfl) ?_
    refine stepD_d rfl rfl rfl rfl (does_move rfl rfl) ?_
    refine stepD_d rfl rfl rfl rfl (does_rem_n rfl rfl rfl (by omega)) ?_
    refine stepD_d rfl rfl rfl rfl (does_assign rfl rfl) ?_
    refine stepD_d rfl rfl rfl rfl (does_assign rfl rfl) ?_
    refine stepD_tail ?_
    refine wpK_nil ?_
    refine at_block_normal ?_
    refine round_end ((y, x % y)) ?_ ?_ ?_
    exact ⟨rfl, rfl, rfl, rfl, rfl, rfl, trivial⟩
    exact ⟨_, hst, hy, Nat.lt_trans (Nat.mod_lt _ (by omega)) hy, gcd_step.trans hG⟩
    show x % y < y
    exact Nat.mod_lt _ (by omega)
    intro c23
    refine cp_exit ?_
    refine at_then_exit ?_
    refine at_then_exit ?_
    refine cp_exit_here ?_
    refine cp_then ?_
    refine cp_seq ?_
    obtain rfl : y = 0 := by omega
    rw [Nat.gcd_zero_right] at hG
    have hG0 : 0 < x := by rw [hG]; exact Nat.gcd_pos_of_pos_right _ (by omega)
    have hNl : n.natAbs / x < 18446744073709551616 := Nat.lt_of_le_of_lt (Nat.div_le_self _ _) hnn
    have hDl : d.natAbs / x < 18446744073709551616 := Nat.lt_of_le_of_lt (Nat.div_le_self _ _) hdd
    have hM2 : 0 < d.natAbs / x := by rw [hG]; exact Nat.div_pos (Nat.gcd_le_right _ (by omega)) (by omega)
    have hc2 : Nat.gcd (n.natAbs / x) (d.natAbs / x) = 1 := by rw [hG]; exact gcd_coprime (by omega)
    have hq : mkRat (sg neg (n.natAbs / x)) (d.natAbs / x) = Rat.divInt n d := by
      rw [hG, mkRat_gcd (by omega), divInt_sg hd, ← hneg]
      rfl
    refine cp_drawn (by kernel_rfl) 8 [(0, true), (1, true), (2, true), (3, true), (4, true), (5, true), (6, true), (7, true)] _ rfl (by kernel_rfl) (by kernel_rfl) (by kernel_rfl) (fun _ _ _ _ _ h => h) _ (hst.drew) ?_
    have hst0 := hst.drew
    clear hst
    have hst := hst0
    refine stepD_d rfl rfl rfl rfl (does_move rfl rfl) ?_
    refine stepD_d rfl rfl rfl rfl (does_move rfl rfl) ?_
    refine stepD_d rfl rfl rfl rfl (does_quo_u64 rfl rfl rfl (by omega) (by omega)) ?_
    refine stepD_d rfl rfl rfl rfl (does_move rfl rfl) ?_
    refine stepD_d rfl rfl rfl rfl (does_move rfl rfl) ?_
    refine stepD_d rfl rfl rfl rfl (does_quo_u64 rfl rfl rfl (by omega) (by omega)) ?_
    refine stepD_d rfl rfl rfl rfl (does_assign rfl rfl) ?_
    refine stepD_d rfl rfl rfl rfl (does_assign rfl rfl) ?_
    refine stepD_tail ?_
    refine znq ?_
    refine cp_seq ?_
    generalize n.natAbs / x = N2 at *
    generalize d.natAbs / x = M2 at *
    have hz : N2 = 0 → M2 = 1 := fun e => by rw [e, Nat.gcd_zero_left] at hc2; exact hc2
    refine cp_region ?_
    refine zM rfl hst rfl ?_
    refine stepK_d rfl rfl rfl hst (does_lss_n (b := 2147483648) rfl rfl rfl) ?_
    refine zM rfl hst rfl ?_
    refine wpK_split (t := 36) rfl ?_ ?_
    intro s36
    refine stepK_guard rfl rfl rfl rfl rfl rfl hst (does_move rfl rfl) ?_
    refine stepK_guard rfl rfl rfl rfl rfl rfl hst (does_lss_n (b := 2147483648) rfl rfl rfl) ?_
    refine stepK_d rfl rfl rfl hst (does_pick_true rfl rfl rfl) ?_
    refine znt ?_
    refine cp_if rfl ?_ ?_
    intro c39
    refine zsr ?_
    refine zM rfl hst rfl ?_
    refine stepK_d rfl rfl rfl hst (does_conv_n_i64 rfl (by kernel_rfl) (by kernel_rfl) rfl (by omega)) ?_
    refine zM rfl hst rfl ?_
    refine stepK_d rfl rfl rfl hst (does_conv_n_i64 rfl (by kernel_rfl) (by kernel_rfl) rfl (by omega)) ?_
    refine stepK_d rfl rfl rfl hst (does_build rfl zf30 rfl rfl) ?_
    refine stepK_alloc rfl rfl rfl rfl zf29 rfl hst ?_
    clear hst
    intro b5 w5 hst
    refine stepK_store 1 rfl rfl rfl rfl rfl rfl zf31 rfl rfl hst rfl (by first | (simp [uN_length]; omega) | simp) ?_
    clear hst
    intro w6 hst
    simp only [zL, splice, Nat.reduceAdd] at hst
    refine znq ?_
    refine zsr ?_
    refine zM rfl hst rfl ?_
    refine znt ?_
    refine cp_cond rfl ?_ ?_
    intro c45
    refine cp_region ?_
    refine stepK_d rfl rfl rfl hst (does_fieldAddr rfl zf26 rfl) ?_
    refine stepK_d rfl rfl rfl hst (does_load_ownL 1 rfl (by kernel_rfl) rfl rfl rfl) ?_
    refine stepK_d rfl rfl rfl hst (Does.int (does_neg rfl rfl) (wrap_i64 (by omega) (by omega))) ?_
    refine stepK_d rfl rfl rfl hst (does_fieldAddr rfl zf26 rfl) ?_
    refine stepK_store 1 rfl rfl rfl rfl rfl rfl zf32 rfl rfl hst rfl (by first | (simp [uN_length]; omega) | simp) ?_
    clear hst
    intro w7 hst
    simp only [zL, splice, Nat.reduceAdd] at hst
    refine zn4 ?_
    refine stepK_d rfl rfl rfl hst (does_load_ownN 1 rfl (by kernel_rfl) zf31 rfl rfl rfl) ?_
    refine stepK_store 0 rfl rfl rfl rfl rfl rfl zf31 rfl rfl hst rfl (by first | (simp [uN_length]; omega) | simp) ?_
    clear hst
    intro w8 hst
    simp only [zL, splice, Nat.reduceAdd] at hst
    refine zn5 ?_
    refine ret1c (k := 0) rfl rfl (by kernel_rfl) (by kernel_rfl) rfl hst rfl ?_
    have h9 := IsRat.mk_small (g := g3) (b := neg) hM2 hc2 (by omega) (by omega)
    rw [hq] at h9
    rw [c45] at h9
    exact ⟨_, _, _, rfl, h9⟩
    intro c45
    refine zk4 ?_
    refine stepK_d rfl rfl rfl hst (does_load_ownN 1 rfl (by kernel_rfl) zf31 rfl rfl rfl) ?_
    refine stepK_store 0 rfl rfl rfl rfl rfl rfl zf31 rfl rfl hst rfl (by first | (simp [uN_length]; omega) | simp) ?_
    clear hst
    intro w9 hst
    simp only [zL, splice, Nat.reduceAdd] at hst
    refine zn5 ?_
    refine ret1c (k := 0) rfl rfl (by kernel_rfl) (by kernel_rfl) rfl hst rfl ?_
    have h9 := IsRat.mk_small (g := g3) (b := neg) hM2 hc2 (by omega) (by omega)
    rw [hq] at h9
    rw [c45] at h9
    exact ⟨_, _, _, rfl, h9⟩
    intro c39
    refine zk4 ?_
    refine zM rfl hst rfl ?_
    refine zM rfl hst rfl ?_
    refine stepK_call rfl rfl rfl rfl rfl hst (num_word hst.agree hNl) ?_
    clear hst
    intro v10 g10 w10 hst hle10 hcs10 hp10
    obtain ⟨A10, n10, c10, rfl, hn10⟩ := hp10
    refine zM rfl hst rfl ?_
    refine stepK_call rfl rfl rfl rfl rfl hst (num_word hst.agree hDl) ?_
    clear hst
    intro v11 g11 w11 hst hle11 hcs11 hp11
    replace hn10 := hn10.mono hle11
    obtain ⟨A11, n11, c11, rfl, hn11⟩ := hp11
    refine stepK_d rfl rfl rfl hst (does_build rfl zf33 rfl rfl) ?_
    refine stepK_box rfl rfl rfl rfl rfl rfl hst ?_
    clear hst
    intro bx w12 hst
    refine stepK_d rfl rfl rfl hst (does_build rfl zf30 rfl rfl) ?_
    refine stepK_store 0 rfl rfl rfl rfl rfl rfl zf31 rfl rfl hst rfl (by first | (simp [uN_length]; omega) | simp) ?_
    clear hst
    intro w13 hst
    simp only [zL, splice, Nat.reduceAdd] at hst
    refine znt ?_
    refine cp_ret ?_
    have hN0 : 0 < N2 := Nat.pos_of_ne_zero fun e => by have := hz e; omega
    have hgn := hst.own_none 1 rfl
    obtain ⟨hst, hle9⟩ := hst.publish 1 rfl
    refine ret1c (k := 0) rfl rfl (by kernel_rfl) (by kernel_rfl) rfl hst rfl ?_
    rw [← hq]
    exact ⟨_, _, _, rfl, IsRat.mk_big hgn (by assumption) (by assumption) hN0 hM2 hc2 (by omega)⟩
    intro s36
    refine stepK_pass rfl rfl rfl rfl rfl rfl rfl ?_
    refine stepK_pass rfl rfl rfl rfl rfl rfl rfl ?_
    refine stepK_d rfl rfl rfl hst (does_pick_false rfl rfl rfl) ?_
    refine znt ?_
    refine cp_cond_false rfl ?_
    refine zk4 ?_
    refine zM rfl hst rfl ?_
    refine zM rfl hst rfl ?_
    refine stepK_call rfl rfl rfl rfl rfl hst (num_word hst.agree hNl) ?_
    clear hst
    intro v14 g14 w14 hst hle14 hcs14 hp14
    obtain ⟨A14, n14, c14, rfl, hn14⟩ := hp14
    refine zM rfl hst rfl ?_
    refine stepK_call rfl rfl rfl rfl rfl hst (num_word hst.agree hDl) ?_
    clear hst
    intro v15 g15 w15 hst hle15 hcs15 hp15
    replace hn14 := hn14.mono hle15
    obtain ⟨A15, n15, c15, rfl, hn15⟩ := hp15
    refine stepK_d rfl rfl rfl hst (does_build rfl zf33 rfl rfl) ?_
    refine stepK_box rfl rfl rfl rfl rfl rfl hst ?_
    clear hst
    intro bx w16 hst
    refine stepK_d rfl rfl rfl hst (does_build rfl zf30 rfl rfl) ?_
    refine stepK_store 0 rfl rfl rfl rfl rfl rfl zf31 rfl rfl hst rfl (by first | (simp [uN_length]; omega) | simp) ?_
    clear hst
    intro w17 hst
    simp only [zL, splice, Nat.reduceAdd] at hst
    refine znt ?_
    refine cp_ret ?_
    have hN0 : 0 < N2 := Nat.pos_of_ne_zero fun e => by have := hz e; omega
    have hgn := hst.own_none 1 rfl
    obtain ⟨hst, hle9⟩ := hst.publish 1 rfl
    refine ret1c (k := 0) rfl rfl (by kernel_rfl) (by kernel_rfl) rfl hst rfl ?_
    rw [← hq]
    exact ⟨_, _, _, rfl, IsRat.mk_big hgn (by assumption) (by assumption) hN0 hM2 hc2 (by omega)⟩

end Go.Proofs.YtcjhnkmoloiepaaDoor

namespace Go.Proofs.YtcjhnkmoloiepaaDoor
open Go Go.RowKit Go.Proofs.Vc
set_option linter.unusedVariables false
set_option linter.unusedSimpArgs false

set_option maxHeartbeats 1000000 in
theorem Rat_Sign {g : Mem} {w : World} (hag : Agree g w) {p q : Int} {a : Option Addr} {r : Rat} (ha : IsRat g p q a r) :
    CallTo Tryd.prog 30 #[.agg #[.int .i64 p, .int .i64 q, .pointer a]] w (Ret w g fun v g => v = .int .i64 r.num.sign) := by
  refine CallTo.enter (vs := [.agg #[.int .i64 p, .int .i64 q, .pointer a]]) zf42 (by kernel_rfl) rfl rfl rfl ?_
  have hst := St.init hag
  refine zsr ?_
  refine stepK_box rfl rfl rfl rfl rfl rfl hst ?_
  clear hst
  intro b1 w1 hst
  refine zA rfl hst rfl ?_
  refine znq ?_
  refine cp_block ?_
  refine zsr ?_
  refine stepK_d rfl rfl rfl hst (does_fieldAddr rfl zf36 rfl) ?_
  refine stepK_d rfl rfl rfl hst (does_load_ownL 0 rfl (by kernel_rfl) rfl rfl rfl) ?_
  refine stepK_d rfl rfl rfl hst (does_neq_nilD rfl zf37 rfl rfl) ?_
  refine zA rfl hst rfl ?_
  refine znt ?_
  refine cp_if rfl ?_ ?_
  intro c3
  obtain ⟨rfl, rfl, bl, rfl, hb9⟩ := ha.big c3
  have hn0 := hb9.num0
  obtain ⟨hs, A, n, c, B, m, d, e0, e1, e2, e3, e4⟩ := hb9
  refine cp_seq ?_
  refine zsr ?_
  refine stepK_d rfl rfl rfl hst (does_fieldAddr rfl zf36 rfl) ?_
  refine stepK_d rfl rfl rfl hst (does_load_ownL 0 rfl (by kernel_rfl) rfl rfl rfl) ?_
  refine stepK_d rfl rfl rfl hst (does_nilCheck rfl rfl) ?_
  refine stepK_d rfl rfl rfl hst (does_fieldAddr rfl zf38 rfl) ?_
  refine stepK_d rfl rfl rfl hst (does_load_g1 rfl (by kernel_rfl) rfl e0) ?_
  refine znt ?_
  refine cp_if rfl ?_ ?_
  intro c11
  refine zsr ?_
  refine zA rfl hst rfl ?_
  refine zn5 ?_
  refine at_block_ret ?_
  refine at_then_ret ?_
  refine ret1 rfl rfl hst ?_
  rw [Int.sign_eq_neg_one_of_neg c11]
  intro c11
  refine zk4 ?_
  refine zA rfl hst rfl ?_
  refine znt ?_
  refine cp_ret ?_
  refine at_block_ret ?_
  refine at_then_ret ?_
  refine ret1 rfl rfl hst ?_
  rw [Int.sign_eq_one_of_pos (by omega)]
  intro c3
  obtain rfl : a = none := Decidable.byContradiction c3
  obtain ⟨hl1, hl2, hl3⟩ := ha.low
  refine zsr ?_
  refine stepK_d rfl rfl rfl hst (does_fieldAddr rfl zf26 rfl) ?_
  refine stepK_d rfl rfl rfl hst (does_load_ownL 0 rfl (by kernel_rfl) rfl rfl rfl) ?_
  refine stepK_d rfl rfl rfl hst (does_lss rfl rfl rfl) ?_
  refine zA rfl hst rfl ?_
  refine znt ?_
  refine cp_if rfl ?_ ?_
  intro c12
  refine zsr ?_
  refine zA rfl hst rfl ?_
  refine znt ?_
  refine cp_ret ?_
  refine at_block_ret ?_
  refine at_then_ret ?_
  refine ret1 rfl rfl hst ?_
  rw [Int.sign_eq_neg_one_of_neg (by omega)]
  intro c12
  refine zsr ?_
  refine stepK_d rfl rfl rfl hst (does_fieldAddr rfl zf26 rfl) ?_
  refine stepK_d rfl rfl rfl hst (does_load_ownL 0 rfl (by kernel_rfl) rfl rfl rfl) ?_
  refine stepK_d rfl rfl rfl hst (does_gtr rfl rfl rfl) ?_
  refine zA rfl hst rfl ?_
  refine znt ?_
  refine cp_if rfl ?_ ?_
  intro c16
  refine zsr ?_
  refine zA rfl hst rfl ?_
  refine znt ?_
  refine cp_ret ?_
  refine at_block_ret ?_
  refine at_then_ret ?_
  refine ret1 rfl rfl hst ?_
  rw [Int.sign_eq_one_of_pos (by omega)]
  intro c16
  refine cp_skip ?_
  refine at_block_normal ?_
  refine cp_then ?_
  refine zsr ?_
  refine zA rfl hst rfl ?_
  refine znt ?_
  refine cp_ret ?_
  refine ret1 rfl rfl hst ?_
  rw [show r.num = 0 by omega]
  rfl

set_option maxHeartbeats 1000000 in
theorem Rat_Zero {g : Mem} {w : World} (hag : Agree g w) {p q : Int} {a : Option Addr} {r : Rat} (ha : IsRat g p q a r) :
    CallTo Tryd.prog 42 #[.agg #[.int .i64 p, .int .i64 q, .pointer a]] w (Ret w g fun v g => v = .bool (decide (r = 0))) := by
  refine CallTo.enter (vs := [.agg #[.int .i64 p, .int .i64 q, .pointer a]]) zf43 (by kernel_rfl) rfl rfl rfl ?_
  have hst := St.init hag
  refine zsr ?_
  refine stepK_box rfl rfl rfl rfl rfl rfl hst ?_
  clear hst
  intro b1 w1 hst
  refine zA rfl hst rfl ?_
  refine zn4 ?_
  refine stepK_d rfl rfl rfl hst (does_fieldAddr rfl zf36 rfl) ?_
  refine stepK_d rfl rfl rfl hst (does_load_ownL 0 rfl (by kernel_rfl) rfl rfl rfl) ?_
  refine stepK_d rfl rfl rfl hst (does_eql_nilD rfl zf37 rfl rfl) ?_
  refine zM rfl hst rfl ?_
  refine wpK_split (t := 6) rfl ?_ ?_
  intro s6
  obtain rfl : a = none := s6
  obtain ⟨hl1, hl2, hl3⟩ := ha.low
  refine stepK_guard rfl rfl rfl rfl rfl rfl hst (does_fieldAddr rfl zf26 rfl) ?_
  refine stepK_guard rfl rfl rfl rfl rfl rfl hst (does_load_ownL 0 rfl (by kernel_rfl) rfl rfl rfl) ?_
  refine stepK_guard rfl rfl rfl rfl rfl rfl hst (does_eql rfl rfl rfl) ?_
  refine stepK_d rfl rfl rfl hst (does_pick_true rfl rfl rfl) ?_
  refine zA rfl hst rfl ?_
  refine znt ?_
  refine cp_ret ?_
  refine ret1 rfl rfl hst ?_
  rw [hl2]
  congr 1
  exact decide_eq_decide.2 rat_zero_iff
  intro s6
  obtain ⟨_, _, bl, _, hb9⟩ := ha.big s6
  have hn0 := hb9.num0
  refine stepK_pass rfl rfl rfl rfl rfl rfl rfl ?_
  refine stepK_pass rfl rfl rfl rfl rfl rfl rfl ?_
  refine stepK_pass rfl rfl rfl rfl rfl rfl rfl ?_
  refine stepK_d rfl rfl rfl hst (does_pick_false rfl rfl rfl) ?_
  refine zA rfl hst rfl ?_
  refine znt ?_
  refine cp_ret ?_
  refine ret1 rfl rfl hst ?_
  rw [decide_eq_false fun e => hn0 (rat_zero_iff.2 e)]

set_option maxHeartbeats 1000000 in
theorem Rat_Neg {g : Mem} {w : World} (hag : Agree g w) {p q : Int} {a : Option Addr} {r : Rat} (ha : IsRat g p q a r) :
    CallTo Tryd.prog 63 #[.agg #[.int .i64 p, .int .i64 q, .pointer a]] w (Ret w g fun v g => ∃ p q a, v = .agg #[.int .i64 p, .int .i64 q, .pointer a] ∧ IsRat g p q a (-r)) := by
  refine CallTo.enter (vs := [.agg #[.int .i64 p, .int .i64 q, .pointer a]]) zf44 (by kernel_rfl) rfl rfl rfl ?_
  have hst := St.init hag
  refine zsr ?_
  refine stepK_box rfl rfl rfl rfl rfl rfl hst ?_
  clear hst
  intro b1 w1 hst
  refine stepK_alloc rfl rfl rfl rfl zf29 rfl hst ?_
  clear hst
  intro b2 w2 hst
  refine znq ?_
  refine zsr ?_
  refine stepK_d rfl rfl rfl hst (does_fieldAddr rfl zf36 rfl) ?_
  refine stepK_d rfl rfl rfl hst (does_load_ownL 0 rfl (by kernel_rfl) rfl rfl rfl) ?_
  refine stepK_d rfl rfl rfl hst (does_neq_nilD rfl zf37 rfl rfl) ?_
  refine znt ?_
  refine cp_if rfl ?_ ?_
  intro c5
  obtain ⟨rfl, rfl, bl, rfl, hb9⟩ := ha.big c5
  have hn0 := hb9.num0
  obtain ⟨hs, A, n, c, B, m, d, e0, e1, e2, e3, e4⟩ := hb9
  refine cp_seq ?_
  refine cp_drawn (by kernel_rfl) 19 [(0, true), (1, true), (2, true), (3, true), (4, true), (5, true), (6, true), (7, true), (8, true), (9, true), (10, true), (11, true), (12, true), (13, true), (14, true), (15, true), (16, true), (17, false), (18, true)] _ rfl (by kernel_rfl) (by kernel_rfl) (by kernel_rfl) (fun _ _ _ _ _ h => h) _ (hst.drew) ?_
  have hst0 := hst.drew
  clear hst
  have hst := hst0
  refine stepD_d rfl rfl rfl rfl (does_fieldAddr rfl zf36 rfl) ?_
  refine stepD_d rfl rfl rfl rfl (does_load_ownL 0 rfl (by kernel_rfl) rfl rfl rfl) ?_
  refine stepD_d rfl rfl rfl rfl (does_nilCheck rfl rfl) ?_
  refine stepD_d rfl rfl rfl rfl (does_fieldAddr rfl zf38 rfl) ?_
  refine stepD_d rfl rfl rfl rfl (does_load_g1 rfl (by kernel_rfl) rfl e0) ?_
  refine stepD_d rfl rfl rfl rfl (does_not rfl rfl) ?_
  refine stepD_d rfl rfl rfl rfl (does_fieldAddr rfl zf36 rfl) ?_
  refine stepD_d rfl rfl rfl rfl (does_load_ownL 0 rfl (by kernel_rfl) rfl rfl rfl) ?_
  refine stepD_d rfl rfl rfl rfl (does_nilCheck rfl rfl) ?_
  refine stepD_d rfl rfl rfl rfl (does_fieldAddr rfl zf39 rfl) ?_
  refine stepD_d rfl rfl rfl rfl (does_load_g1 rfl (by kernel_rfl) rfl e1) ?_
  refine stepD_d rfl rfl rfl rfl (does_fieldAddr rfl zf36 rfl) ?_
  refine stepD_d rfl rfl rfl rfl (does_load_ownL 0 rfl (by kernel_rfl) rfl rfl rfl) ?_
  refine stepD_d rfl rfl rfl rfl (does_nilCheck rfl rfl) ?_
  refine stepD_d rfl rfl rfl rfl (does_fieldAddr rfl zf40 rfl) ?_
  refine stepD_d rfl rfl rfl rfl (does_load_g1 rfl (by kernel_rfl) rfl e2) ?_
  refine stepD_d rfl rfl rfl rfl (does_build rfl zf33 rfl rfl) ?_
  refine stepD_box rfl rfl rfl rfl rfl rfl rfl hst (keep_alloc hst0 (Mem.le.refl _) (by simp)) ?_
  clear hst
  intro bx w3 hst
  refine stepD_d rfl rfl rfl rfl (does_build rfl zf30 rfl rfl) ?_
  refine stepD_tail ?_
  refine stepK_store 1 rfl rfl rfl rfl rfl rfl zf31 rfl rfl hst rfl (by first | (simp [uN_length]; omega) | simp) ?_
  clear hst
  intro w4 hst
  simp only [zL, splice, Nat.reduceAdd] at hst
  refine zn5 ?_
  have hgn := hst.own_none 2 rfl
  obtain ⟨hst, hle9⟩ := hst.publish 2 rfl
  refine ret1c (k := 1) rfl rfl (by kernel_rfl) (by kernel_rfl) rfl hst rfl ?_
  exact ⟨_, _, _, rfl, IsRat.neg_big hgn hs hn0 e3 e4⟩
  intro c5
  obtain rfl : a = none := Decidable.byContradiction c5
  have hl := ha.low
  have hbd := hl.bound
  refine zk4 ?_
  refine stepK_d rfl rfl rfl hst (does_fieldAddr rfl zf26 rfl) ?_
  refine stepK_d rfl rfl rfl hst (does_load_ownL 0 rfl (by kernel_rfl) rfl rfl rfl) ?_
  refine stepK_d rfl rfl rfl hst (Does.int (does_neg rfl rfl) (wrap_i64 (by omega) (by omega))) ?_
  refine stepK_d rfl rfl rfl hst (does_fieldAddr rfl zf25 rfl) ?_
  refine stepK_d rfl rfl rfl hst (does_load_ownL 0 rfl (by kernel_rfl) rfl rfl rfl) ?_
  refine stepK_d rfl rfl rfl hst (does_build rfl zf30 rfl rfl) ?_
  refine stepK_store 1 rfl rfl rfl rfl rfl rfl zf31 rfl rfl hst rfl (by first | (simp [uN_length]; omega) | simp) ?_
  clear hst
  intro w5 hst
  simp only [zL, splice, Nat.reduceAdd] at hst
  refine znt ?_
  refine cp_ret ?_
  refine ret1c (k := 1) rfl rfl (by kernel_rfl) (by kernel_rfl) rfl hst rfl ?_
  exact ⟨_, _, _, rfl, .of_low hl.neg⟩

end Go.Proofs.YtcjhnkmoloiepaaDoor

namespace Go.Proofs.YtcjhnkmoloiepaaDoor
open Go Go.RowKit Go.Proofs.Vc
set_option linter.unusedVariables false
set_option linter.unusedSimpArgs false

set_option maxHeartbeats 1000000 in
theorem Rat_Inv {g : Mem} {w : World} (hag : Agree g w) {p q : Int} {a : Option Addr} {r : Rat} (ha : IsRat g p q a r) :
    CallTo Tryd.prog 61 #[.agg #[.int .i64 p, .int .i64 q, .pointer a]] w (Ret w g fun v g => ∃ p q a, v = .agg #[.int .i64 p, .int .i64 q, .pointer a] ∧ IsRat g p q a (r⁻¹)) := by
  refine CallTo.enter (vs := [.agg #[.int .i64 p, .int .i64 q, .pointer a]]) zf45 (by kernel_rfl) rfl rfl rfl ?_
  have hst := St.init hag
  refine zsr ?_
  refine stepK_box rfl rfl rfl rfl rfl rfl hst ?_
  clear hst
  intro b1 w1 hst
  refine stepK_alloc rfl rfl rfl rfl zf29 rfl hst ?_
  clear hst
  intro b2 w2 hst
  refine znq ?_
  refine zsr ?_
  refine stepK_d rfl rfl rfl hst (does_load_ownN 0 rfl (by kernel_rfl) zf31 rfl rfl rfl) ?_
  refine stepK_call rfl rfl rfl rfl rfl hst (Rat_Zero hst.agree ha) ?_
  clear hst
  intro v3 g3 w3 hst hle3 hcs3 hp3
  replace ha := ha.mono hle3
  obtain rfl := hp3
  refine znt ?_
  refine cp_if rfl ?_ ?_
  intro c7
  refine zsr ?_
  refine stepK_d rfl rfl rfl hst (does_build rfl zf30 rfl rfl) ?_
  refine stepK_store 1 rfl rfl rfl rfl rfl rfl zf31 rfl rfl hst rfl (by first | (simp [uN_length]; omega) | simp) ?_
  clear hst
  intro w4 hst
  simp only [zL, splice, Nat.reduceAdd] at hst
  refine zn5 ?_
  refine ret1c (k := 1) rfl rfl (by kernel_rfl) (by kernel_rfl) rfl hst rfl ?_
  subst c7
  rw [Rat.inv_zero]
  exact ⟨_, _, _, rfl, IsRat.zero _⟩
  intro c7
  have hn0 : r.num ≠ 0 := fun e => c7 (rat_zero_iff.1 e)
  refine zk4 ?_
  refine stepK_d rfl rfl rfl hst (does_load_ownN 0 rfl (by kernel_rfl) zf31 rfl rfl rfl) ?_
  refine stepK_call rfl rfl rfl rfl rfl hst (Rat_parts hst.agree ha) ?_
  clear hst
  intro v5 g5 w5 hst hle5 hcs5 hp5
  replace ha := ha.mono hle5
  obtain ⟨A1, n1, c1, B1, m1, d1, rfl, hN1, hD1⟩ := hp5
  refine zM rfl hst rfl ?_
  refine zE rfl hst rfl rfl ?_
  refine zE rfl hst rfl rfl ?_
  refine zE rfl hst rfl rfl ?_
  refine zA rfl hst rfl ?_
  refine zA rfl hst rfl ?_
  refine zA rfl hst rfl ?_
  refine zn4 ?_
  refine zM rfl hst rfl ?_
  refine zM rfl hst rfl ?_
  refine zM rfl hst rfl ?_
  refine stepK_call rfl rfl rfl rfl rfl hst (num_lowest hst.agree hD1 hN1 (by omega) (by rw [Nat.gcd_comm]; exact r.reduced)) ?_
  clear hst
  intro v6 g6 w6 hst hle6 hcs6 hp6
  replace ha := ha.mono hle6
  replace hN1 := hN1.mono hle6
  replace hD1 := hD1.mono hle6
  obtain ⟨p9, q9, a9, rfl, hr9⟩ := hp6
  refine stepK_store 1 rfl rfl rfl rfl rfl rfl zf31 rfl rfl hst rfl (by first | (simp [uN_length]; omega) | simp) ?_
  clear hst
  intro w7 hst
  simp only [zL, splice, Nat.reduceAdd] at hst
  refine znt ?_
  refine cp_ret ?_
  refine ret1c (k := 1) rfl rfl (by kernel_rfl) (by kernel_rfl) rfl hst rfl ?_
  rw [rat_inv] at hr9
  exact ⟨_, _, _, rfl, hr9⟩

set_option maxHeartbeats 1000000 in
theorem Rat_Add {g : Mem} {w : World} (hag : Agree g w) {p q : Int} {a : Option Addr} {r : Rat} (ha : IsRat g p q a r) {s t : Int} {b : Option Addr} {x : Rat} (hb : IsRat g s t b x) (hfa : Fit r) (hfb : Fit x) :
    CallTo Tryd.prog 25 #[.agg #[.int .i64 p, .int .i64 q, .pointer a], .agg #[.int .i64 s, .int .i64 t, .pointer b]] w (Ret w g fun v g => ∃ p q a, v = .agg #[.int .i64 p, .int .i64 q, .pointer a] ∧ IsRat g p q a (r + x)) := by
  refine CallTo.enter (vs := [.agg #[.int .i64 p, .int .i64 q, .pointer a], .agg #[.int .i64 s, .int .i64 t, .pointer b]]) zf46 (by kernel_rfl) rfl rfl rfl ?_
  have hst := St.init hag
  refine zsr ?_
  refine stepK_box rfl rfl rfl rfl rfl rfl hst ?_
  clear hst
  intro b1 w1 hst
  refine stepK_box rfl rfl rfl rfl rfl rfl hst ?_
  clear hst
  intro b2 w2 hst
  refine stepK_alloc rfl rfl rfl rfl zf29 rfl hst ?_
  clear hst
  intro b3 w3 hst
  refine znq ?_
  refine zsr ?_
  refine stepK_d rfl rfl rfl hst (does_fieldAddr rfl zf36 rfl) ?_
  refine stepK_d rfl rfl rfl hst (does_load_ownL 0 rfl (by kernel_rfl) rfl rfl rfl) ?_
  refine stepK_d rfl rfl rfl hst (does_eql_nilD rfl zf37 rfl rfl) ?_
  refine zM rfl hst rfl ?_
  refine wpK_split (t := 21) rfl ?_ ?_
  intro s21
  refine stepK_guard rfl rfl rfl rfl rfl rfl hst (does_fieldAddr rfl zf36 rfl) ?_
  refine stepK_guard rfl rfl rfl rfl rfl rfl hst (does_load_ownL 1 rfl (by kernel_rfl) rfl rfl rfl) ?_
  refine stepK_guard rfl rfl rfl rfl rfl rfl hst (does_eql_nilD rfl zf37 rfl rfl) ?_
  refine stepK_d rfl rfl rfl hst (does_pick_true rfl rfl rfl) ?_
  refine znt ?_
  refine cp_if rfl ?_ ?_
  intro c25
  refine cp_seq ?_
  obtain rfl : a = none := by assumption
  obtain rfl : b = none := by assumption
  have hla := ha.low
  have hlb := hb.low
  have b1 := hla.1.bound
  have b2 := hlb.1.bound
  have hdr := r.den_nz
  have hdx := x.den_nz
  have hd0 : (r.den : Int) * (x.den : Int) ≠ 0 := Int.mul_ne_zero (by omega) (by omega)
  have m1 := mulb (a := r.num) (b := (x.den : Int)) (by omega) (by omega) (by omega) (by omega)
  have m2 := mulb (a := x.num) (b := (r.den : Int)) (by omega) (by omega) (by omega) (by omega)
  have m3 := mulb (a := (r.den : Int)) (b := (x.den : Int)) (by omega) (by omega) (by omega) (by omega)
  have m4 := mulb (a := r.num) (b := x.num) (by omega) (by omega) (by omega) (by omega)
  refine cp_region ?_
  refine stepK_d rfl rfl rfl hst (does_load_ownN 0 rfl (by kernel_rfl) zf31 rfl rfl rfl) ?_
  refine stepK_call rfl rfl rfl rfl rfl hst (Rat_low hst.agree hla) ?_
  clear hst
  intro v4 g4 w4 hst hle4 hcs4 hp4
  replace ha := ha.mono hle4
  replace hb := hb.mono hle4
  obtain rfl := hp4
  refine zM rfl hst rfl ?_
  refine zE rfl hst rfl rfl ?_
  refine zE rfl hst rfl rfl ?_
  refine zA rfl hst rfl ?_
  refine zA rfl hst rfl ?_
  refine zn4 ?_
  refine stepK_d rfl rfl rfl hst (does_load_ownN 1 rfl (by kernel_rfl) zf31 rfl rfl rfl) ?_
  refine stepK_call rfl rfl rfl rfl rfl hst (Rat_low hst.agree hlb) ?_
  clear hst
  intro v5 g5 w5 hst hle5 hcs5 hp5
  replace ha := ha.mono hle5
  replace hb := hb.mono hle5
  obtain rfl := hp5
  refine zM rfl hst rfl ?_
  refine zE rfl hst rfl rfl ?_
  refine zE rfl hst rfl rfl ?_
  refine zA rfl hst rfl ?_
  refine zA rfl hst rfl ?_
  refine zn4 ?_
  refine zM rfl hst rfl ?_
  refine zM rfl hst rfl ?_
  refine stepK_d rfl rfl rfl hst (Does.int (does_mul rfl rfl rfl) (wrap_i64 (by omega) (by omega))) ?_
  refine zM rfl hst rfl ?_
  refine zM rfl hst rfl ?_
  refine stepK_d rfl rfl rfl hst (Does.int (does_mul rfl rfl rfl) (wrap_i64 (by omega) (by omega))) ?_
  refine stepK_d rfl rfl rfl hst (Does.int (does_add rfl rfl rfl) (wrap_i64 (by omega) (by omega))) ?_
  refine zM rfl hst rfl ?_
  refine zM rfl hst rfl ?_
  refine stepK_d rfl rfl rfl hst (Does.int (does_mul rfl rfl rfl) (wrap_i64 (by omega) (by omega))) ?_
  refine stepK_call rfl rfl rfl rfl rfl hst (num_quotient hst.agree (by omega) (by omega) (by omega) (by omega) hd0) ?_
  clear hst
  intro v6 g6 w6 hst hle6 hcs6 hp6
  replace ha := ha.mono hle6
  replace hb := hb.mono hle6
  obtain ⟨p9, q9, a9, rfl, hr9⟩ := hp6
  refine stepK_store 2 rfl rfl rfl rfl rfl rfl zf31 rfl rfl hst rfl (by first | (simp [uN_length]; omega) | simp) ?_
  clear hst
  intro w7 hst
  simp only [zL, splice, Nat.reduceAdd] at hst
  refine zn5 ?_
  refine ret1c (k := 2) rfl rfl (by kernel_rfl) (by kernel_rfl) rfl hst rfl ?_
  rw [divInt_nat, rat_add] at hr9
  exact ⟨_, _, _, rfl, hr9⟩
  intro c25
  refine zk4 ?_
  refine stepK_d rfl rfl rfl hst (does_load_ownN 0 rfl (by kernel_rfl) zf31 rfl rfl rfl) ?_
  refine stepK_call rfl rfl rfl rfl rfl hst (Rat_parts hst.agree ha) ?_
  clear hst
  intro v8 g8 w8 hst hle8 hcs8 hp8
  replace ha := ha.mono hle8
  replace hb := hb.mono hle8
  obtain ⟨A1, n1, c1, B1, m1, d1, rfl, hN1, hD1⟩ := hp8
  refine zM rfl hst rfl ?_
  refine zE rfl hst rfl rfl ?_
  refine zE rfl hst rfl rfl ?_
  refine zE rfl hst rfl rfl ?_
  refine zA rfl hst rfl ?_
  refine zA rfl hst rfl ?_
  refine zA rfl hst rfl ?_
  refine zn4 ?_
  refine stepK_d rfl rfl rfl hst (does_load_ownN 1 rfl (by kernel_rfl) zf31 rfl rfl rfl) ?_
  refine stepK_call rfl rfl rfl rfl rfl hst (Rat_parts hst.agree hb) ?_
  clear hst
  intro v9 g9 w9 hst hle9 hcs9 hp9
  replace ha := ha.mono hle9
  replace hb := hb.mono hle9
  replace hN1 := hN1.mono hle9
  replace hD1 := hD1.mono hle9
  obtain ⟨A2, n2, c2, B2, m2, d2, rfl, hN2, hD2⟩ := hp9
  refine zM rfl hst rfl ?_
  refine zE rfl hst rfl rfl ?_
  refine zE rfl hst rfl rfl ?_
  refine zE rfl hst rfl rfl ?_
  refine zA rfl hst rfl ?_
  refine zA rfl hst rfl ?_
  refine zA rfl hst rfl ?_
  refine znq ?_
  have l1 := hN1.len hfa.1
  have l2 := hD1.len hfa.2
  have l3 := hN2.len hfb.1
  have l4 := hD2.len hfb.2
  refine cp_region ?_
  refine zM rfl hst rfl ?_
  refine zM rfl hst rfl ?_
  refine stepK_call rfl rfl rfl rfl rfl hst (num_product hst.agree hN1 hD2 (by omega) (by omega)) ?_
  clear hst
  intro v10 g10 w10 hst hle10 hcs10 hp10
  replace ha := ha.mono hle10
  replace hb := hb.mono hle10
  replace hN1 := hN1.mono hle10
  replace hD1 := hD1.mono hle10
  replace hN2 := hN2.mono hle10
  replace hD2 := hD2.mono hle10
  obtain ⟨A3, n3, c3, rfl, hU⟩ := hp10
  refine zM rfl hst rfl ?_
  refine zM rfl hst rfl ?_
  refine stepK_call rfl rfl rfl rfl rfl hst (num_product hst.agree hN2 hD1 (by omega) (by omega)) ?_
  clear hst
  intro v11 g11 w11 hst hle11 hcs11 hp11
  replace ha := ha.mono hle11
  replace hb := hb.mono hle11
  replace hN1 := hN1.mono hle11
  replace hD1 := hD1.mono hle11
  replace hN2 := hN2.mono hle11
  replace hD2 := hD2.mono hle11
  replace hU := hU.mono hle11
  obtain ⟨A4, n4, c4, rfl, hV⟩ := hp11
  refine zA rfl hst rfl ?_
  refine zA rfl hst rfl ?_
  refine zn4 ?_
  refine zM rfl hst rfl ?_
  refine zM rfl hst rfl ?_
  refine stepK_call rfl rfl rfl rfl rfl hst (num_product hst.agree hD1 hD2 (by omega) (by omega)) ?_
  clear hst
  intro v12 g12 w12 hst hle12 hcs12 hp12
  replace ha := ha.mono hle12
  replace hb := hb.mono hle12
  replace hN1 := hN1.mono hle12
  replace hD1 := hD1.mono hle12
  replace hN2 := hN2.mono hle12
  replace hD2 := hD2.mono hle12
  replace hU := hU.mono hle12
  replace hV := hV.mono hle12
  obtain ⟨A5, n5, c5, rfl, hW⟩ := hp12
  refine zA rfl hst rfl ?_
  refine znq ?_
  refine cp_seq ?_
  have k1 := lenMul hU hfa.1 hfb.2
  have k2 := lenMul hV hfb.1 hfa.2
  have k3 := lenMul hW hfa.2 hfb.2
  have hWp : 0 < r.den * x.den := Nat.mul_pos (Nat.pos_of_ne_zero r.den_nz) (Nat.pos_of_ne_zero x.den_nz)
  refine cp_region ?_
  refine zM rfl hst rfl ?_
  refine zM rfl hst rfl ?_
  refine stepK_d rfl rfl rfl hst (does_eql_bool rfl (by kernel_rfl) rfl rfl) ?_
  refine znt ?_
  refine cp_cond rfl ?_ ?_
  intro c70
  have hs := eq_of_beq c70
  refine zsr ?_
  refine zM rfl hst rfl ?_
  refine zM rfl hst rfl ?_
  refine zM rfl hst rfl ?_
  refine stepK_call rfl rfl rfl rfl rfl hst (num_sum hst.agree hU hV (by omega) (by omega)) ?_
  clear hst
  intro v13 g13 w13 hst hle13 hcs13 hp13
  replace ha := ha.mono hle13
  replace hb := hb.mono hle13
  replace hN1 := hN1.mono hle13
  replace hD1 := hD1.mono hle13
  replace hN2 := hN2.mono hle13
  replace hD2 := hD2.mono hle13
  replace hU := hU.mono hle13
  replace hV := hV.mono hle13
  replace hW := hW.mono hle13
  obtain ⟨A6, n6, c6, rfl, hS⟩ := hp13
  have k4 := lenAddK hS hfa.1 hfb.2 hfb.1 hfa.2
  refine zM rfl hst rfl ?_
  refine stepK_call rfl rfl rfl rfl rfl hst (num_reduce hst.agree hS hW hWp (by omega) (by omega)) ?_
  clear hst
  intro v14 g14 w14 hst hle14 hcs14 hp14
  replace ha := ha.mono hle14
  replace hb := hb.mono hle14
  replace hN1 := hN1.mono hle14
  replace hD1 := hD1.mono hle14
  replace hN2 := hN2.mono hle14
  replace hD2 := hD2.mono hle14
  replace hU := hU.mono hle14
  replace hV := hV.mono hle14
  replace hW := hW.mono hle14
  replace hS := hS.mono hle14
  obtain ⟨p9, q9, a9, rfl, hr9⟩ := hp14
  refine stepK_store 2 rfl rfl rfl rfl rfl rfl zf31 rfl rfl hst rfl (by first | (simp [uN_length]; omega) | simp) ?_
  clear hst
  intro w15 hst
  simp only [zL, splice, Nat.reduceAdd] at hst
  refine zn5 ?_
  refine ret1c (k := 2) rfl rfl (by kernel_rfl) (by kernel_rfl) rfl hst rfl ?_
  rw [sg_add, sg_abs, hs, sg_abs, rat_add] at hr9
  exact ⟨_, _, _, rfl, hr9⟩
  intro c70
  have hne := ne_of_beq_false c70
  refine cp_skip ?_
  refine cp_then ?_
  refine cp_seq ?_
  refine zsr ?_
  refine zM rfl hst rfl ?_
  refine zM rfl hst rfl ?_
  refine stepK_call rfl rfl rfl rfl rfl hst (num_compare hst.agree hU hV (by omega)) ?_
  clear hst
  intro v16 g16 w16 hst hle16 hcs16 hp16
  replace ha := ha.mono hle16
  replace hb := hb.mono hle16
  replace hN1 := hN1.mono hle16
  replace hD1 := hD1.mono hle16
  replace hN2 := hN2.mono hle16
  replace hD2 := hD2.mono hle16
  replace hU := hU.mono hle16
  replace hV := hV.mono hle16
  replace hW := hW.mono hle16
  obtain rfl := hp16
  refine stepK_d rfl rfl rfl hst (does_geq rfl rfl rfl) ?_
  refine znt ?_
  refine cp_if rfl ?_ ?_
  intro c80
  have hle := cmpN_nonneg.1 c80
  refine zsr ?_
  refine zM rfl hst rfl ?_
  refine zM rfl hst rfl ?_
  refine zM rfl hst rfl ?_
  refine stepK_call rfl rfl rfl rfl rfl hst (num_less hst.agree hU hV (by omega) hle) ?_
  clear hst
  intro v17 g17 w17 hst hle17 hcs17 hp17
  replace ha := ha.mono hle17
  replace hb := hb.mono hle17
  replace hN1 := hN1.mono hle17
  replace hD1 := hD1.mono hle17
  replace hN2 := hN2.mono hle17
  replace hD2 := hD2.mono hle17
  replace hU := hU.mono hle17
  replace hV := hV.mono hle17
  replace hW := hW.mono hle17
  obtain ⟨A6, n6, c6, rfl, hS⟩ := hp17
  have k4 := lenSubK hS hfa.1 hfb.2
  refine zM rfl hst rfl ?_
  refine stepK_call rfl rfl rfl rfl rfl hst (num_reduce hst.agree hS hW hWp (by omega) (by omega)) ?_
  clear hst
  intro v18 g18 w18 hst hle18 hcs18 hp18
  replace ha := ha.mono hle18
  replace hb := hb.mono hle18
  replace hN1 := hN1.mono hle18
  replace hD1 := hD1.mono hle18
  replace hN2 := hN2.mono hle18
  replace hD2 := hD2.mono hle18
  replace hU := hU.mono hle18
  replace hV := hV.mono hle18
  replace hW := hW.mono hle18
  replace hS := hS.mono hle18
  obtain ⟨p9, q9, a9, rfl, hr9⟩ := hp18
  refine stepK_store 2 rfl rfl rfl rfl rfl rfl zf31 rfl rfl hst rfl (by first | (simp [uN_length]; omega) | simp) ?_
  clear hst
  intro w19 hst
  simp only [zL, splice, Nat.reduceAdd] at hst
  refine zn5 ?_
  refine ret1c (k := 2) rfl rfl (by kernel_rfl) (by kernel_rfl) rfl hst rfl ?_
  rw [sg_sub hle hne, sg_abs, sg_abs, rat_add] at hr9
  exact ⟨_, _, _, rfl, hr9⟩
  intro c80
  have hle : r.num.natAbs * x.den ≤ x.num.natAbs * r.den := Nat.le_of_lt (Nat.lt_of_not_le fun h => c80 (cmpN_nonneg.2 h))
  refine zk4 ?_
  refine zM rfl hst rfl ?_
  refine zM rfl hst rfl ?_
  refine zM rfl hst rfl ?_
  refine stepK_call rfl rfl rfl rfl rfl hst (num_less hst.agree hV hU (by omega) hle) ?_
  clear hst
  intro v20 g20 w20 hst hle20 hcs20 hp20
  replace ha := ha.mono hle20
  replace hb := hb.mono hle20
  replace hN1 := hN1.mono hle20
  replace hD1 := hD1.mono hle20
  replace hN2 := hN2.mono hle20
  replace hD2 := hD2.mono hle20
  replace hU := hU.mono hle20
  replace hV := hV.mono hle20
  replace hW := hW.mono hle20
  obtain ⟨A6, n6, c6, rfl, hS⟩ := hp20
  have k4 := lenSubK hS hfb.1 hfa.2
  refine zM rfl hst rfl ?_
  refine stepK_call rfl rfl rfl rfl rfl hst (num_reduce hst.agree hS hW hWp (by omega) (by omega)) ?_
  clear hst
  intro v21 g21 w21 hst hle21 hcs21 hp21
  replace ha := ha.mono hle21
  replace hb := hb.mono hle21
  replace hN1 := hN1.mono hle21
  replace hD1 := hD1.mono hle21
  replace hN2 := hN2.mono hle21
  replace hD2 := hD2.mono hle21
  replace hU := hU.mono hle21
  replace hV := hV.mono hle21
  replace hW := hW.mono hle21
  replace hS := hS.mono hle21
  obtain ⟨p9, q9, a9, rfl, hr9⟩ := hp21
  refine stepK_store 2 rfl rfl rfl rfl rfl rfl zf31 rfl rfl hst rfl (by first | (simp [uN_length]; omega) | simp) ?_
  clear hst
  intro w22 hst
  simp only [zL, splice, Nat.reduceAdd] at hst
  refine znt ?_
  refine cp_ret ?_
  refine ret1c (k := 2) rfl rfl (by kernel_rfl) (by kernel_rfl) rfl hst rfl ?_
  rw [sg_sub hle (Ne.symm hne), sg_abs, sg_abs, Int.add_comm, rat_add] at hr9
  exact ⟨_, _, _, rfl, hr9⟩
  intro s21
  refine stepK_pass rfl rfl rfl rfl rfl rfl rfl ?_
  refine stepK_pass rfl rfl rfl rfl rfl rfl rfl ?_
  refine stepK_pass rfl rfl rfl rfl rfl rfl rfl ?_
  refine stepK_d rfl rfl rfl hst (does_pick_false rfl rfl rfl) ?_
  refine znt ?_
  refine cp_cond_false rfl ?_
  refine zk4 ?_
  refine stepK_d rfl rfl rfl hst (does_load_ownN 0 rfl (by kernel_rfl) zf31 rfl rfl rfl) ?_
  refine stepK_call rfl rfl rfl rfl rfl hst (Rat_parts hst.agree ha) ?_
  clear hst
  intro v23 g23 w23 hst hle23 hcs23 hp23
  replace ha := ha.mono hle23
  replace hb := hb.mono hle23
  obtain ⟨A1, n1, c1, B1, m1, d1, rfl, hN1, hD1⟩ := hp23
  refine zM rfl hst rfl ?_
  refine zE rfl hst rfl rfl ?_
  refine zE rfl hst rfl rfl ?_
  refine zE rfl hst rfl rfl ?_
  refine zA rfl hst rfl ?_
  refine zA rfl hst rfl ?_
  refine zA rfl hst rfl ?_
  refine zn4 ?_
  refine stepK_d rfl rfl rfl hst (does_load_ownN 1 rfl (by kernel_rfl) zf31 rfl rfl rfl) ?_
  refine stepK_call rfl rfl rfl rfl rfl hst (Rat_parts hst.agree hb) ?_
  clear hst
  intro v24 g24 w24 hst hle24 hcs24 hp24
  replace ha := ha.mono hle24
  replace hb := hb.mono hle24
  replace hN1 := hN1.mono hle24
  replace hD1 := hD1.mono hle24
  obtain ⟨A2, n2, c2, B2, m2, d2, rfl, hN2, hD2⟩ := hp24
  refine zM rfl hst rfl ?_
  refine zE rfl hst rfl rfl ?_
  refine zE rfl hst rfl rfl ?_
  refine zE rfl hst rfl rfl ?_
  refine zA rfl hst rfl ?_
  refine zA rfl hst rfl ?_
  refine zA rfl hst rfl ?_
  refine znq ?_
  have l1 := hN1.len hfa.1
  have l2 := hD1.len hfa.2
  have l3 := hN2.len hfb.1
  have l4 := hD2.len hfb.2
  refine cp_region ?_
  refine zM rfl hst rfl ?_
  refine zM rfl hst rfl ?_
  refine stepK_call rfl rfl rfl rfl rfl hst (num_product hst.agree hN1 hD2 (by omega) (by omega)) ?_
  clear hst
  intro v25 g25 w25 hst hle25 hcs25 hp25
  replace ha := ha.mono hle25
  replace hb := hb.mono hle25
  replace hN1 := hN1.mono hle25
  replace hD1 := hD1.mono hle25
  replace hN2 := hN2.mono hle25
  replace hD2 := hD2.mono hle25
  obtain ⟨A3, n3, c3, rfl, hU⟩ := hp25
  refine zM rfl hst rfl ?_
  refine zM rfl hst rfl ?_
  refine stepK_call rfl rfl rfl rfl rfl hst (num_product hst.agree hN2 hD1 (by omega) (by omega)) ?_
  clear hst
  intro v26 g26 w26 hst hle26 hcs26 hp26
  replace ha := ha.mono hle26
  replace hb := hb.mono hle26
  replace hN1 := hN1.mono hle26
  replace hD1 := hD1.mono hle26
  replace hN2 := hN2.mono hle26
  replace hD2 := hD2.mono hle26
  replace hU := hU.mono hle26
  obtain ⟨A4, n4, c4, rfl, hV⟩ := hp26
  refine zA rfl hst rfl ?_
  refine zA rfl hst rfl ?_
  refine zn4 ?_
  refine zM rfl hst rfl ?_
  refine zM rfl hst rfl ?_
  refine stepK_call rfl rfl rfl rfl rfl hst (num_product hst.agree hD1 hD2 (by omega) (by omega)) ?_
  clear hst
  intro v27 g27 w27 hst hle27 hcs27 hp27
  replace ha := ha.mono hle27
  replace hb := hb.mono hle27
  replace hN1 := hN1.mono hle27
  replace hD1 := hD1.mono hle27
  replace hN2 := hN2.mono hle27
  replace hD2 := hD2.mono hle27
  replace hU := hU.mono hle27
  replace hV := hV.mono hle27
  obtain ⟨A5, n5, c5, rfl, hW⟩ := hp27
  refine zA rfl hst rfl ?_
  refine znq ?_
  refine cp_seq ?_
  have k1 := lenMul hU hfa.1 hfb.2
  have k2 := lenMul hV hfb.1 hfa.2
  have k3 := lenMul hW hfa.2 hfb.2
  have hWp : 0 < r.den * x.den := Nat.mul_pos (Nat.pos_of_ne_zero r.den_nz) (Nat.pos_of_ne_zero x.den_nz)
  refine cp_region ?_
  refine zM rfl hst rfl ?_
  refine zM rfl hst rfl ?_
  refine stepK_d rfl rfl rfl hst (does_eql_bool rfl (by kernel_rfl) rfl rfl) ?_
  refine znt ?_
  refine cp_cond rfl ?_ ?_
  intro c70
  have hs := eq_of_beq c70
  refine zsr ?_
  refine zM rfl hst rfl ?_
  refine zM rfl hst rfl ?_
  refine zM rfl hst rfl ?_
  refine stepK_call rfl rfl rfl rfl rfl hst (num_sum hst.agree hU hV (by omega) (by omega)) ?_
  clear hst
  intro v28 g28 w28 hst hle28 hcs28 hp28
  replace ha := ha.mono hle28
  replace hb := hb.mono hle28
  replace hN1 := hN1.mono hle28
  replace hD1 := hD1.mono hle28
  replace hN2 := hN2.mono hle28
  replace hD2 := hD2.mono hle28
  replace hU := hU.mono hle28
  replace hV := hV.mono hle28
  replace hW := hW.mono hle28
  obtain ⟨A6, n6, c6, rfl, hS⟩ := hp28
  have k4 := lenAddK hS hfa.1 hfb.2 hfb.1 hfa.2
  refine zM rfl hst rfl ?_
  refine stepK_call rfl rfl rfl rfl rfl hst (num_reduce hst.agree hS hW hWp (by omega) (by omega)) ?_
  clear hst
  intro v29 g29 w29 hst hle29 hcs29 hp29
  replace ha := ha.mono hle29
  replace hb := hb.mono hle29
  replace hN1 := hN1.mono hle29
  replace hD1 := hD1.mono hle29
  replace hN2 := hN2.mono hle29
  replace hD2 := hD2.mono hle29
  replace hU := hU.mono hle29
  replace hV := hV.mono hle29
  replace hW := hW.mono hle29
  replace hS := hS.mono hle29
  obtain ⟨p9, q9, a9, rfl, hr9⟩ := hp29
  refine stepK_store 2 rfl rfl rfl rfl rfl rfl zf31 rfl rfl hst rfl (by first | (simp [uN_length]; omega) | simp) ?_
  clear hst
  intro w30 hst
  simp only [zL, splice, Nat.reduceAdd] at hst
  refine zn5 ?_
  refine ret1c (k := 2) rfl rfl (by kernel_rfl) (by kernel_rfl) rfl hst rfl ?_
  rw [sg_add, sg_abs, hs, sg_abs, rat_add] at hr9
  exact ⟨_, _, _, rfl, hr9⟩
  intro c70
  have hne := ne_of_beq_false c70
  refine cp_skip ?_
  refine cp_then ?_
  refine cp_seq ?_
  refine zsr ?_
  refine zM rfl hst rfl ?_
  refine zM rfl hst rfl ?_
  refine stepK_call rfl rfl rfl rfl rfl hst (num_compare hst.agree hU hV (by omega)) ?_
  clear hst
  intro v31 g31 w31 hst hle31 hcs31 hp31
  replace ha := ha.mono hle31
  replace hb := hb.mono hle31
  replace hN1 := hN1.mono hle31
  replace hD1 := hD1.mono hle31
  replace hN2 := hN2.mono hle31
  replace hD2 := hD2.mono hle31
  replace hU := hU.mono hle31
  replace hV := hV.mono hle31
  replace hW := hW.mono hle31
  obtain rfl := hp31
  refine stepK_d rfl rfl rfl hst (does_geq rfl rfl rfl) ?_
  refine znt ?_
  refine cp_if rfl ?_ ?_
  intro c80
  have hle := cmpN_nonneg.1 c80
  refine zsr ?_
  refine zM rfl hst rfl ?_
  refine zM rfl hst rfl ?_
  refine zM rfl hst rfl ?_
  refine stepK_call rfl rfl rfl rfl rfl hst (num_less hst.agree hU hV (by omega) hle) ?_
  clear hst
  intro v32 g32 w32 hst hle32 hcs32 hp32
  replace ha := ha.mono hle32
  replace hb := hb.mono hle32
  replace hN1 := hN1.mono hle32
  replace hD1 := hD1.mono hle32
  replace hN2 := hN2.mono hle32
  replace hD2 := hD2.mono hle32
  replace hU := hU.mono hle32
  replace hV := hV.mono hle32
  replace hW := hW.mono hle32
  obtain ⟨A6, n6, c6, rfl, hS⟩ := hp32
  have k4 := lenSubK hS hfa.1 hfb.2
  refine zM rfl hst rfl ?_
  refine stepK_call rfl rfl rfl rfl rfl hst (num_reduce hst.agree hS hW hWp (by omega) (by omega)) ?_
  clear hst
  intro v33 g33 w33 hst hle33 hcs33 hp33
  replace ha := ha.mono hle33
  replace hb := hb.mono hle33
  replace hN1 := hN1.mono hle33
  replace hD1 := hD1.mono hle33
  replace hN2 := hN2.mono hle33
  replace hD2 := hD2.mono hle33
  replace hU := hU.mono hle33
  replace hV := hV.mono hle33
  replace hW := hW.mono hle33
  replace hS := hS.mono hle33
  obtain ⟨p9, q9, a9, rfl, hr9⟩ := hp33
  refine stepK_store 2 rfl rfl rfl rfl rfl rfl zf31 rfl rfl hst rfl (by first | (simp [uN_length]; omega) | simp) ?_
  clear hst
  intro w34 hst
  simp only [zL, splice, Nat.reduceAdd] at hst
  refine zn5 ?_
  refine ret1c (k := 2) rfl rfl (by kernel_rfl) (by kernel_rfl) rfl hst rfl ?_
  rw [sg_sub hle hne, sg_abs, sg_abs, rat_add] at hr9
  exact ⟨_, _, _, rfl, hr9⟩
  intro c80
  have hle : r.num.natAbs * x.den ≤ x.num.natAbs * r.den := Nat.le_of_lt (Nat.lt_of_not_le fun h => c80 (cmpN_nonneg.2 h))
  refine zk4 ?_
  refine zM rfl hst rfl ?_
  refine zM rfl hst rfl ?_
  refine zM rfl hst rfl ?_
  refine stepK_call rfl rfl rfl rfl rfl hst (num_less hst.agree hV hU (by omega) hle) ?_
  clear hst
  intro v35 g35 w35 hst hle35 hcs35 hp35
  replace ha := ha.mono hle35
  replace hb := hb.mono hle35
  replace hN1 := hN1.mono hle35
  replace hD1 := hD1.mono hle35
  replace hN2 := hN2.mono hle35
  replace hD2 := hD2.mono hle35
  replace hU := hU.mono hle35
  replace hV := hV.mono hle35
  replace hW := hW.mono hle35
  obtain ⟨A6, n6, c6, rfl, hS⟩ := hp35
  have k4 := lenSubK hS hfb.1 hfa.2
  refine zM rfl hst rfl ?_
  refine stepK_call rfl rfl rfl rfl rfl hst (num_reduce hst.agree hS hW hWp (by omega) (by omega)) ?_
  clear hst
  intro v36 g36 w36 hst hle36 hcs36 hp36
  replace ha := ha.mono hle36
  replace hb := hb.mono hle36
  replace hN1 := hN1.mono hle36
  replace hD1 := hD1.mono hle36
  replace hN2 := hN2.mono hle36
  replace hD2 := hD2.mono hle36
  replace hU := hU.mono hle36
  replace hV := hV.mono hle36
  replace hW := hW.mono hle36
  replace hS := hS.mono hle36
  obtain ⟨p9, q9, a9, rfl, hr9⟩ := hp36
  refine stepK_store 2 rfl rfl rfl rfl rfl rfl zf31 rfl rfl hst rfl (by first | (simp [uN_length]; omega) | simp) ?_
  clear hst
  intro w37 hst
  simp only [zL, splice, Nat.reduceAdd] at hst
  refine znt ?_
  refine cp_ret ?_
  refine ret1c (k := 2) rfl rfl (by kernel_rfl) (by kernel_rfl) rfl hst rfl ?_
  rw [sg_sub hle (Ne.symm hne), sg_abs, sg_abs, Int.add_comm, rat_add] at hr9
  exact ⟨_, _, _, rfl, hr9⟩

set_option maxHeartbeats 1000000 in
theorem Rat_Mul {g : Mem} {w : World} (hag : Agree g w) {p q : Int} {a : Option Addr} {r : Rat} (ha : IsRat g p q a r) {s t : Int} {b : Option Addr} {x : Rat} (hb : IsRat g s t b x) (hfa : Fit r) (hfb : Fit x) :
    CallTo Tryd.prog 26 #[.agg #[.int .i64 p, .int .i64 q, .pointer a], .agg #[.int .i64 s, .int .i64 t, .pointer b]] w (Ret w g fun v g => ∃ p q a, v = .agg #[.int .i64 p, .int .i64 q, .pointer a] ∧ IsRat g p q a (r * x)) := by
  refine CallTo.enter (vs := [.agg #[.int .i64 p, .int .i64 q, .pointer a], .agg #[.int .i64 s, .int .i64 t, .pointer b]]) zf47 (by kernel_rfl) rfl rfl rfl ?_
  have hst := St.init hag
  refine zsr ?_
  refine stepK_box rfl rfl rfl rfl rfl rfl hst ?_
  clear hst
  intro b1 w1 hst
  refine stepK_box rfl rfl rfl rfl rfl rfl hst ?_
  clear hst
  intro b2 w2 hst
  refine stepK_alloc rfl rfl rfl rfl zf29 rfl hst ?_
  clear hst
  intro b3 w3 hst
  refine znq ?_
  refine zsr ?_
  refine stepK_d rfl rfl rfl hst (does_fieldAddr rfl zf36 rfl) ?_
  refine stepK_d rfl rfl rfl hst (does_load_ownL 0 rfl (by kernel_rfl) rfl rfl rfl) ?_
  refine stepK_d rfl rfl rfl hst (does_eql_nilD rfl zf37 rfl rfl) ?_
  refine zM rfl hst rfl ?_
  refine wpK_split (t := 18) rfl ?_ ?_
  intro s18
  refine stepK_guard rfl rfl rfl rfl rfl rfl hst (does_fieldAddr rfl zf36 rfl) ?_
  refine stepK_guard rfl rfl rfl rfl rfl rfl hst (does_load_ownL 1 rfl (by kernel_rfl) rfl rfl rfl) ?_
  refine stepK_guard rfl rfl rfl rfl rfl rfl hst (does_eql_nilD rfl zf37 rfl rfl) ?_
  refine stepK_d rfl rfl rfl hst (does_pick_true rfl rfl rfl) ?_
  refine znt ?_
  refine cp_if rfl ?_ ?_
  intro c22
  refine cp_seq ?_
  obtain rfl : a = none := by assumption
  obtain rfl : b = none := by assumption
  have hla := ha.low
  have hlb := hb.low
  have b1 := hla.1.bound
  have b2 := hlb.1.bound
  have hdr := r.den_nz
  have hdx := x.den_nz
  have hd0 : (r.den : Int) * (x.den : Int) ≠ 0 := Int.mul_ne_zero (by omega) (by omega)
  have m1 := mulb (a := r.num) (b := (x.den : Int)) (by omega) (by omega) (by omega) (by omega)
  have m2 := mulb (a := x.num) (b := (r.den : Int)) (by omega) (by omega) (by omega) (by omega)
  have m3 := mulb (a := (r.den : Int)) (b := (x.den : Int)) (by omega) (by omega) (by omega) (by omega)
  have m4 := mulb (a := r.num) (b := x.num) (by omega) (by omega) (by omega) (by omega)
  refine cp_region ?_
  refine stepK_d rfl rfl rfl hst (does_load_ownN 0 rfl (by kernel_rfl) zf31 rfl rfl rfl) ?_
  refine stepK_call rfl rfl rfl rfl rfl hst (Rat_low hst.agree hla) ?_
  clear hst
  intro v4 g4 w4 hst hle4 hcs4 hp4
  replace ha := ha.mono hle4
  replace hb := hb.mono hle4
  obtain rfl := hp4
  refine zM rfl hst rfl ?_
  refine zE rfl hst rfl rfl ?_
  refine zE rfl hst rfl rfl ?_
  refine zA rfl hst rfl ?_
  refine zA rfl hst rfl ?_
  refine zn4 ?_
  refine stepK_d rfl rfl rfl hst (does_load_ownN 1 rfl (by kernel_rfl) zf31 rfl rfl rfl) ?_
  refine stepK_call rfl rfl rfl rfl rfl hst (Rat_low hst.agree hlb) ?_
  clear hst
  intro v5 g5 w5 hst hle5 hcs5 hp5
  replace ha := ha.mono hle5
  replace hb := hb.mono hle5
  obtain rfl := hp5
  refine zM rfl hst rfl ?_
  refine zE rfl hst rfl rfl ?_
  refine zE rfl hst rfl rfl ?_
  refine zA rfl hst rfl ?_
  refine zA rfl hst rfl ?_
  refine zn4 ?_
  refine zM rfl hst rfl ?_
  refine zM rfl hst rfl ?_
  refine stepK_d rfl rfl rfl hst (Does.int (does_mul rfl rfl rfl) (wrap_i64 (by omega) (by omega))) ?_
  refine zM rfl hst rfl ?_
  refine zM rfl hst rfl ?_
  refine stepK_d rfl rfl rfl hst (Does.int (does_mul rfl rfl rfl) (wrap_i64 (by omega) (by omega))) ?_
  refine stepK_call rfl rfl rfl rfl rfl hst (num_quotient hst.agree (by omega) (by omega) (by omega) (by omega) hd0) ?_
  clear hst
  intro v6 g6 w6 hst hle6 hcs6 hp6
  replace ha := ha.mono hle6
  replace hb := hb.mono hle6
  obtain ⟨p9, q9, a9, rfl, hr9⟩ := hp6
  refine stepK_store 2 rfl rfl rfl rfl rfl rfl zf31 rfl rfl hst rfl (by first | (simp [uN_length]; omega) | simp) ?_
  clear hst
  intro w7 hst
  simp only [zL, splice, Nat.reduceAdd] at hst
  refine zn5 ?_
  refine ret1c (k := 2) rfl rfl (by kernel_rfl) (by kernel_rfl) rfl hst rfl ?_
  rw [divInt_nat, rat_mul] at hr9
  exact ⟨_, _, _, rfl, hr9⟩
  intro c22
  refine zk4 ?_
  refine stepK_d rfl rfl rfl hst (does_load_ownN 0 rfl (by kernel_rfl) zf31 rfl rfl rfl) ?_
  refine stepK_call rfl rfl rfl rfl rfl hst (Rat_parts hst.agree ha) ?_
  clear hst
  intro v8 g8 w8 hst hle8 hcs8 hp8
  replace ha := ha.mono hle8
  replace hb := hb.mono hle8
  obtain ⟨A1, n1, c1, B1, m1, d1, rfl, hN1, hD1⟩ := hp8
  refine zM rfl hst rfl ?_
  refine zE rfl hst rfl rfl ?_
  refine zE rfl hst rfl rfl ?_
  refine zE rfl hst rfl rfl ?_
  refine zA rfl hst rfl ?_
  refine zA rfl hst rfl ?_
  refine zA rfl hst rfl ?_
  refine zn4 ?_
  refine stepK_d rfl rfl rfl hst (does_load_ownN 1 rfl (by kernel_rfl) zf31 rfl rfl rfl) ?_
  refine stepK_call rfl rfl rfl rfl rfl hst (Rat_parts hst.agree hb) ?_
  clear hst
  intro v9 g9 w9 hst hle9 hcs9 hp9
  replace ha := ha.mono hle9
  replace hb := hb.mono hle9
  replace hN1 := hN1.mono hle9
  replace hD1 := hD1.mono hle9
  obtain ⟨A2, n2, c2, B2, m2, d2, rfl, hN2, hD2⟩ := hp9
  refine zM rfl hst rfl ?_
  refine zE rfl hst rfl rfl ?_
  refine zE rfl hst rfl rfl ?_
  refine zE rfl hst rfl rfl ?_
  refine zA rfl hst rfl ?_
  refine zA rfl hst rfl ?_
  refine zA rfl hst rfl ?_
  refine znq ?_
  have l1 := hN1.len hfa.1
  have l2 := hD1.len hfa.2
  have l3 := hN2.len hfb.1
  have l4 := hD2.len hfb.2
  refine cp_region ?_
  refine zM rfl hst rfl ?_
  refine zM rfl hst rfl ?_
  refine stepK_d rfl rfl rfl hst (does_neq_bool rfl (by kernel_rfl) rfl rfl) ?_
  refine zM rfl hst rfl ?_
  refine zM rfl hst rfl ?_
  refine stepK_call rfl rfl rfl rfl rfl hst (num_product hst.agree hN1 hN2 (by omega) (by omega)) ?_
  clear hst
  intro v10 g10 w10 hst hle10 hcs10 hp10
  replace ha := ha.mono hle10
  replace hb := hb.mono hle10
  replace hN1 := hN1.mono hle10
  replace hD1 := hD1.mono hle10
  replace hN2 := hN2.mono hle10
  replace hD2 := hD2.mono hle10
  obtain ⟨A3, n3, c3, rfl, hU⟩ := hp10
  refine zM rfl hst rfl ?_
  refine zM rfl hst rfl ?_
  refine stepK_call rfl rfl rfl rfl rfl hst (num_product hst.agree hD1 hD2 (by omega) (by omega)) ?_
  clear hst
  intro v11 g11 w11 hst hle11 hcs11 hp11
  replace ha := ha.mono hle11
  replace hb := hb.mono hle11
  replace hN1 := hN1.mono hle11
  replace hD1 := hD1.mono hle11
  replace hN2 := hN2.mono hle11
  replace hD2 := hD2.mono hle11
  replace hU := hU.mono hle11
  obtain ⟨A5, n5, c5, rfl, hW⟩ := hp11
  have k1 := lenMul hU hfa.1 hfb.1
  have k3 := lenMul hW hfa.2 hfb.2
  have hWp : 0 < r.den * x.den := Nat.mul_pos (Nat.pos_of_ne_zero r.den_nz) (Nat.pos_of_ne_zero x.den_nz)
  refine stepK_call rfl rfl rfl rfl rfl hst (num_reduce hst.agree hU hW hWp (by omega) (by omega)) ?_
  clear hst
  intro v12 g12 w12 hst hle12 hcs12 hp12
  replace ha := ha.mono hle12
  replace hb := hb.mono hle12
  replace hN1 := hN1.mono hle12
  replace hD1 := hD1.mono hle12
  replace hN2 := hN2.mono hle12
  replace hD2 := hD2.mono hle12
  replace hU := hU.mono hle12
  replace hW := hW.mono hle12
  obtain ⟨p9, q9, a9, rfl, hr9⟩ := hp12
  refine stepK_store 2 rfl rfl rfl rfl rfl rfl zf31 rfl rfl hst rfl (by first | (simp [uN_length]; omega) | simp) ?_
  clear hst
  intro w13 hst
  simp only [zL, splice, Nat.reduceAdd] at hst
  refine znt ?_
  refine cp_ret ?_
  refine ret1c (k := 2) rfl rfl (by kernel_rfl) (by kernel_rfl) rfl hst rfl ?_
  rw [show (!(decide (r.num < 0) == decide (x.num < 0))) = (decide (r.num < 0) != decide (x.num < 0)) from rfl, sg_mul, sg_num, sg_num, rat_mul] at hr9
  exact ⟨_, _, _, rfl, hr9⟩
  intro s18
  refine stepK_pass rfl rfl rfl rfl rfl rfl rfl ?_
  refine stepK_pass rfl rfl rfl rfl rfl rfl rfl ?_
  refine stepK_pass rfl rfl rfl rfl rfl rfl rfl ?_
  refine stepK_d rfl rfl rfl hst (does_pick_false rfl rfl rfl) ?_
  refine znt ?_
  refine cp_cond_false rfl ?_
  refine zk4 ?_
  refine stepK_d rfl rfl rfl hst (does_load_ownN 0 rfl (by kernel_rfl) zf31 rfl rfl rfl) ?_
  refine stepK_call rfl rfl rfl rfl rfl hst (Rat_parts hst.agree ha) ?_
  clear hst
  intro v14 g14 w14 hst hle14 hcs14 hp14
  replace ha := ha.mono hle14
  replace hb := hb.mono hle14
  obtain ⟨A1, n1, c1, B1, m1, d1, rfl, hN1, hD1⟩ := hp14
  refine zM rfl hst rfl ?_
  refine zE rfl hst rfl rfl ?_
  refine zE rfl hst rfl rfl ?_
  refine zE rfl hst rfl rfl ?_
  refine zA rfl hst rfl ?_
  refine zA rfl hst rfl ?_
  refine zA rfl hst rfl ?_
  refine zn4 ?_
  refine stepK_d rfl rfl rfl hst (does_load_ownN 1 rfl (by kernel_rfl) zf31 rfl rfl rfl) ?_
  refine stepK_call rfl rfl rfl rfl rfl hst (Rat_parts hst.agree hb) ?_
  clear hst
  intro v15 g15 w15 hst hle15 hcs15 hp15
  replace ha := ha.mono hle15
  replace hb := hb.mono hle15
  replace hN1 := hN1.mono hle15
  replace hD1 := hD1.mono hle15
  obtain ⟨A2, n2, c2, B2, m2, d2, rfl, hN2, hD2⟩ := hp15
  refine zM rfl hst rfl ?_
  refine zE rfl hst rfl rfl ?_
  refine zE rfl hst rfl rfl ?_
  refine zE rfl hst rfl rfl ?_
  refine zA rfl hst rfl ?_
  refine zA rfl hst rfl ?_
  refine zA rfl hst rfl ?_
  refine znq ?_
  have l1 := hN1.len hfa.1
  have l2 := hD1.len hfa.2
  have l3 := hN2.len hfb.1
  have l4 := hD2.len hfb.2
  refine cp_region ?_
  refine zM rfl hst rfl ?_
  refine zM rfl hst rfl ?_
  refine stepK_d rfl rfl rfl hst (does_neq_bool rfl (by kernel_rfl) rfl rfl) ?_
  refine zM rfl hst rfl ?_
  refine zM rfl hst rfl ?_
  refine stepK_call rfl rfl rfl rfl rfl hst (num_product hst.agree hN1 hN2 (by omega) (by omega)) ?_
  clear hst
  intro v16 g16 w16 hst hle16 hcs16 hp16
  replace ha := ha.mono hle16
  replace hb := hb.mono hle16
  replace hN1 := hN1.mono hle16
  replace hD1 := hD1.mono hle16
  replace hN2 := hN2.mono hle16
  replace hD2 := hD2.mono hle16
  obtain ⟨A3, n3, c3, rfl, hU⟩ := hp16
  refine zM rfl hst rfl ?_
  refine zM rfl hst rfl ?_
  refine stepK_call rfl rfl rfl rfl rfl hst (num_product hst.agree hD1 hD2 (by omega) (by omega)) ?_
  clear hst
  intro v17 g17 w17 hst hle17 hcs17 hp17
  replace ha := ha.mono hle17
  replace hb := hb.mono hle17
  replace hN1 := hN1.mono hle17
  replace hD1 := hD1.mono hle17
  replace hN2 := hN2.mono hle17
  replace hD2 := hD2.mono hle17
  replace hU := hU.mono hle17
  obtain ⟨A5, n5, c5, rfl, hW⟩ := hp17
  have k1 := lenMul hU hfa.1 hfb.1
  have k3 := lenMul hW hfa.2 hfb.2
  have hWp : 0 < r.den * x.den := Nat.mul_pos (Nat.pos_of_ne_zero r.den_nz) (Nat.pos_of_ne_zero x.den_nz)
  refine stepK_call rfl rfl rfl rfl rfl hst (num_reduce hst.agree hU hW hWp (by omega) (by omega)) ?_
  clear hst
  intro v18 g18 w18 hst hle18 hcs18 hp18
  replace ha := ha.mono hle18
  replace hb := hb.mono hle18
  replace hN1 := hN1.mono hle18
  replace hD1 := hD1.mono hle18
  replace hN2 := hN2.mono hle18
  replace hD2 := hD2.mono hle18
  replace hU := hU.mono hle18
  replace hW := hW.mono hle18
  obtain ⟨p9, q9, a9, rfl, hr9⟩ := hp18
  refine stepK_store 2 rfl rfl rfl rfl rfl rfl zf31 rfl rfl hst rfl (by first | (simp [uN_length]; omega) | simp) ?_
  clear hst
  intro w19 hst
  simp only [zL, splice, Nat.reduceAdd] at hst
  refine znt ?_
  refine cp_ret ?_
  refine ret1c (k := 2) rfl rfl (by kernel_rfl) (by kernel_rfl) rfl hst rfl ?_
  rw [show (!(decide (r.num < 0) == decide (x.num < 0))) = (decide (r.num < 0) != decide (x.num < 0)) from rfl, sg_mul, sg_num, sg_num, rat_mul] at hr9
  exact ⟨_, _, _, rfl, hr9⟩

end Go.Proofs.YtcjhnkmoloiepaaDoor

namespace Go.Proofs.YtcjhnkmoloiepaaDoor
open Go Go.RowKit Go.Proofs.Vc
set_option linter.unusedVariables false
set_option linter.unusedSimpArgs false

set_option maxHeartbeats 1000000 in
theorem Rat_Quo {g : Mem} {w : World} (hag : Agree g w) {p q : Int} {a : Option Addr} {r : Rat} (ha : IsRat g p q a r) {s t : Int} {b : Option Addr} {x : Rat} (hb : IsRat g s t b x) (hfa : Fit r) (hfb : Fit x) :
    CallTo Tryd.prog 39 #[.agg #[.int .i64 p, .int .i64 q, .pointer a], .agg #[.int .i64 s, .int .i64 t, .pointer b]] w (Ret w g fun v g => ∃ p q a, v = .agg #[.int .i64 p, .int .i64 q, .pointer a] ∧ IsRat g p q a (r / x)) := by
  refine CallTo.enter (vs := [.agg #[.int .i64 p, .int .i64 q, .pointer a], .agg #[.int .i64 s, .int .i64 t, .pointer b]]) zf48 (by kernel_rfl) rfl rfl rfl ?_
  have hst := St.init hag
  refine zsr ?_
  refine stepK_box rfl rfl rfl rfl rfl rfl hst ?_
  clear hst
  intro b1 w1 hst
  refine stepK_box rfl rfl rfl rfl rfl rfl hst ?_
  clear hst
  intro b2 w2 hst
  refine stepK_alloc rfl rfl rfl rfl zf29 rfl hst ?_
  clear hst
  intro b3 w3 hst
  refine znq ?_
  refine zsr ?_
  refine stepK_d rfl rfl rfl hst (does_load_ownN 1 rfl (by kernel_rfl) zf31 rfl rfl rfl) ?_
  refine stepK_call rfl rfl rfl rfl rfl hst (Rat_Zero hst.agree hb) ?_
  clear hst
  intro v4 g4 w4 hst hle4 hcs4 hp4
  replace ha := ha.mono hle4
  replace hb := hb.mono hle4
  obtain rfl := hp4
  refine znt ?_
  refine cp_if rfl ?_ ?_
  intro c6
  refine zsr ?_
  refine stepK_d rfl rfl rfl hst (does_build rfl zf30 rfl rfl) ?_
  refine stepK_store 2 rfl rfl rfl rfl rfl rfl zf31 rfl rfl hst rfl (by first | (simp [uN_length]; omega) | simp) ?_
  clear hst
  intro w5 hst
  simp only [zL, splice, Nat.reduceAdd] at hst
  refine zn5 ?_
  refine ret1c (k := 2) rfl rfl (by kernel_rfl) (by kernel_rfl) rfl hst rfl ?_
  subst c6
  rw [Rat.div_def, Rat.inv_zero, Rat.mul_zero]
  exact ⟨_, _, _, rfl, IsRat.zero _⟩
  intro c6
  refine cp_skip ?_
  refine cp_then ?_
  refine cp_seq ?_
  refine cp_drawn (by kernel_rfl) 4 [(0, true), (1, true), (2, false), (3, false)] _ rfl (by kernel_rfl) (by kernel_rfl) (by kernel_rfl) (fun _ _ _ _ _ h => h) _ (hst.drew) ?_
  have hst0 := hst.drew
  clear hst
  have hst := hst0
  refine stepD_d rfl rfl rfl rfl (does_load_ownN 0 rfl (by kernel_rfl) zf31 rfl rfl rfl) ?_
  refine stepD_d rfl rfl rfl rfl (does_load_ownN 1 rfl (by kernel_rfl) zf31 rfl rfl rfl) ?_
  refine stepD_call rfl rfl rfl rfl rfl rfl hst (Rat_Inv hst.agree hb) (fun _ _ h hle => St.older h hle (by simp) hst0.ext hst0.le) ?_
  clear hst
  intro v6 g6 w6 hst hle6 hcs6 hp6
  have hlesum := hle6
  replace ha := ha.mono hle6
  replace hb := hb.mono hle6
  obtain ⟨p8, q8, a8, rfl, h8⟩ := hp6
  refine stepD_call rfl rfl rfl rfl rfl rfl hst (Rat_Mul hst.agree ha h8 hfa hfb.inv) (fun _ _ h hle => St.older h (Mem.le.trans hlesum hle) (by simp) hst0.ext hst0.le) ?_
  clear hst
  intro v7 g7 w7 hst hle7 hcs7 hp7
  replace hlesum := Mem.le.trans hlesum hle7
  replace ha := ha.mono hle7
  replace hb := hb.mono hle7
  replace h8 := h8.mono hle7
  obtain ⟨p9, q9, a9, rfl, hr9⟩ := hp7
  refine stepD_tail ?_
  refine stepK_store 2 rfl rfl rfl rfl rfl rfl zf31 rfl rfl hst rfl (by first | (simp [uN_length]; omega) | simp) ?_
  clear hst
  intro w8 hst
  simp only [zL, splice, Nat.reduceAdd] at hst
  refine znt ?_
  refine cp_ret ?_
  refine ret1c (k := 2) rfl rfl (by kernel_rfl) (by kernel_rfl) rfl hst rfl ?_
  rw [Rat.div_def]
  exact ⟨_, _, _, rfl, hr9⟩

set_option maxHeartbeats 1000000 in
theorem Rat_Sub {g : Mem} {w : World} (hag : Agree g w) {p q : Int} {a : Option Addr} {r : Rat} (ha : IsRat g p q a r) {s t : Int} {b : Option Addr} {x : Rat} (hb : IsRat g s t b x) (hfa : Fit r) (hfb : Fit x) :
    CallTo Tryd.prog 41 #[.agg #[.int .i64 p, .int .i64 q, .pointer a], .agg #[.int .i64 s, .int .i64 t, .pointer b]] w (Ret w g fun v g => ∃ p q a, v = .agg #[.int .i64 p, .int .i64 q, .pointer a] ∧ IsRat g p q a (r - x)) := by
  refine CallTo.enter (vs := [.agg #[.int .i64 p, .int .i64 q, .pointer a], .agg #[.int .i64 s, .int .i64 t, .pointer b]]) zf49 (by kernel_rfl) rfl rfl rfl ?_
  have hst := St.init hag
  refine zsr ?_
  refine stepK_box rfl rfl rfl rfl rfl rfl hst ?_
  clear hst
  intro b1 w1 hst
  refine stepK_box rfl rfl rfl rfl rfl rfl hst ?_
  clear hst
  intro b2 w2 hst
  refine stepK_alloc rfl rfl rfl rfl zf29 rfl hst ?_
  clear hst
  intro b3 w3 hst
  refine znq ?_
  refine cp_drawn (by kernel_rfl) 4 [(0, true), (1, true), (2, false), (3, false)] _ rfl (by kernel_rfl) (by kernel_rfl) (by kernel_rfl) (fun _ _ _ _ _ h => h) _ (hst.drew) ?_
  have hst0 := hst.drew
  clear hst
  have hst := hst0
  refine stepD_d rfl rfl rfl rfl (does_load_ownN 0 rfl (by kernel_rfl) zf31 rfl rfl rfl) ?_
  refine stepD_d rfl rfl rfl rfl (does_load_ownN 1 rfl (by kernel_rfl) zf31 rfl rfl rfl) ?_
  refine stepD_call rfl rfl rfl rfl rfl rfl hst (Rat_Neg hst.agree hb) (fun _ _ h hle => St.older h hle (by simp) hst0.ext hst0.le) ?_
  clear hst
  intro v4 g4 w4 hst hle4 hcs4 hp4
  have hlesum := hle4
  replace ha := ha.mono hle4
  replace hb := hb.mono hle4
  obtain ⟨p8, q8, a8, rfl, h8⟩ := hp4
  refine stepD_call rfl rfl rfl rfl rfl rfl hst (Rat_Add hst.agree ha h8 hfa hfb.neg) (fun _ _ h hle => St.older h (Mem.le.trans hlesum hle) (by simp) hst0.ext hst0.le) ?_
  clear hst
  intro v5 g5 w5 hst hle5 hcs5 hp5
  replace hlesum := Mem.le.trans hlesum hle5
  replace ha := ha.mono hle5
  replace hb := hb.mono hle5
  replace h8 := h8.mono hle5
  obtain ⟨p9, q9, a9, rfl, hr9⟩ := hp5
  refine stepD_tail ?_
  refine stepK_store 2 rfl rfl rfl rfl rfl rfl zf31 rfl rfl hst rfl (by first | (simp [uN_length]; omega) | simp) ?_
  clear hst
  intro w6 hst
  simp only [zL, splice, Nat.reduceAdd] at hst
  refine znt ?_
  refine cp_ret ?_
  refine ret1c (k := 2) rfl rfl (by kernel_rfl) (by kernel_rfl) rfl hst rfl ?_
  rw [Rat.sub_eq_add_neg]
  exact ⟨_, _, _, rfl, hr9⟩

set_option maxHeartbeats 1000000 in
theorem Rat_Cmp {g : Mem} {w : World} (hag : Agree g w) {p q : Int} {a : Option Addr} {r : Rat} (ha : IsRat g p q a r) {s t : Int} {b : Option Addr} {x : Rat} (hb : IsRat g s t b x) (hfa : Fit r) (hfb : Fit x) :
    CallTo Tryd.prog 29 #[.agg #[.int .i64 p, .int .i64 q, .pointer a], .agg #[.int .i64 s, .int .i64 t, .pointer b]] w (Ret w g fun v g => v = .int .i64 (r - x).num.sign) := by
  refine CallTo.enter (vs := [.agg #[.int .i64 p, .int .i64 q, .pointer a], .agg #[.int .i64 s, .int .i64 t, .pointer b]]) zf50 (by kernel_rfl) rfl rfl rfl ?_
  have hst := St.init hag
  refine zsr ?_
  refine stepK_box rfl rfl rfl rfl rfl rfl hst ?_
  clear hst
  intro b1 w1 hst
  refine stepK_box rfl rfl rfl rfl rfl rfl hst ?_
  clear hst
  intro b2 w2 hst
  refine zA rfl hst rfl ?_
  refine zn4 ?_
  refine stepK_d rfl rfl rfl hst (does_load_ownN 0 rfl (by kernel_rfl) zf31 rfl rfl rfl) ?_
  refine stepK_d rfl rfl rfl hst (does_load_ownN 1 rfl (by kernel_rfl) zf31 rfl rfl rfl) ?_
  refine stepK_call rfl rfl rfl rfl rfl hst (Rat_Sub hst.agree ha hb hfa hfb) ?_
  clear hst
  intro v3 g3 w3 hst hle3 hcs3 hp3
  replace ha := ha.mono hle3
  replace hb := hb.mono hle3
  obtain ⟨p8, q8, a8, rfl, h8⟩ := hp3
  refine stepK_call rfl rfl rfl rfl rfl hst (Rat_Sign hst.agree h8) ?_
  clear hst
  intro v4 g4 w4 hst hle4 hcs4 hp4
  replace ha := ha.mono hle4
  replace hb := hb.mono hle4
  replace h8 := h8.mono hle4
  obtain rfl := hp4
  refine zA rfl hst rfl ?_
  refine znt ?_
  refine cp_ret ?_
  refine ret1 rfl rfl hst ?_
  rfl

set_option maxHeartbeats 1000000 in
theorem Rat_Floor {g : Mem} {w : World} (hag : Agree g w) {p q : Int} {a : Option Addr} {r : Rat} (ha : IsRat g p q a r) (hfa : Fit r) :
    CallTo Tryd.prog 40 #[.agg #[.int .i64 p, .int .i64 q, .pointer a]] w (Ret w g fun v g => ∃ p q a, v = .agg #[.int .i64 p, .int .i64 q, .pointer a] ∧ IsRat g p q a ((r.floor : Rat))) := by
  refine CallTo.enter (vs := [.agg #[.int .i64 p, .int .i64 q, .pointer a]]) zf51 (by kernel_rfl) rfl rfl rfl ?_
  have hst := St.init hag
  refine zsr ?_
  refine stepK_box rfl rfl rfl rfl rfl rfl hst ?_
  clear hst
  intro bx w1 hst
  refine stepK_alloc rfl rfl rfl rfl zf29 rfl hst ?_
  clear hst
  intro r0 w2 hst
  refine zn4 ?_
  refine stepK_d rfl rfl rfl hst (does_load_ownN 0 rfl (by kernel_rfl) zf31 rfl rfl rfl) ?_
  refine stepK_call rfl rfl rfl rfl rfl hst (Rat_parts hst.agree ha) ?_
  clear hst
  intro v3 g3 w3 hst hle3 hcs3 hp3
  replace ha := ha.mono hle3
  obtain ⟨A1, n1, c1, B1, m1, d1, rfl, hN1, hD1⟩ := hp3
  refine zM rfl hst rfl ?_
  refine zE rfl hst rfl rfl ?_
  refine zE rfl hst rfl rfl ?_
  refine zE rfl hst rfl rfl ?_
  refine zA rfl hst rfl ?_
  refine zA rfl hst rfl ?_
  refine zA rfl hst rfl ?_
  refine znq ?_
  have l1 := hN1.len hfa.1
  have l2 := hD1.len hfa.2
  have hD0 : 0 < r.den := Nat.pos_of_ne_zero r.den_nz
  generalize hng : decide (r.num < 0) = ng
  refine cp_region ?_
  refine zM rfl hst rfl ?_
  refine zM rfl hst rfl ?_
  refine stepK_call rfl rfl rfl rfl rfl hst (num_divide hst.agree hN1 hD1 hD0 (by omega) (by omega)) ?_
  clear hst
  intro v4 g4 w4 hst hle4 hcs4 hp4
  replace ha := ha.mono hle4
  replace hN1 := hN1.mono hle4
  replace hD1 := hD1.mono hle4
  obtain ⟨A2, n2, c2, B2, m2, d2, rfl, hQ, hR⟩ := hp4
  have l3 := hQ.len (Nat.lt_of_le_of_lt (Nat.div_le_self _ _) hfa.1)
  have hRz := hR.zero_iff
  refine zM rfl hst rfl ?_
  refine zE rfl hst rfl rfl ?_
  refine zE rfl hst rfl rfl ?_
  refine zA rfl hst rfl ?_
  refine zA rfl hst rfl ?_
  refine znt ?_
  refine cp_join (ι := Option Addr × Nat × Nat × Nat) (fun (A3, n3, c3, Q) => [(2, .pointer (some ⟨r0, 0, none⟩)), (3, .bool ng), (6, .slice A3 n3 c3)]) (fun (A3, n3, c3, Q) w2 => ∃ g2, St w [] g g2 [(bx, .cells #[.int .i64 p, .int .i64 q, .pointer a] 46 (0, 0)), (r0, .cells #[.int .i64 0, .int .i64 0, .pointer none] 46 (0, 0))] w2 ∧ IsNat g2 A3 n3 Q ∧ sg ng Q = r.floor) ?c5 ?d5
  case c5 =>
    refine zsr ?_
    refine zM rfl hst rfl ?_
    refine zM rfl hst rfl ?_
    refine wpK_splitb (t := 21) rfl ?_ ?_
    intro s21
    refine stepK_guard rfl rfl rfl rfl rfl rfl hst (does_move rfl rfl) ?_
    refine stepK_guard rfl rfl rfl rfl rfl rfl hst (does_len_slice rfl zf1 rfl) ?_
    refine stepK_guard rfl rfl rfl rfl rfl rfl hst (does_gtr rfl rfl rfl) ?_
    refine stepK_d rfl rfl rfl hst (does_pick_true rfl rfl rfl) ?_
    refine znt ?_
    refine cp_if rfl ?_ ?_
    intro c25
    refine cp_region ?_
    refine zM rfl hst rfl ?_
    refine stepK_buildSlice rfl rfl rfl rfl zf1 zf2 rfl rfl (by decide) (by decide) (by decide) rfl rfl hst ?_
    clear hst
    intro b6 w6 hst
    obtain ⟨g6, hst, hle6, h1⟩ := hst.lit (x := 1) (by decide) (by decide)
    replace ha := ha.mono hle6
    replace hN1 := hN1.mono hle6
    replace hD1 := hD1.mono hle6
    replace hQ := hQ.mono hle6
    replace hR := hR.mono hle6
    refine stepK_call rfl rfl rfl rfl rfl hst (num_sum hst.agree hQ h1 (by omega) (by omega)) ?_
    clear hst
    intro v7 g7 w7 hst hle7 hcs7 hp7
    replace ha := ha.mono hle7
    replace hN1 := hN1.mono hle7
    replace hD1 := hD1.mono hle7
    replace hQ := hQ.mono hle7
    replace hR := hR.mono hle7
    replace h1 := h1.mono hle7
    obtain ⟨A4, n4, c4, rfl, hQ4⟩ := hp7
    refine zA rfl hst rfl ?_
    refine wpK_nil ?_
    have hlt : r.num < 0 := by simpa using hng.trans s21
    refine join_end ((A4, n4, c4, r.num.natAbs / r.den + 1)) ?_ ?_
    exact ⟨rfl, rfl, rfl, trivial⟩
    rw [s21]
    exact ⟨_, hst, hQ4, floor_neg hlt (by rw [if_neg (fun e => by have := hRz.2 e; omega)])⟩
    intro c25
    refine cp_skip ?_
    have hlt : r.num < 0 := by simpa using hng.trans s21
    refine join_end ((A2, n2, c2, r.num.natAbs / r.den)) ?_ ?_
    exact ⟨rfl, rfl, rfl, trivial⟩
    rw [s21]
    exact ⟨_, hst, hQ, floor_neg hlt (by rw [if_pos (hRz.1 (by omega))])⟩
    intro s21
    refine stepK_pass rfl rfl rfl rfl rfl rfl rfl ?_
    refine stepK_pass rfl rfl rfl rfl rfl rfl rfl ?_
    refine stepK_pass rfl rfl rfl rfl rfl rfl rfl ?_
    refine stepK_d rfl rfl rfl hst (does_pick_false rfl rfl rfl) ?_
    refine znt ?_
    refine cp_cond_false rfl ?_
    refine cp_skip ?_
    have hlt : ¬ r.num < 0 := by simpa using hng.trans s21
    refine join_end ((A2, n2, c2, r.num.natAbs / r.den)) ?_ ?_
    exact ⟨rfl, rfl, rfl, trivial⟩
    rw [s21]
    exact ⟨_, hst, hQ, floor_pos hlt rfl⟩
  case d5 =>
    clear hst
    rintro ⟨A3, n3, c3, Q⟩ w2 ⟨g2, hst, hQ3, hfl⟩
    refine zsr ?_
    refine zM rfl hst rfl ?_
    refine zM rfl hst rfl ?_
    refine stepK_buildSlice rfl rfl rfl rfl zf1 zf2 rfl rfl (by decide) (by decide) (by decide) rfl rfl hst ?_
    clear hst
    intro b8 w8 hst
    obtain ⟨g8, hst, hle8, h1⟩ := hst.lit (x := 1) (by decide) (by decide)
    replace hQ3 := hQ3.mono hle8
    refine stepK_call rfl rfl rfl rfl rfl hst (num_lowest hst.agree hQ3 h1 (by decide) (Nat.gcd_one_right _)) ?_
    clear hst
    intro v9 g9 w9 hst hle9 hcs9 hp9
    replace hQ3 := hQ3.mono hle9
    replace h1 := h1.mono hle9
    obtain ⟨p9, q9, a9, rfl, hr9⟩ := hp9
    refine stepK_store 1 rfl rfl rfl rfl rfl rfl zf31 rfl rfl hst rfl (by first | (simp [uN_length]; omega) | simp) ?_
    clear hst
    intro w10 hst
    simp only [zL, splice, Nat.reduceAdd] at hst
    refine znt ?_
    refine cp_ret ?_
    refine ret1c (k := 1) rfl rfl (by kernel_rfl) (by kernel_rfl) rfl hst rfl ?_
    rw [mkRat_one, hfl] at hr9
    exact ⟨_, _, _, rfl, hr9⟩

set_option maxHeartbeats 1000000 in
theorem num_Int {g : Mem} {w : World} (hag : Agree g w) {n : Int} (h1 : -9223372036854775808 ≤ n) (h2 : n ≤ 9223372036854775807) :
    CallTo Tryd.prog 20 #[.int .i64 n] w (Ret w g fun v g => ∃ p q a, v = .agg #[.int .i64 p, .int .i64 q, .pointer a] ∧ IsRat g p q a ((n : Rat))) := by
  refine CallTo.enter (vs := [.int .i64 n]) zf52 (by kernel_rfl) rfl rfl rfl ?_
  have hst := St.init hag
  refine zsr ?_
  refine stepK_alloc rfl rfl rfl rfl zf29 rfl hst ?_
  clear hst
  intro b1 w1 hst
  refine znq ?_
  refine zsr ?_
  refine zM rfl hst rfl ?_
  refine stepK_d rfl rfl rfl hst (does_gtr rfl rfl rfl) ?_
  refine zM rfl hst rfl ?_
  refine wpK_split (t := 5) rfl ?_ ?_
  intro s5
  refine stepK_guard rfl rfl rfl rfl rfl rfl hst (does_move rfl rfl) ?_
  refine stepK_guard rfl rfl rfl rfl rfl rfl hst (does_lss rfl rfl rfl) ?_
  refine stepK_d rfl rfl rfl hst (does_pick_true rfl rfl rfl) ?_
  refine znt ?_
  refine cp_if rfl ?_ ?_
  intro c8
  refine zsr ?_
  refine zM rfl hst rfl ?_
  refine stepK_d rfl rfl rfl hst (does_build rfl zf30 rfl rfl) ?_
  refine stepK_store 0 rfl rfl rfl rfl rfl rfl zf31 rfl rfl hst rfl (by first | (simp [uN_length]; omega) | simp) ?_
  clear hst
  intro w2 hst
  simp only [zL, splice, Nat.reduceAdd] at hst
  refine zn5 ?_
  refine ret1c (k := 0) rfl rfl (by kernel_rfl) (by kernel_rfl) rfl hst rfl ?_
  exact ⟨_, _, _, rfl, .of_low (LowR.int (by omega) (by omega))⟩
  intro c8
  refine zk4 ?_
  refine zM rfl hst rfl ?_
  refine stepK_d rfl rfl rfl hst (does_lss rfl rfl rfl) ?_
  refine zM rfl hst rfl ?_
  refine stepK_call rfl rfl rfl rfl rfl hst (num_magnitude hst.agree h1 h2) ?_
  clear hst
  intro v3 g3 w3 hst hle3 hcs3 hp3
  obtain rfl := hp3
  refine stepK_call rfl rfl rfl rfl rfl hst (num_word hst.agree (by omega)) ?_
  clear hst
  intro v4 g4 w4 hst hle4 hcs4 hp4
  obtain ⟨A1, n1, c1, rfl, hN⟩ := hp4
  have l1 := hN.len (k := 1) (by rw [Nat.pow_one]; omega)
  refine stepK_buildSlice rfl rfl rfl rfl zf1 zf2 rfl rfl (by decide) (by decide) (by decide) rfl rfl hst ?_
  clear hst
  intro b5 w5 hst
  obtain ⟨g5, hst, hle5, h9⟩ := hst.lit (x := 1) (by decide) (by decide)
  replace hN := hN.mono hle5
  refine stepK_call rfl rfl rfl rfl rfl hst (num_reduce hst.agree hN h9 (by decide) (by omega) (by decide)) ?_
  clear hst
  intro v6 g6 w6 hst hle6 hcs6 hp6
  replace hN := hN.mono hle6
  replace h9 := h9.mono hle6
  obtain ⟨p9, q9, a9, rfl, hr9⟩ := hp6
  refine stepK_store 0 rfl rfl rfl rfl rfl rfl zf31 rfl rfl hst rfl (by first | (simp [uN_length]; omega) | simp) ?_
  clear hst
  intro w7 hst
  simp only [zL, splice, Nat.reduceAdd] at hst
  refine znt ?_
  refine cp_ret ?_
  refine ret1c (k := 0) rfl rfl (by kernel_rfl) (by kernel_rfl) rfl hst rfl ?_
  rw [sg_int, mkRat_one] at hr9
  exact ⟨_, _, _, rfl, hr9⟩
  intro s5
  refine stepK_pass rfl rfl rfl rfl rfl rfl rfl ?_
  refine stepK_pass rfl rfl rfl rfl rfl rfl rfl ?_
  refine stepK_d rfl rfl rfl hst (does_pick_false rfl rfl rfl) ?_
  refine znt ?_
  refine cp_cond_false rfl ?_
  refine zk4 ?_
  refine zM rfl hst rfl ?_
  refine stepK_d rfl rfl rfl hst (does_lss rfl rfl rfl) ?_
  refine zM rfl hst rfl ?_
  refine stepK_call rfl rfl rfl rfl rfl hst (num_magnitude hst.agree h1 h2) ?_
  clear hst
  intro v8 g8 w8 hst hle8 hcs8 hp8
  obtain rfl := hp8
  refine stepK_call rfl rfl rfl rfl rfl hst (num_word hst.agree (by omega)) ?_
  clear hst
  intro v9 g9 w9 hst hle9 hcs9 hp9
  obtain ⟨A1, n1, c1, rfl, hN⟩ := hp9
  have l1 := hN.len (k := 1) (by rw [Nat.pow_one]; omega)
  refine stepK_buildSlice rfl rfl rfl rfl zf1 zf2 rfl rfl (by decide) (by decide) (by decide) rfl rfl hst ?_
  clear hst
  intro b10 w10 hst
  obtain ⟨g10, hst, hle10, h9⟩ := hst.lit (x := 1) (by decide) (by decide)
  replace hN := hN.mono hle10
  refine stepK_call rfl rfl rfl rfl rfl hst (num_reduce hst.agree hN h9 (by decide) (by omega) (by decide)) ?_
  clear hst
  intro v11 g11 w11 hst hle11 hcs11 hp11
  replace hN := hN.mono hle11
  replace h9 := h9.mono hle11
  obtain ⟨p9, q9, a9, rfl, hr9⟩ := hp11
  refine stepK_store 0 rfl rfl rfl rfl rfl rfl zf31 rfl rfl hst rfl (by first | (simp [uN_length]; omega) | simp) ?_
  clear hst
  intro w12 hst
  simp only [zL, splice, Nat.reduceAdd] at hst
  refine znt ?_
  refine cp_ret ?_
  refine ret1c (k := 0) rfl rfl (by kernel_rfl) (by kernel_rfl) rfl hst rfl ?_
  rw [sg_int, mkRat_one] at hr9
  exact ⟨_, _, _, rfl, hr9⟩

end Go.Proofs.YtcjhnkmoloiepaaDoor
