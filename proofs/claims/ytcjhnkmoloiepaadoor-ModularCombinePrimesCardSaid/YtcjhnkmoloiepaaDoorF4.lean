/- A helper of the claim: general lemmas and walks of functions, printed by a program of this session. Conditions: none. -/
import Derived.Test.YtcjhnkmoloiepaaDoorQ1
import Derived.Test.YtcjhnkmoloiepaaDoorProg
import Derived.Test.YtcjhnkmoloiepaaDoorQ0
import Derived.Test.YtcjhnkmoloiepaaDoorQ2
import Derived.Test.YtcjhnkmoloiepaaDoorF0
namespace Go.Proofs.YtcjhnkmoloiepaaDoor
open Go Go.RowKit Go.Proofs.Vc
set_option linter.unusedVariables false
set_option linter.unusedSimpArgs false

set_option maxHeartbeats 1000000 in
theorem num_word {g : Mem} {w : World} (hag : Agree g w) {x : Nat} (hx : x < 18446744073709551616) :
    CallTo Tryd.prog 46 #[.int .u64 (x : Int)] w (Ret w g fun v g => ∃ A n c, v = .slice A n c ∧ IsNat g A n x) := by
  refine CallTo.enter (vs := [.int .u64 (x : Int)]) zf0 (by kernel_rfl) rfl rfl rfl ?_
  have hst := St.init hag
  refine zsr ?_
  refine zA rfl hst rfl ?_
  refine znq ?_
  refine zsr ?_
  refine zM rfl hst rfl ?_
  refine stepK_d rfl rfl rfl hst (does_eql_n (b := 0) rfl rfl rfl) ?_
  refine znt ?_
  refine cp_if rfl ?_ ?_
  intro c4
  refine zsr ?_
  refine zA rfl hst rfl ?_
  refine zn5 ?_
  refine ret1 rfl rfl hst ⟨_, _, _, rfl, ?_⟩
  rw [show x = 0 by omega]
  exact IsNat.nil g
  intro c4
  refine zk4 ?_
  refine zM rfl hst rfl ?_
  refine stepK_buildSlice rfl rfl rfl rfl zf1 zf2 rfl rfl (by decide) (by decide) (by decide) rfl rfl hst ?_
  clear hst
  intro b1 w1 hst
  refine zA rfl hst rfl ?_
  refine znt ?_
  refine cp_ret ?_
  obtain ⟨hst, hle⟩ := hst.publish 0 rfl
  refine ret1 rfl rfl hst ⟨_, _, _, rfl, ?_⟩
  exact ⟨[x], SlN.put_uN (ws := [x]), Words.cons hx Words.nil, by simp [Trimmed]; omega, by simp [val]⟩

set_option maxHeartbeats 1000000 in
theorem num_trim {g : Mem} {w : World} (hag : Agree g w) {A : Option Addr} {n c : Nat} {ws : List Nat} (hs : SlN g .u64 A n ws) (hw : Words ws) (hc : n ≤ c) (hn : n ≤ 281474976710656) :
    CallTo Tryd.prog 66 #[.slice A n c] w (Ret w g fun v g => ∃ A n c, v = .slice A n c ∧ IsNat g A n (val ws)) := by
  refine CallTo.enter (vs := [.slice A n c]) zf3 (by kernel_rfl) rfl rfl rfl ?_
  have hst := St.init hag
  refine zsr ?_
  refine zA rfl hst rfl ?_
  refine znq ?_
  refine cp_block ?_
  refine cp_loop (ι := Nat) (fun m => [(0, .slice A m c)]) (fun m w1 => St w [] g g [] w1 ∧ m ≤ n ∧ val (ws.take m) = val ws) (fun m => m) n ?k1 ?i1 ?r1
  case k1 => exact ⟨rfl, trivial⟩
  case i1 =>
    exact ⟨hst, Nat.le_refl _, by rw [List.take_of_length_le (by rw [hs.1]; omega)]⟩
  case r1 =>
    clear hst
    rintro m w1 ⟨hst, hm, hv⟩
    refine cp_seq ?_
    refine zsr ?_
    refine zM rfl hst rfl ?_
    refine stepK_d rfl rfl rfl hst (does_len_slice rfl zf1 rfl) ?_
    refine stepK_d rfl rfl rfl hst (does_gtr rfl rfl rfl) ?_
    refine zM rfl hst rfl ?_
    refine wpK_split (t := 6) rfl ?_ ?_
    intro s6
    have hl := hs.1
    obtain ⟨b, off, rfl, hb⟩ := hs.some_ (by omega)
    obtain ⟨x, hx⟩ := get_of_lt (ws := ws) (j := m - 1) (by omega)
    refine stepK_guard rfl rfl rfl rfl rfl rfl hst (does_move rfl rfl) ?_
    refine stepK_guard rfl rfl rfl rfl rfl rfl hst (does_move rfl rfl) ?_
    refine stepK_guard rfl rfl rfl rfl rfl rfl hst (does_len_slice rfl zf1 rfl) ?_
    refine stepK_guard rfl rfl rfl rfl rfl rfl hst (Does.int (does_sub rfl rfl rfl) (wrap_i64 (by omega) (by omega))) ?_
    refine stepK_guard rfl rfl rfl rfl rfl rfl hst (does_indexAddr1 (j := (m - 1)) rfl zf1 (by kernel_rfl) rfl rfl (by omega) (by omega)) ?_
    refine stepK_guard rfl rfl rfl rfl rfl rfl hst (does_load_g1 rfl (by kernel_rfl) rfl (hb.at_ _ _ hx)) ?_
    refine stepK_guard rfl rfl rfl rfl rfl rfl hst (does_eql_n (b := 0) rfl rfl rfl) ?_
    refine stepK_d rfl rfl rfl hst (does_pick_true rfl rfl rfl) ?_
    refine znt ?_
    refine cp_if rfl ?_ ?_
    intro c14
    refine cp_skip ?_
    refine cp_then ?_
    refine cp_block ?_
    refine cp_region ?_
    refine zM rfl hst rfl ?_
    refine zM rfl hst rfl ?_
    refine stepK_d rfl rfl rfl hst (does_len_slice rfl zf1 rfl) ?_
    refine stepK_d rfl rfl rfl hst (Does.int (does_sub rfl rfl rfl) (wrap_i64 (by omega) (by omega))) ?_
    refine stepK_d rfl rfl rfl hst (does_slice_to (h := (m - 1)) rfl zf1 zf4 rfl rfl (by omega) (by omega)) ?_
    refine zA rfl hst rfl ?_
    refine wpK_nil ?_
    refine at_block_normal ?_
    subst c14
    refine round_end (m - 1) ?_ ?_ ?_
    exact ⟨rfl, trivial⟩
    exact ⟨hst, by omega, by rw [val_take_zero (by omega) hx, hv]⟩
    omega
    intro c14
    refine cp_exit ?_
    refine at_then_exit ?_
    refine at_then_exit ?_
    refine cp_exit_here ?_
    refine cp_then ?_
    refine zsr ?_
    refine zM rfl hst rfl ?_
    refine zA rfl hst rfl ?_
    refine znt ?_
    refine cp_ret ?_
    refine ret1 rfl rfl hst ⟨_, _, _, rfl, ?_⟩
    rw [← hv]
    exact IsNat.of_take hs hw hm (.inr ⟨x, hx, c14⟩)
    intro s6
    refine stepK_pass rfl rfl rfl rfl rfl rfl rfl ?_
    refine stepK_pass rfl rfl rfl rfl rfl rfl rfl ?_
    refine stepK_pass rfl rfl rfl rfl rfl rfl rfl ?_
    refine stepK_pass rfl rfl rfl rfl rfl rfl rfl ?_
    refine stepK_pass rfl rfl rfl rfl rfl rfl rfl ?_
    refine stepK_pass rfl rfl rfl rfl rfl rfl rfl ?_
    refine stepK_pass rfl rfl rfl rfl rfl rfl rfl ?_
    refine stepK_d rfl rfl rfl hst (does_pick_false rfl rfl rfl) ?_
    refine znt ?_
    refine cp_cond_false rfl ?_
    refine cp_exit ?_
    refine at_then_exit ?_
    refine at_then_exit ?_
    refine cp_exit_here ?_
    refine cp_then ?_
    refine zsr ?_
    refine zM rfl hst rfl ?_
    refine zA rfl hst rfl ?_
    refine znt ?_
    refine cp_ret ?_
    refine ret1 rfl rfl hst ⟨_, _, _, rfl, ?_⟩
    rw [← hv]
    exact IsNat.of_take hs hw hm (.inl (by omega))

set_option maxHeartbeats 1000000 in
theorem num_compare {g : Mem} {w : World} (hag : Agree g w) {A B : Option Addr} {n c m d N M : Nat} (ha : IsNat g A n N) (hb : IsNat g B m M) (hn : n ≤ 9223372036854775807) :
    CallTo Tryd.prog 53 #[.slice A n c, .slice B m d] w (Ret w g fun v g => v = .int .i64 (cmpN N M)) := by
  refine CallTo.enter (vs := [.slice A n c, .slice B m d]) zf5 (by kernel_rfl) rfl rfl rfl ?_
  have hst := St.init hag
  obtain ⟨xs, hxs, hxw, hxt, rfl⟩ := ha
  obtain ⟨ys, hys, hyw, hyt, rfl⟩ := hb
  have hlx := hxs.1
  have hly := hys.1
  refine zsr ?_
  refine zA rfl hst rfl ?_
  refine znq ?_
  refine cp_block ?_
  refine zsr ?_
  refine zM rfl hst rfl ?_
  refine stepK_d rfl rfl rfl hst (does_len_slice rfl zf1 rfl) ?_
  refine zM rfl hst rfl ?_
  refine stepK_d rfl rfl rfl hst (does_len_slice rfl zf1 rfl) ?_
  refine stepK_d rfl rfl rfl hst (does_neq rfl rfl rfl) ?_
  refine zA rfl hst rfl ?_
  refine znt ?_
  refine cp_if rfl ?_ ?_
  intro c6
  refine cp_seq ?_
  refine zsr ?_
  refine zM rfl hst rfl ?_
  refine stepK_d rfl rfl rfl hst (does_len_slice rfl zf1 rfl) ?_
  refine zM rfl hst rfl ?_
  refine stepK_d rfl rfl rfl hst (does_len_slice rfl zf1 rfl) ?_
  refine stepK_d rfl rfl rfl hst (does_lss rfl rfl rfl) ?_
  refine znt ?_
  refine cp_if rfl ?_ ?_
  intro c16
  refine zsr ?_
  refine zA rfl hst rfl ?_
  refine zn5 ?_
  refine at_block_ret ?_
  refine at_then_ret ?_
  refine ret1 rfl rfl hst ?_
  rw [cmpN_lt (trimmed_len_lt hxw hyt (by omega))]
  intro c16
  refine zk4 ?_
  refine zA rfl hst rfl ?_
  refine znt ?_
  refine cp_ret ?_
  refine at_block_ret ?_
  refine at_then_ret ?_
  refine ret1 rfl rfl hst ?_
  rw [cmpN_gt (trimmed_len_lt hyw hxt (by omega))]
  intro c6
  have hnm : n = m := by omega
  refine cp_skip ?_
  refine at_block_normal ?_
  refine cp_then ?_
  refine cp_seq ?_
  refine zsr ?_
  refine zM rfl hst rfl ?_
  refine stepK_d rfl rfl rfl hst (does_len_slice rfl zf1 rfl) ?_
  refine stepK_d rfl rfl rfl hst (Does.int (does_sub rfl rfl rfl) (wrap_i64 (by omega) (by omega))) ?_
  refine zA rfl hst rfl ?_
  refine znt ?_
  refine cp_block ?_
  refine cp_loop (ι := Nat) (fun k => [(0, .slice A n c), (1, .slice B m d), (5, .int .i64 ((k : Int) - 1))]) (fun k w1 => St w [] g g [] w1 ∧ k ≤ n ∧ xs.drop k = ys.drop k) (fun k => k) n ?k1 ?i1 ?r1
  case k1 => exact ⟨rfl, rfl, rfl, trivial⟩
  case i1 =>
    exact ⟨hst, Nat.le_refl _, by rw [List.drop_eq_nil_of_le (by omega), List.drop_eq_nil_of_le (by omega)]⟩
  case r1 =>
    clear hst
    rintro k w1 ⟨hst, hk, hd⟩
    refine cp_seq ?_
    refine zsr ?_
    refine zM rfl hst rfl ?_
    refine stepK_d rfl rfl rfl hst (does_geq rfl rfl rfl) ?_
    refine znt ?_
    refine cp_if rfl ?_ ?_
    intro c21
    refine cp_skip ?_
    refine cp_then ?_
    refine cp_seq ?_
    refine cp_block ?_
    refine cp_seq ?_
    obtain ⟨b1, o1, rfl, hb1⟩ := hxs.some_ (by omega)
    obtain ⟨b2, o2, rfl, hb2⟩ := hys.some_ (by omega)
    obtain ⟨x, hx⟩ := get_of_lt (ws := xs) (j := k - 1) (by omega)
    obtain ⟨y, hy⟩ := get_of_lt (ws := ys) (j := k - 1) (by omega)
    refine cp_drawn (by kernel_rfl) 9 [(0, true), (1, true), (2, true), (3, true), (4, true), (5, true), (6, true), (7, true), (8, true)] _ rfl (by kernel_rfl) (by kernel_rfl) (by kernel_rfl) (fun _ _ _ _ _ h => h) _ (hst.drew) ?_
    have hst0 := hst.drew
    clear hst
    have hst := hst0
    refine stepD_d rfl rfl rfl rfl (does_move rfl rfl) ?_
    refine stepD_d rfl rfl rfl rfl (does_move rfl rfl) ?_
    refine stepD_d rfl rfl rfl rfl (does_indexAddr1 (j := (k - 1)) rfl zf1 (by kernel_rfl) rfl rfl (by omega) (by omega)) ?_
    refine stepD_d rfl rfl rfl rfl (does_load_g1 rfl (by kernel_rfl) rfl (hb1.at_ _ _ hx)) ?_
    refine stepD_d rfl rfl rfl rfl (does_move rfl rfl) ?_
    refine stepD_d rfl rfl rfl rfl (does_move rfl rfl) ?_
    refine stepD_d rfl rfl rfl rfl (does_indexAddr1 (j := (k - 1)) rfl zf1 (by kernel_rfl) rfl rfl (by omega) (by omega)) ?_
    refine stepD_d rfl rfl rfl rfl (does_load_g1 rfl (by kernel_rfl) rfl (hb2.at_ _ _ hy)) ?_
    refine stepD_d rfl rfl rfl rfl (does_neq_n rfl rfl rfl) ?_
    refine stepD_tail ?_
    refine znt ?_
    refine cp_if rfl ?_ ?_
    intro c32
    refine cp_seq ?_
    refine cp_seq ?_
    refine cp_drawn (by kernel_rfl) 9 [(0, true), (1, true), (2, true), (3, true), (4, true), (5, true), (6, true), (7, true), (8, true)] _ rfl (by kernel_rfl) (by kernel_rfl) (by kernel_rfl) (fun _ _ _ _ _ h => h) _ (hst.drew) ?_
    have hst0 := hst.drew
    clear hst
    have hst := hst0
    refine stepD_d rfl rfl rfl rfl (does_move rfl rfl) ?_
    refine stepD_d rfl rfl rfl rfl (does_move rfl rfl) ?_
    refine stepD_d rfl rfl rfl rfl (does_indexAddr1 (j := (k - 1)) rfl zf1 (by kernel_rfl) rfl rfl (by omega) (by omega)) ?_
    refine stepD_d rfl rfl rfl rfl (does_load_g1 rfl (by kernel_rfl) rfl (hb1.at_ _ _ hx)) ?_
    refine stepD_d rfl rfl rfl rfl (does_move rfl rfl) ?_
    refine stepD_d rfl rfl rfl rfl (does_move rfl rfl) ?_
    refine stepD_d rfl rfl rfl rfl (does_indexAddr1 (j := (k - 1)) rfl zf1 (by kernel_rfl) rfl rfl (by omega) (by omega)) ?_
    refine stepD_d rfl rfl rfl rfl (does_load_g1 rfl (by kernel_rfl) rfl (hb2.at_ _ _ hy)) ?_
    refine stepD_d rfl rfl rfl rfl (does_lss_n rfl rfl rfl) ?_
    refine stepD_tail ?_
    refine znt ?_
    refine cp_if rfl ?_ ?_
    intro c41
    refine zsr ?_
    refine zA rfl hst rfl ?_
    refine zn5 ?_
    refine at_block_ret ?_
    refine at_then_ret ?_
    refine at_then_ret ?_
    refine at_block_ret ?_
    refine at_then_ret ?_
    refine ret1 rfl rfl hst ?_
    rw [cmpN_lt (words_lt (by omega) hxw hx hy (by rw [show k - 1 + 1 = k by omega]; exact hd) c41)]
    intro c41
    refine zk4 ?_
    refine zA rfl hst rfl ?_
    refine znt ?_
    refine cp_ret ?_
    refine at_block_ret ?_
    refine at_then_ret ?_
    refine at_then_ret ?_
    refine at_block_ret ?_
    refine at_then_ret ?_
    refine ret1 rfl rfl hst ?_
    rw [cmpN_gt (words_lt (by omega) hyw hy hx (by rw [show k - 1 + 1 = k by omega]; exact hd.symm) (by omega))]
    intro c32
    refine cp_skip ?_
    refine at_block_normal ?_
    refine cp_then ?_
    refine cp_region ?_
    refine zM rfl hst rfl ?_
    refine stepK_d rfl rfl rfl hst (Does.int (does_sub rfl rfl rfl) (wrap_i64 (by omega) (by omega))) ?_
    refine zA rfl hst rfl ?_
    refine wpK_nil ?_
    have hxy : x = y := by omega
    subst hxy
    refine round_end (k - 1) ?_ ?_ ?_
    exact ⟨rfl, rfl, kint (by omega), trivial⟩
    exact ⟨hst, by omega, by rw [drop_cons_get hx, drop_cons_get hy, show k - 1 + 1 = k by omega, hd]⟩
    omega
    intro c21
    refine cp_exit ?_
    refine at_then_exit ?_
    refine at_then_exit ?_
    refine cp_exit_here ?_
    refine cp_then ?_
    refine zsr ?_
    refine zA rfl hst rfl ?_
    refine znt ?_
    refine cp_ret ?_
    refine ret1 rfl rfl hst ?_
    have hk0 : k = 0 := by omega
    subst hk0
    simp only [List.drop_zero] at hd
    rw [hd, cmpN_eq rfl]


theorem bits_Add64 {g : Mem} {w : World} (hag : Agree g w) {x y c : Nat} (hc : c ≤ 1) :
    CallTo Tryd.prog 65 #[.int .u64 (x : Int), .int .u64 (y : Int), .int .u64 (c : Int)] w (Ret w g fun v g' => v = .tuple #[.int .u64 (((x + y + c) % 18446744073709551616 : Nat) : Int), .int .u64 (((x + y + c) / 18446744073709551616 : Nat) : Int)]) :=
  add64_call zf6 (by kernel_rfl) (by kernel_rfl) (by kernel_rfl) (by kernel_rfl) hag x y c hc


theorem bits_Sub64 {g : Mem} {w : World} (hag : Agree g w) {x y c : Nat} (hc : c ≤ 1) :
    CallTo Tryd.prog 67 #[.int .u64 (x : Int), .int .u64 (y : Int), .int .u64 (c : Int)] w (Ret w g fun v g' => v = .tuple #[.int .u64 (((x + 18446744073709551616 - y - c) % 18446744073709551616 : Nat) : Int), .int .u64 ((if x < y + c then 1 else 0 : Nat) : Int)]) :=
  sub64_call zf7 (by kernel_rfl) (by kernel_rfl) (by kernel_rfl) (by kernel_rfl) hag x y c hc

end Go.Proofs.YtcjhnkmoloiepaaDoor

namespace Go.Proofs.YtcjhnkmoloiepaaDoor
open Go Go.RowKit Go.Proofs.Vc
set_option linter.unusedVariables false
set_option linter.unusedSimpArgs false

set_option maxHeartbeats 1000000 in
theorem num_sum {g : Mem} {w : World} (hag : Agree g w) {A B : Option Addr} {n c m d N M : Nat} (ha : IsNat g A n N) (hb : IsNat g B m M) (hn : n ≤ 17592186044415) (hm : m ≤ 17592186044415) :
    CallTo Tryd.prog 52 #[.slice A n c, .slice B m d] w (Ret w g fun v g => ∃ A n c, v = .slice A n c ∧ IsNat g A n (N + M)) := by
  refine CallTo.enter (vs := [.slice A n c, .slice B m d]) zf8 (by kernel_rfl) rfl rfl rfl ?_
  have hst := St.init hag
  obtain ⟨xs0, hxs0, hxw0, hxt0, rfl⟩ := ha
  obtain ⟨ys0, hys0, hyw0, hyt0, rfl⟩ := hb
  refine zsr ?_
  refine zA rfl hst rfl ?_
  refine znt ?_
  refine cp_join (ι := (Option Addr × Nat × Nat × List Nat) × (Option Addr × Nat × Nat × List Nat)) (fun ((A1, n1, c1, xs), (B1, m1, d1, ys)) => [(0, .slice A1 n1 c1), (1, .slice B1 m1 d1)]) (fun ((A1, n1, c1, xs), (B1, m1, d1, ys)) w1 => St w [] g g [] w1 ∧ SlN g .u64 A1 n1 xs ∧ SlN g .u64 B1 m1 ys ∧ Words xs ∧ Words ys ∧ Trimmed xs ∧ m1 ≤ n1 ∧ n1 ≤ 17592186044415 ∧ val xs0 + val ys0 = val xs + val ys) ?c1 ?d1
  case c1 =>
    refine zsr ?_
    refine zM rfl hst rfl ?_
    refine stepK_d rfl rfl rfl hst (does_len_slice rfl zf1 rfl) ?_
    refine zM rfl hst rfl ?_
    refine stepK_d rfl rfl rfl hst (does_len_slice rfl zf1 rfl) ?_
    refine stepK_d rfl rfl rfl hst (does_lss rfl rfl rfl) ?_
    refine znt ?_
    refine cp_if rfl ?_ ?_
    intro c13
    refine cp_region ?_
    refine zM rfl hst rfl ?_
    refine zM rfl hst rfl ?_
    refine zA rfl hst rfl ?_
    refine zA rfl hst rfl ?_
    refine wpK_nil ?_
    refine join_end (((B, m, d, ys0), (A, n, c, xs0))) ?_ ?_
    exact ⟨rfl, rfl, trivial⟩
    exact ⟨hst, hys0, hxs0, hyw0, hxw0, hyt0, by omega, hm, Nat.add_comm _ _⟩
    intro c13
    refine cp_skip ?_
    refine join_end (((A, n, c, xs0), (B, m, d, ys0))) ?_ ?_
    exact ⟨rfl, rfl, trivial⟩
    exact ⟨hst, hxs0, hys0, hxw0, hyw0, hxt0, by omega, hn, rfl⟩
  case d1 =>
    clear hst
    rintro ⟨⟨A1, n1, c1, xs⟩, ⟨B1, m1, d1, ys⟩⟩ w1 ⟨hst, hxs, hys, hxw, hyw, hxt, hmn, hn1, hsum⟩
    have hlx := hxs.1
    have hly := hys.1
    simp only [hsum]
    refine zsr ?_
    refine zM rfl hst rfl ?_
    refine stepK_d rfl rfl rfl hst (does_len_slice rfl zf1 rfl) ?_
    refine zM rfl hst rfl ?_
    refine stepK_d rfl rfl rfl hst (does_len_slice rfl zf1 rfl) ?_
    refine stepK_d rfl rfl rfl hst (Does.int (does_add rfl rfl rfl) (wrap_i64 (by omega) (by omega))) ?_
    refine stepK_make rfl rfl rfl (l := n1) (c := n1 + 1) rfl zf1 zf2 rfl rfl rfl rfl rfl (by omega) (by omega) (by omega) (by omega) hst ?_
    clear hst
    intro bo w2 hst
    rw [uN_rep] at hst
    refine zA rfl hst rfl ?_
    refine zn4 ?_
    refine zA rfl hst rfl ?_
    refine znq ?_
    refine zsr ?_
    refine zM rfl hst rfl ?_
    refine stepK_d rfl rfl rfl hst (does_len_slice rfl zf1 rfl) ?_
    refine zM rfl hst rfl ?_
    refine znt ?_
    refine cp_block ?_
    refine cp_loop (ι := Nat × Nat × List Nat) (fun (i, cy, ws) => [(0, .slice A1 n1 c1), (1, .slice B1 m1 d1), (5, .slice (some ⟨bo, 0, none⟩) n1 (n1 + 1)), (6, .int .u64 (cy : Int)), (23, .int .i64 (n1 : Int)), (24, .int .i64 (i : Int))]) (fun (i, cy, ws) w1 => ∃ g1, St w [] g g1 [(bo, .cells (uN .u64 ws).toArray 51 (0, 0))] w1 ∧ i ≤ n1 ∧ cy ≤ 1 ∧ Words ws ∧ ws.length = n1 + 1 ∧ val (ws.take i) + cy * 18446744073709551616 ^ i = val (xs.take i) + val (ys.take i)) (fun (i, cy, ws) => n1 - i) (0, 0, List.replicate (n1 + 1) 0) ?k3 ?i3 ?r3
    case k3 => exact ⟨rfl, rfl, rfl, rfl, rfl, rfl, trivial⟩
    case i3 =>
      exact ⟨_, hst, Nat.zero_le _, by decide, Words.rep _, by simp, by simp [val]⟩
    case r3 =>
      clear hst
      rintro ⟨i, cy, ws⟩ w1 ⟨g1, hst, hi, hcy, hws, hwl, hv⟩
      refine zsr ?_
      refine stepK_d rfl rfl rfl hst (does_lss rfl rfl rfl) ?_
      refine znq ?_
      refine cp_if rfl ?_ ?_
      intro c25
      refine cp_skip ?_
      refine cp_then ?_
      refine cp_seq ?_
      refine cp_block ?_
      refine zsr ?_
      refine zM rfl hst rfl ?_
      refine zA rfl hst rfl ?_
      refine zn4 ?_
      refine zA rfl hst rfl ?_
      refine znt ?_
      refine cp_join (ι := Nat) (fun y => [(0, .slice A1 n1 c1), (1, .slice B1 m1 d1), (5, .slice (some ⟨bo, 0, none⟩) n1 (n1 + 1)), (6, .int .u64 (cy : Int)), (7, .int .i64 (i : Int)), (8, .int .u64 (y : Int)), (23, .int .i64 (n1 : Int)), (24, .int .i64 (i : Int))]) (fun y w2 => St w [] g g1 [(bo, .cells (uN .u64 ws).toArray 51 (0, 0))] w2 ∧ y < 18446744073709551616 ∧ val (ys.take (i + 1)) = val (ys.take i) + 18446744073709551616 ^ i * y) ?c4 ?d4
      case c4 =>
        refine zsr ?_
        refine zM rfl hst rfl ?_
        refine zM rfl hst rfl ?_
        refine stepK_d rfl rfl rfl hst (does_len_slice rfl zf1 rfl) ?_
        refine stepK_d rfl rfl rfl hst (does_lss rfl rfl rfl) ?_
        refine znt ?_
        refine cp_if rfl ?_ ?_
        intro c30
        refine cp_region ?_
        obtain ⟨b2, o2, rfl, hb2⟩ := hys.some_ (by omega)
        obtain ⟨yv, hyv⟩ := get_of_lt (ws := ys) (j := i) (by omega)
        refine zM rfl hst rfl ?_
        refine zM rfl hst rfl ?_
        refine stepK_d rfl rfl rfl hst (does_indexAddr1 rfl zf1 (by kernel_rfl) rfl rfl rfl (by omega)) ?_
        refine stepK_d rfl rfl rfl hst (does_load_g1 rfl (by kernel_rfl) rfl ((hb2.mono hst.le).at_ _ _ hyv)) ?_
        refine zA rfl hst rfl ?_
        refine wpK_nil ?_
        refine join_end (yv) ?_ ?_
        exact ⟨rfl, rfl, rfl, rfl, rfl, rfl, rfl, rfl, trivial⟩
        exact ⟨hst, hyw.get hyv, val_take_succ hyv⟩
        intro c30
        refine cp_skip ?_
        refine join_end (0) ?_ ?_
        exact ⟨rfl, rfl, rfl, rfl, rfl, rfl, rfl, rfl, trivial⟩
        exact ⟨hst, by decide, by rw [val_take_past (by omega)]; omega⟩
      case d4 =>
        clear hst
        rintro y w2 ⟨hst, hy, hyv⟩
        obtain ⟨b1, o1, rfl, hb1⟩ := hxs.some_ (by omega)
        obtain ⟨x, hx⟩ := get_of_lt (ws := xs) (j := i) (by omega)
        have hxlt := hxw.get hx
        refine cp_region ?_
        refine zM rfl hst rfl ?_
        refine zM rfl hst rfl ?_
        refine zM rfl hst rfl ?_
        refine zM rfl hst rfl ?_
        refine stepK_d rfl rfl rfl hst (does_indexAddr1 rfl zf1 (by kernel_rfl) rfl rfl rfl (by omega)) ?_
        refine stepK_d rfl rfl rfl hst (does_load_g1 rfl (by kernel_rfl) rfl ((hb1.mono hst.le).at_ _ _ hx)) ?_
        refine zM rfl hst rfl ?_
        refine zM rfl hst rfl ?_
        refine stepK_call rfl rfl rfl rfl rfl hst (bits_Add64 hst.agree (by first | assumption | rfl | omega | (simp; done))) ?_
        clear hst
        intro v5 g5 w5 hst hle5 hcs5 hp5
        obtain rfl := hp5
        refine zM rfl hst rfl ?_
        refine zE rfl hst rfl rfl ?_
        refine zE rfl hst rfl rfl ?_
        refine stepK_d rfl rfl rfl hst (does_indexAddr1 rfl zf1 (by kernel_rfl) rfl rfl rfl (by omega)) ?_
        refine stepK_store 0 rfl rfl rfl rfl rfl rfl zf4 rfl rfl hst rfl (by first | (simp [uN_length]; omega) | simp) ?_
        clear hst
        intro w6 hst
        rw [splice_uN _ _ _ _ (by omega)] at hst
        simp only [List.set_cons_zero, Nat.zero_add] at hst
        refine zA rfl hst rfl ?_
        refine wpK_nil ?_
        refine at_block_normal ?_
        refine cp_then ?_
        refine cp_region ?_
        refine stepK_d rfl rfl rfl hst (Does.int (does_add rfl rfl rfl) (wrap_i64 (by omega) (by omega))) ?_
        refine zM rfl hst rfl ?_
        refine wpK_nil ?_
        refine round_end ((i + 1, (x + y + cy) / 18446744073709551616, ws.set i ((x + y + cy) % 18446744073709551616))) ?_ ?_ ?_
        exact ⟨rfl, rfl, rfl, rfl, rfl, rfl, trivial⟩
        refine ⟨_, hst, by omega, by omega, hws.set (Nat.mod_lt _ (by decide)), by simp [hwl], ?_⟩
        rw [val_take_set (by omega), val_take_succ hx, hyv, pow_succ64]
        exact sum_step (i := i) hv
        show n1 - (i + 1) < n1 - i
        omega
      intro c25
      refine cp_exit ?_
      refine at_then_exit ?_
      refine at_then_exit ?_
      refine cp_exit_here ?_
      refine cp_then ?_
      refine cp_seq ?_
      refine cp_seq ?_
      obtain rfl : n1 = i := by omega
      have hval : val (ws.take n1) + cy * 18446744073709551616 ^ n1 = val xs + val ys := by rw [hv, val_all (by omega), val_all (by omega)]
      refine cp_region ?_
      refine zM rfl hst rfl ?_
      refine stepK_d rfl rfl rfl hst (does_gtr_n (b := 0) rfl rfl rfl) ?_
      refine znt ?_
      refine cp_if rfl ?_ ?_
      intro c50
      refine cp_region ?_
      refine zM rfl hst rfl ?_
      refine zM rfl hst rfl ?_
      refine stepK_buildSlice rfl rfl rfl rfl zf1 zf2 rfl rfl (by decide) (by decide) (by decide) rfl rfl hst ?_
      clear hst
      intro b7 w7 hst
      refine stepK_append rfl rfl rfl rfl zf1 zf2 rfl (by decide) rfl rfl (Row.of_own (own := [_]) (hst.perm (List.Perm.swap ..)) (hst.own_new (List.mem_cons_self ..)) (by omega) (by omega) (by simp [uN_length, hwl]) (by rw [List.toList_toArray, uN_take, Nat.mul_one]) (by simp [uN_length, hwl])) (k := 1) rfl (fun j u hj => by rw [addr_add, Nat.zero_add]; exact hst.cell_own 1 rfl (by simpa using hj)) (by simp [Value.oneCell']) (by omega) (by omega) ?_
      clear hst
      intro vr8 w8 hrow
      obtain ⟨Ar8, cr8, rfl⟩ := hrow.shape
      have hst := hrow.st
      refine zA rfl hst rfl ?_
      refine zn4 ?_
      refine zM rfl hst rfl ?_
      refine zA rfl hst rfl ?_
      refine znt ?_
      refine cp_ret ?_
      obtain ⟨g2, A2, c2, e2, hc2, hst2, hle2, hsv⟩ := hrow.publish
      cases e2
      refine ret1 rfl rfl hst2 ⟨_, _, _, rfl, ws.take n1 ++ [cy], SlV.toN (by rw [uN_append, uN_one]; exact hsv) (by simp [hwl]), (hws.take n1).append (Words.cons (by omega) Words.nil), trimmed_append_one (by omega), ?_⟩
      rw [val_append, ← hval, List.length_take, hwl, Nat.min_eq_left (by omega)]
      simp [val, Nat.mul_comm]
      intro c50
      refine zk4 ?_
      refine zM rfl hst rfl ?_
      refine zA rfl hst rfl ?_
      refine znt ?_
      refine cp_ret ?_
      obtain ⟨hst, hle⟩ := hst.publish 0 rfl
      refine ret1 rfl rfl hst ⟨_, _, _, rfl, ws.take n1, (SlN.put_uN (ws := ws)).take (by omega), hws.take n1, ?_, ?_⟩
      refine trimmed_of_ge (n := n1) (hws.take n1) (by simp [hwl]) ?_
      rcases Nat.eq_zero_or_pos n1 with h0 | h0
      exact .inl h0
      refine .inr ?_
      have h1 := trimmed_lower hxt (by omega)
      rw [hlx] at h1
      have h2 : cy = 0 := by omega
      rw [h2, Nat.zero_mul] at hval
      omega
      have h2 : cy = 0 := by omega
      rw [h2, Nat.zero_mul] at hval
      omega

set_option maxHeartbeats 1000000 in
theorem num_less {g : Mem} {w : World} (hag : Agree g w) {A B : Option Addr} {n c m d N M : Nat} (ha : IsNat g A n N) (hb : IsNat g B m M) (hn : n ≤ 17592186044415) (hle : M ≤ N) :
    CallTo Tryd.prog 54 #[.slice A n c, .slice B m d] w (Ret w g fun v g => ∃ A n c, v = .slice A n c ∧ IsNat g A n (N - M)) := by
  refine CallTo.enter (vs := [.slice A n c, .slice B m d]) zf9 (by kernel_rfl) rfl rfl rfl ?_
  have hst := St.init hag
  have hmn : m ≤ n := hb.len (Nat.lt_of_le_of_lt hle ha.lt)
  obtain ⟨xs, hxs, hxw, hxt, rfl⟩ := ha
  obtain ⟨ys, hys, hyw, hyt, rfl⟩ := hb
  have hlx := hxs.1
  have hly := hys.1
  refine zsr ?_
  refine zA rfl hst rfl ?_
  refine zn4 ?_
  refine zM rfl hst rfl ?_
  refine stepK_d rfl rfl rfl hst (does_len_slice rfl zf1 rfl) ?_
  refine stepK_make rfl rfl rfl (l := n) (c := n) rfl zf1 zf2 rfl rfl rfl rfl rfl rfl (by omega) (by omega) (by omega) hst ?_
  clear hst
  intro bo w1 hst
  rw [uN_rep] at hst
  refine zA rfl hst rfl ?_
  refine zn4 ?_
  refine zA rfl hst rfl ?_
  refine znq ?_
  refine zsr ?_
  refine zM rfl hst rfl ?_
  refine stepK_d rfl rfl rfl hst (does_len_slice rfl zf1 rfl) ?_
  refine zM rfl hst rfl ?_
  refine znt ?_
  refine cp_block ?_
  refine cp_loop (ι := Nat × Nat × List Nat) (fun (i, cy, ws) => [(0, .slice A n c), (1, .slice B m d), (5, .slice (some ⟨bo, 0, none⟩) n n), (6, .int .u64 (cy : Int)), (13, .int .i64 (n : Int)), (14, .int .i64 (i : Int))]) (fun (i, cy, ws) w1 => ∃ g1, St w [] g g1 [(bo, .cells (uN .u64 ws).toArray 51 (0, 0))] w1 ∧ i ≤ n ∧ cy ≤ 1 ∧ Words ws ∧ ws.length = n ∧ val (ws.take i) + val (ys.take i) = val (xs.take i) + cy * 18446744073709551616 ^ i) (fun (i, cy, ws) => n - i) (0, 0, List.replicate n 0) ?k2 ?i2 ?r2
  case k2 => exact ⟨rfl, rfl, rfl, rfl, rfl, rfl, trivial⟩
  case i2 =>
    exact ⟨_, hst, Nat.zero_le _, by decide, Words.rep _, by simp, by simp [val]⟩
  case r2 =>
    clear hst
    rintro ⟨i, cy, ws⟩ w1 ⟨g1, hst, hi, hcy, hws, hwl, hv⟩
    refine zsr ?_
    refine stepK_d rfl rfl rfl hst (does_lss rfl rfl rfl) ?_
    refine znq ?_
    refine cp_if rfl ?_ ?_
    intro c15
    refine cp_skip ?_
    refine cp_then ?_
    refine cp_seq ?_
    refine cp_block ?_
    refine zsr ?_
    refine zM rfl hst rfl ?_
    refine zA rfl hst rfl ?_
    refine zn4 ?_
    refine zA rfl hst rfl ?_
    refine znt ?_
    refine cp_join (ι := Nat) (fun y => [(0, .slice A n c), (1, .slice B m d), (5, .slice (some ⟨bo, 0, none⟩) n n), (6, .int .u64 (cy : Int)), (7, .int .i64 (i : Int)), (8, .int .u64 (y : Int)), (13, .int .i64 (n : Int)), (14, .int .i64 (i : Int))]) (fun y w2 => St w [] g g1 [(bo, .cells (uN .u64 ws).toArray 51 (0, 0))] w2 ∧ y < 18446744073709551616 ∧ val (ys.take (i + 1)) = val (ys.take i) + 18446744073709551616 ^ i * y) ?c3 ?d3
    case c3 =>
      refine zsr ?_
      refine zM rfl hst rfl ?_
      refine zM rfl hst rfl ?_
      refine stepK_d rfl rfl rfl hst (does_len_slice rfl zf1 rfl) ?_
      refine stepK_d rfl rfl rfl hst (does_lss rfl rfl rfl) ?_
      refine znt ?_
      refine cp_if rfl ?_ ?_
      intro c20
      refine cp_region ?_
      obtain ⟨b2, o2, rfl, hb2⟩ := hys.some_ (by omega)
      obtain ⟨yv, hyv⟩ := get_of_lt (ws := ys) (j := i) (by omega)
      refine zM rfl hst rfl ?_
      refine zM rfl hst rfl ?_
      refine stepK_d rfl rfl rfl hst (does_indexAddr1 rfl zf1 (by kernel_rfl) rfl rfl rfl (by omega)) ?_
      refine stepK_d rfl rfl rfl hst (does_load_g1 rfl (by kernel_rfl) rfl ((hb2.mono hst.le).at_ _ _ hyv)) ?_
      refine zA rfl hst rfl ?_
      refine wpK_nil ?_
      refine join_end (yv) ?_ ?_
      exact ⟨rfl, rfl, rfl, rfl, rfl, rfl, rfl, rfl, trivial⟩
      exact ⟨hst, hyw.get hyv, val_take_succ hyv⟩
      intro c20
      refine cp_skip ?_
      refine join_end (0) ?_ ?_
      exact ⟨rfl, rfl, rfl, rfl, rfl, rfl, rfl, rfl, trivial⟩
      exact ⟨hst, by decide, by rw [val_take_past (by omega)]; omega⟩
    case d3 =>
      clear hst
      rintro y w2 ⟨hst, hy, hyv⟩
      obtain ⟨b1, o1, rfl, hb1⟩ := hxs.some_ (by omega)
      obtain ⟨x, hx⟩ := get_of_lt (ws := xs) (j := i) (by omega)
      have hxlt := hxw.get hx
      refine cp_region ?_
      refine zM rfl hst rfl ?_
      refine zM rfl hst rfl ?_
      refine zM rfl hst rfl ?_
      refine zM rfl hst rfl ?_
      refine stepK_d rfl rfl rfl hst (does_indexAddr1 rfl zf1 (by kernel_rfl) rfl rfl rfl (by omega)) ?_
      refine stepK_d rfl rfl rfl hst (does_load_g1 rfl (by kernel_rfl) rfl ((hb1.mono hst.le).at_ _ _ hx)) ?_
      refine zM rfl hst rfl ?_
      refine zM rfl hst rfl ?_
      refine stepK_call rfl rfl rfl rfl rfl hst (bits_Sub64 hst.agree (by first | assumption | rfl | omega | (simp; done))) ?_
      clear hst
      intro v4 g4 w4 hst hle4 hcs4 hp4
      obtain rfl := hp4
      refine zM rfl hst rfl ?_
      refine zE rfl hst rfl rfl ?_
      refine zE rfl hst rfl rfl ?_
      refine stepK_d rfl rfl rfl hst (does_indexAddr1 rfl zf1 (by kernel_rfl) rfl rfl rfl (by omega)) ?_
      refine stepK_store 0 rfl rfl rfl rfl rfl rfl zf4 rfl rfl hst rfl (by first | (simp [uN_length]; omega) | simp) ?_
      clear hst
      intro w5 hst
      rw [splice_uN _ _ _ _ (by omega)] at hst
      simp only [List.set_cons_zero, Nat.zero_add] at hst
      refine zA rfl hst rfl ?_
      refine wpK_nil ?_
      refine at_block_normal ?_
      refine cp_then ?_
      refine cp_region ?_
      refine stepK_d rfl rfl rfl hst (Does.int (does_add rfl rfl rfl) (wrap_i64 (by omega) (by omega))) ?_
      refine zM rfl hst rfl ?_
      refine wpK_nil ?_
      refine round_end ((i + 1, (if x < y + cy then 1 else 0), ws.set i ((x + 18446744073709551616 - y - cy) % 18446744073709551616))) ?_ ?_ ?_
      exact ⟨rfl, rfl, rfl, rfl, rfl, rfl, trivial⟩
      refine ⟨_, hst, by omega, by split <;> omega, hws.set (Nat.mod_lt _ (by decide)), by simp [hwl], ?_⟩
      rw [val_take_set (by omega), val_take_succ hx, hyv, pow_succ64]
      exact less_step hxlt hy hcy hv
      show n - (i + 1) < n - i
      omega
    intro c15
    refine cp_exit ?_
    refine at_then_exit ?_
    refine at_then_exit ?_
    refine cp_exit_here ?_
    refine cp_then ?_
    refine cp_seq ?_
    obtain rfl : n = i := by omega
    have hval : val ws + val ys = val xs + cy * 18446744073709551616 ^ n := by
      rw [val_all (ws := ws) (by omega), val_all (ws := ys) (by omega), val_all (ws := xs) (by omega)] at hv
      exact hv
    have hcy0 : cy = 0 := by
      have h1 := val_lt hws
      rw [hwl] at h1
      rcases Nat.eq_zero_or_pos cy with h0 | h0
      exact h0
      have h2 : cy = 1 := by omega
      rw [h2] at hval
      omega
    refine cp_region ?_
    refine zM rfl hst rfl ?_
    obtain ⟨hst, hle2⟩ := hst.publish 0 rfl
    refine stepK_call rfl rfl rfl rfl rfl hst (num_trim hst.agree (ws := ws) (by rw [← hwl]; exact SlN.put_uN) hws (Nat.le_refl _) (by omega)) ?_
    clear hst
    intro v6 g6 w6 hst hle6 hcs6 hp6
    obtain ⟨A6, n6, c6, rfl, hn6⟩ := hp6
    refine zA rfl hst rfl ?_
    refine znt ?_
    refine cp_ret ?_
    refine ret1 rfl rfl hst ?_
    refine ⟨_, _, _, rfl, ?_⟩
    rw [show val xs - val ys = val ws by rw [hcy0, Nat.zero_mul] at hval; omega]
    assumption

end Go.Proofs.YtcjhnkmoloiepaaDoor

namespace Go.Proofs.YtcjhnkmoloiepaaDoor
open Go Go.RowKit Go.Proofs.Vc
set_option linter.unusedVariables false
set_option linter.unusedSimpArgs false

set_option maxHeartbeats 1000000 in
theorem bits_Mul64 {g : Mem} {w : World} (hag : Agree g w) {x y : Nat} (hx : x < 18446744073709551616) (hy : y < 18446744073709551616) :
    CallTo Tryd.prog 64 #[.int .u64 (x : Int), .int .u64 (y : Int)] w (Ret w g fun v g => v = .tuple #[.int .u64 ((x * y / 18446744073709551616 : Nat) : Int), .int .u64 ((x * y % 18446744073709551616 : Nat) : Int)]) := by
  refine CallTo.enter (vs := [.int .u64 (x : Int), .int .u64 (y : Int)]) zf10 (by kernel_rfl) rfl rfl rfl ?_
  have hst := St.init hag
  refine zsr ?_
  refine zA rfl hst rfl ?_
  refine zA rfl hst rfl ?_
  refine zn4 ?_
  refine zM rfl hst rfl ?_
  refine stepK_d rfl rfl rfl hst (does_and_mask32 rfl rfl rfl (by omega)) ?_
  refine zA rfl hst rfl ?_
  refine zn4 ?_
  refine zM rfl hst rfl ?_
  refine stepK_d rfl rfl rfl hst (does_shr_u64c (c := 32) (pw := 4294967296) rfl rfl rfl (by decide)) ?_
  refine zA rfl hst rfl ?_
  refine zn4 ?_
  refine zM rfl hst rfl ?_
  refine stepK_d rfl rfl rfl hst (does_and_mask32 rfl rfl rfl (by omega)) ?_
  refine zA rfl hst rfl ?_
  refine zn4 ?_
  refine zM rfl hst rfl ?_
  refine stepK_d rfl rfl rfl hst (does_shr_u64c (c := 32) (pw := 4294967296) rfl rfl rfl (by decide)) ?_
  refine zA rfl hst rfl ?_
  refine zn4 ?_
  refine zM rfl hst rfl ?_
  refine zM rfl hst rfl ?_
  refine stepK_d rfl rfl rfl hst (does_mul_u64 rfl rfl rfl) ?_
  refine zA rfl hst rfl ?_
  refine zn4 ?_
  refine zM rfl hst rfl ?_
  refine zM rfl hst rfl ?_
  refine stepK_d rfl rfl rfl hst (does_mul_u64 rfl rfl rfl) ?_
  refine zM rfl hst rfl ?_
  refine stepK_d rfl rfl rfl hst (does_shr_u64c (c := 32) (pw := 4294967296) rfl rfl rfl (by decide)) ?_
  refine stepK_d rfl rfl rfl hst (does_add_u64 rfl rfl rfl) ?_
  refine zA rfl hst rfl ?_
  refine zn4 ?_
  refine zM rfl hst rfl ?_
  refine stepK_d rfl rfl rfl hst (does_and_mask32 rfl rfl rfl (by omega)) ?_
  refine zA rfl hst rfl ?_
  refine zn4 ?_
  refine zM rfl hst rfl ?_
  refine stepK_d rfl rfl rfl hst (does_shr_u64c (c := 32) (pw := 4294967296) rfl rfl rfl (by decide)) ?_
  refine zA rfl hst rfl ?_
  refine zn4 ?_
  refine zM rfl hst rfl ?_
  refine zM rfl hst rfl ?_
  refine zM rfl hst rfl ?_
  refine stepK_d rfl rfl rfl hst (does_mul_u64 rfl rfl rfl) ?_
  refine stepK_d rfl rfl rfl hst (does_add_u64 rfl rfl rfl) ?_
  refine zA rfl hst rfl ?_
  refine zn4 ?_
  refine zM rfl hst rfl ?_
  refine zM rfl hst rfl ?_
  refine stepK_d rfl rfl rfl hst (does_mul_u64 rfl rfl rfl) ?_
  refine zM rfl hst rfl ?_
  refine stepK_d rfl rfl rfl hst (does_add_u64 rfl rfl rfl) ?_
  refine zM rfl hst rfl ?_
  refine stepK_d rfl rfl rfl hst (does_shr_u64c (c := 32) (pw := 4294967296) rfl rfl rfl (by decide)) ?_
  refine stepK_d rfl rfl rfl hst (does_add_u64 rfl rfl rfl) ?_
  refine zA rfl hst rfl ?_
  refine zn4 ?_
  refine zM rfl hst rfl ?_
  refine zM rfl hst rfl ?_
  refine stepK_d rfl rfl rfl hst (does_mul_u64 rfl rfl rfl) ?_
  refine zA rfl hst rfl ?_
  refine znt ?_
  refine cp_ret ?_
  refine ret2 rfl rfl rfl hst ?_
  rw [mul64_nat x y hx hy]

set_option maxHeartbeats 1000000 in
theorem num_product {g : Mem} {w : World} (hag : Agree g w) {A B : Option Addr} {n c m d N M : Nat} (ha : IsNat g A n N) (hb : IsNat g B m M) (hn : n ≤ 8796093022207) (hm : m ≤ 8796093022207) :
    CallTo Tryd.prog 51 #[.slice A n c, .slice B m d] w (Ret w g fun v g => ∃ A n c, v = .slice A n c ∧ IsNat g A n (N * M)) := by
  refine CallTo.enter (vs := [.slice A n c, .slice B m d]) zf11 (by kernel_rfl) rfl rfl rfl ?_
  have hst := St.init hag
  have hz1 := ha.zero_iff
  have hz2 := hb.zero_iff
  obtain ⟨xs, hxs, hxw, hxt, rfl⟩ := ha
  obtain ⟨ys, hys, hyw, hyt, rfl⟩ := hb
  have hlx := hxs.1
  have hly := hys.1
  refine zsr ?_
  refine zA rfl hst rfl ?_
  refine znq ?_
  refine zsr ?_
  refine zM rfl hst rfl ?_
  refine stepK_d rfl rfl rfl hst (does_len_slice rfl zf1 rfl) ?_
  refine stepK_d rfl rfl rfl hst (does_eql rfl rfl rfl) ?_
  refine zM rfl hst rfl ?_
  refine wpK_split (t := 17) rfl ?_ ?_
  intro s17
  refine stepK_pass rfl rfl rfl rfl rfl rfl rfl ?_
  refine stepK_pass rfl rfl rfl rfl rfl rfl rfl ?_
  refine stepK_pass rfl rfl rfl rfl rfl rfl rfl ?_
  refine stepK_d rfl rfl rfl hst (does_pick_true rfl rfl rfl) ?_
  refine znt ?_
  refine cp_cond_true rfl ?_
  refine zsr ?_
  refine zA rfl hst rfl ?_
  refine zn5 ?_
  refine ret1 rfl rfl hst ?_
  exact ⟨_, _, _, rfl, by rw [hz1.1 (by omega), Nat.zero_mul]; exact IsNat.nil g⟩
  intro s17
  refine stepK_guard rfl rfl rfl rfl rfl rfl hst (does_move rfl rfl) ?_
  refine stepK_guard rfl rfl rfl rfl rfl rfl hst (does_len_slice rfl zf1 rfl) ?_
  refine stepK_guard rfl rfl rfl rfl rfl rfl hst (does_eql rfl rfl rfl) ?_
  refine stepK_d rfl rfl rfl hst (does_pick_false rfl rfl rfl) ?_
  refine znt ?_
  refine cp_if rfl ?_ ?_
  intro c21
  refine zsr ?_
  refine zA rfl hst rfl ?_
  refine zn5 ?_
  refine ret1 rfl rfl hst ?_
  exact ⟨_, _, _, rfl, by rw [hz2.1 (by omega), Nat.mul_zero]; exact IsNat.nil g⟩
  intro c21
  refine cp_skip ?_
  refine cp_then ?_
  refine cp_seq ?_
  obtain ⟨b1, o1, rfl, hb1⟩ := hxs.some_ (by omega)
  obtain ⟨b2, o2, rfl, hb2⟩ := hys.some_ (by omega)
  refine cp_region ?_
  refine zM rfl hst rfl ?_
  refine stepK_d rfl rfl rfl hst (does_len_slice rfl zf1 rfl) ?_
  refine zM rfl hst rfl ?_
  refine stepK_d rfl rfl rfl hst (does_len_slice rfl zf1 rfl) ?_
  refine stepK_d rfl rfl rfl hst (Does.int (does_add rfl rfl rfl) (wrap_i64 (by omega) (by omega))) ?_
  refine stepK_make rfl rfl rfl (l := n + m) (c := n + m) rfl zf1 zf2 rfl rfl rfl rfl (by omega) (by omega) (by omega) (by omega) (by omega) hst ?_
  clear hst
  intro bo w1 hst
  rw [uN_rep] at hst
  refine zA rfl hst rfl ?_
  refine znq ?_
  refine zsr ?_
  refine zM rfl hst rfl ?_
  refine stepK_d rfl rfl rfl hst (does_len_slice rfl zf1 rfl) ?_
  refine zM rfl hst rfl ?_
  refine znt ?_
  refine cp_block ?_
  refine cp_loop (ι := Nat × List Nat) (fun (i, ws) => [(1, .slice (some ⟨b2, o2, none⟩) m d), (5, .slice (some ⟨bo, 0, none⟩) (n + m) (n + m)), (28, .slice (some ⟨b1, o1, none⟩) n c), (29, .int .i64 (n : Int)), (30, .int .i64 (i : Int))]) (fun (i, ws) w1 => ∃ g1, St w [] g g1 [(bo, .cells (uN .u64 ws).toArray 51 (0, 0))] w1 ∧ i ≤ n ∧ Words ws ∧ ws.length = n + m ∧ val (ws.take (i + m)) = val (xs.take i) * val ys) (fun (i, ws) => n - i) (0, List.replicate (n + m) 0) ?k2 ?i2 ?r2
  case k2 => exact ⟨rfl, rfl, rfl, rfl, rfl, trivial⟩
  case i2 =>
    exact ⟨_, hst, Nat.zero_le _, Words.rep _, by simp, by simp [val, val_rep]⟩
  case r2 =>
    clear hst
    rintro ⟨i, ws⟩ w1 ⟨g1, hst, hi, hws, hwl, hv⟩
    refine zsr ?_
    refine stepK_d rfl rfl rfl hst (does_lss rfl rfl rfl) ?_
    refine znq ?_
    refine cp_if rfl ?_ ?_
    intro c31
    refine cp_skip ?_
    refine cp_then ?_
    refine cp_seq ?_
    refine cp_block ?_
    refine cp_seq ?_
    obtain ⟨x, hx⟩ := get_of_lt (ws := xs) (j := i) (by omega)
    have hxlt := hxw.get hx
    refine cp_region ?_
    refine zM rfl hst rfl ?_
    refine stepK_d rfl rfl rfl hst (does_indexAddr1 rfl zf1 (by kernel_rfl) rfl rfl rfl (by omega)) ?_
    refine stepK_d rfl rfl rfl hst (does_load_g1 rfl (by kernel_rfl) rfl ((hb1.mono hst.le).at_ _ _ hx)) ?_
    refine zA rfl hst rfl ?_
    refine zA rfl hst rfl ?_
    refine zn4 ?_
    refine zA rfl hst rfl ?_
    refine znq ?_
    refine zsr ?_
    refine zM rfl hst rfl ?_
    refine stepK_d rfl rfl rfl hst (does_len_slice rfl zf1 rfl) ?_
    refine zM rfl hst rfl ?_
    refine znt ?_
    refine cp_block ?_
    refine cp_loop (ι := Nat × Nat × List Nat) (fun (k, cy, ws2) => [(1, .slice (some ⟨b2, o2, none⟩) m d), (5, .slice (some ⟨bo, 0, none⟩) (n + m) (n + m)), (6, .int .i64 (i : Int)), (7, .int .u64 (x : Int)), (8, .int .u64 (cy : Int)), (28, .slice (some ⟨b1, o1, none⟩) n c), (29, .int .i64 (n : Int)), (30, .int .i64 (i : Int)), (35, .slice (some ⟨b2, o2, none⟩) m d), (36, .int .i64 (m : Int)), (37, .int .i64 (k : Int))]) (fun (k, cy, ws2) w2 => ∃ g1, St w [] g g1 [(bo, .cells (uN .u64 ws2).toArray 51 (0, 0))] w2 ∧ k ≤ m ∧ cy < 18446744073709551616 ∧ Words ws2 ∧ ws2.length = n + m ∧ val (ws2.take (i + m)) + cy * 18446744073709551616 ^ (i + k) = val (ws.take (i + m)) + x * 18446744073709551616 ^ i * val (ys.take k)) (fun (k, cy, ws2) => m - k) (0, 0, ws) ?k3 ?i3 ?r3
    case k3 => exact ⟨rfl, rfl, rfl, rfl, rfl, rfl, rfl, rfl, rfl, rfl, rfl, trivial⟩
    case i3 =>
      exact ⟨_, hst, Nat.zero_le _, by decide, hws, hwl, by simp [val]⟩
    case r3 =>
      clear hst
      rintro ⟨k, cy, ws2⟩ w2 ⟨g2, hst, hk, hcy2, hws2, hwl2, hv2⟩
      refine zsr ?_
      refine stepK_d rfl rfl rfl hst (does_lss rfl rfl rfl) ?_
      refine znq ?_
      refine cp_if rfl ?_ ?_
      intro c38
      refine cp_skip ?_
      refine cp_then ?_
      refine cp_seq ?_
      refine cp_block ?_
      refine cp_seq ?_
      obtain ⟨y, hy⟩ := get_of_lt (ws := ys) (j := k) (by omega)
      have hylt := hyw.get hy
      obtain ⟨old, hok⟩ := get_of_lt (ws := ws2) (j := i + k) (by omega)
      have hold := hws2.get hok
      refine cp_region ?_
      refine zM rfl hst rfl ?_
      refine stepK_d rfl rfl rfl hst (does_indexAddr1 rfl zf1 (by kernel_rfl) rfl rfl rfl (by omega)) ?_
      refine stepK_d rfl rfl rfl hst (does_load_g1 rfl (by kernel_rfl) rfl ((hb2.mono hst.le).at_ _ _ hy)) ?_
      refine zA rfl hst rfl ?_
      refine zA rfl hst rfl ?_
      refine zn4 ?_
      refine zM rfl hst rfl ?_
      refine zM rfl hst rfl ?_
      refine stepK_call rfl rfl rfl rfl rfl hst (bits_Mul64 hst.agree (by first | assumption | rfl | omega | (simp; done)) (by first | assumption | rfl | omega | (simp; done))) ?_
      clear hst
      intro v4 g4 w4 hst hle4 hcs4 hp4
      obtain rfl := hp4
      refine zM rfl hst rfl ?_
      refine zE rfl hst rfl rfl ?_
      refine zE rfl hst rfl rfl ?_
      refine zA rfl hst rfl ?_
      refine zA rfl hst rfl ?_
      refine zn4 ?_
      refine zA rfl hst rfl ?_
      refine zn4 ?_
      refine zM rfl hst rfl ?_
      refine zM rfl hst rfl ?_
      refine zM rfl hst rfl ?_
      refine zM rfl hst rfl ?_
      refine stepK_d rfl rfl rfl hst (Does.int (does_add rfl rfl rfl) (wrap_i64 (by omega) (by omega))) ?_
      refine stepK_d rfl rfl rfl hst (does_indexAddr1 (j := (i + k)) rfl zf1 (by kernel_rfl) rfl rfl (by omega) (by omega)) ?_
      refine stepK_d rfl rfl rfl hst (does_load_own1 0 rfl (by kernel_rfl) rfl rfl (uN_arr_get (by rw [Nat.zero_add]; exact hok))) ?_
      refine stepK_call rfl rfl rfl rfl rfl hst (bits_Add64 (c := 0) hst.agree (by omega)) ?_
      clear hst
      intro v5 g5 w5 hst hle5 hcs5 hp5
      obtain rfl := hp5
      refine zM rfl hst rfl ?_
      refine zE rfl hst rfl rfl ?_
      refine zE rfl hst rfl rfl ?_
      refine zA rfl hst rfl ?_
      refine zA rfl hst rfl ?_
      refine zn4 ?_
      refine zM rfl hst rfl ?_
      refine zM rfl hst rfl ?_
      refine stepK_d rfl rfl rfl hst (does_add_u64 rfl rfl rfl) ?_
      refine zA rfl hst rfl ?_
      refine zn4 ?_
      refine zM rfl hst rfl ?_
      refine zM rfl hst rfl ?_
      refine stepK_call rfl rfl rfl rfl rfl hst (bits_Add64 (c := 0) hst.agree (by omega)) ?_
      clear hst
      intro v6 g6 w6 hst hle6 hcs6 hp6
      obtain rfl := hp6
      refine zM rfl hst rfl ?_
      refine zE rfl hst rfl rfl ?_
      refine zE rfl hst rfl rfl ?_
      refine zA rfl hst rfl ?_
      refine zA rfl hst rfl ?_
      refine zn3 ?_
      refine zM rfl hst rfl ?_
      refine zM rfl hst rfl ?_
      refine zM rfl hst rfl ?_
      refine stepK_d rfl rfl rfl hst (Does.int (does_add rfl rfl rfl) (wrap_i64 (by omega) (by omega))) ?_
      refine zM rfl hst rfl ?_
      refine zM rfl hst rfl ?_
      refine zM rfl hst rfl ?_
      refine stepK_d rfl rfl rfl hst (does_add_u64 rfl rfl rfl) ?_
      refine stepK_d rfl rfl rfl hst (does_indexAddr1 (j := (i + k)) rfl zf1 (by kernel_rfl) rfl rfl (by omega) (by omega)) ?_
      refine stepK_store 0 rfl rfl rfl rfl rfl rfl zf4 rfl rfl hst rfl (by first | (simp [uN_length]; omega) | simp) ?_
      clear hst
      intro w7 hst
      rw [Nat.zero_add, splice_uN _ _ _ _ (by omega)] at hst
      simp only [List.set_cons_zero] at hst
      refine zA rfl hst rfl ?_
      refine wpK_nil ?_
      refine at_block_normal ?_
      refine cp_then ?_
      refine cp_region ?_
      refine stepK_d rfl rfl rfl hst (Does.int (does_add rfl rfl rfl) (wrap_i64 (by omega) (by omega))) ?_
      refine zM rfl hst rfl ?_
      refine wpK_nil ?_
      have hps := prod_step hxlt hylt hold hcy2
      refine round_end ((k + 1, ((x * y / 18446744073709551616 + (x * y % 18446744073709551616 + old + 0) / 18446744073709551616) % 18446744073709551616 + ((x * y % 18446744073709551616 + old + 0) % 18446744073709551616 + cy + 0) / 18446744073709551616) % 18446744073709551616, ws2.set (i + k) (((x * y % 18446744073709551616 + old + 0) % 18446744073709551616 + cy + 0) % 18446744073709551616))) ?_ ?_ ?_
      exact ⟨rfl, rfl, rfl, rfl, rfl, rfl, rfl, rfl, rfl, rfl, rfl, trivial⟩
      refine ⟨_, hst, by omega, Nat.mod_lt _ (by decide), hws2.set (Nat.mod_lt _ (by decide)), by simp [hwl2], ?_⟩
      have hvs := val_set (z := ((x * y % 18446744073709551616 + old + 0) % 18446744073709551616 + cy + 0) % 18446744073709551616) hok (show i + k < i + m by omega) (by omega)
      rw [val_take_succ hy]
      generalize ((x * y % 18446744073709551616 + old + 0) % 18446744073709551616 + cy + 0) % 18446744073709551616 = z at *
      generalize ((x * y / 18446744073709551616 + (x * y % 18446744073709551616 + old + 0) / 18446744073709551616) % 18446744073709551616 + ((x * y % 18446744073709551616 + old + 0) % 18446744073709551616 + cy + 0) / 18446744073709551616) % 18446744073709551616 = q at *
      exact product_step hvs hps hv2
      show m - (k + 1) < m - k
      omega
      intro c38
      refine cp_exit ?_
      refine at_then_exit ?_
      refine at_then_exit ?_
      refine cp_exit_here ?_
      refine cp_then ?_
      obtain rfl : m = k := by omega
      refine cp_region ?_
      refine zM rfl hst rfl ?_
      refine zM rfl hst rfl ?_
      refine zM rfl hst rfl ?_
      refine stepK_d rfl rfl rfl hst (does_len_slice rfl zf1 rfl) ?_
      refine stepK_d rfl rfl rfl hst (Does.int (does_add rfl rfl rfl) (wrap_i64 (by omega) (by omega))) ?_
      refine zM rfl hst rfl ?_
      refine stepK_d rfl rfl rfl hst (does_indexAddr1 (j := (i + m)) rfl zf1 (by kernel_rfl) rfl rfl (by omega) (by omega)) ?_
      refine stepK_store 0 rfl rfl rfl rfl rfl rfl zf4 rfl rfl hst rfl (by first | (simp [uN_length]; omega) | simp) ?_
      clear hst
      intro w8 hst
      rw [Nat.zero_add, splice_uN _ _ _ _ (by omega)] at hst
      simp only [List.set_cons_zero] at hst
      refine wpK_nil ?_
      refine at_block_normal ?_
      refine cp_then ?_
      refine cp_region ?_
      refine stepK_d rfl rfl rfl hst (Does.int (does_add rfl rfl rfl) (wrap_i64 (by omega) (by omega))) ?_
      refine zM rfl hst rfl ?_
      refine wpK_nil ?_
      refine round_end ((i + 1, ws2.set (i + m) cy)) ?_ ?_ ?_
      exact ⟨rfl, rfl, rfl, rfl, rfl, trivial⟩
      refine ⟨_, hst, by omega, hws2.set hcy2, by simp [hwl2], ?_⟩
      rw [show i + 1 + m = i + m + 1 by omega, val_take_set (by omega), val_take_succ hx, Nat.add_mul, ← hv, ← Nat.mul_comm cy, hv2, val_all (ws := ys) (by omega), Nat.mul_comm x]
      show n - (i + 1) < n - i
      omega
    intro c31
    refine cp_exit ?_
    refine at_then_exit ?_
    refine at_then_exit ?_
    refine cp_exit_here ?_
    refine cp_then ?_
    refine zsr ?_
    refine zM rfl hst rfl ?_
    obtain ⟨hst, hle2⟩ := hst.publish 0 rfl
    obtain rfl : n = i := by omega
    refine stepK_call rfl rfl rfl rfl rfl hst (num_trim hst.agree (ws := ws) (by rw [← hwl]; exact SlN.put_uN) hws (Nat.le_refl _) (by omega)) ?_
    clear hst
    intro v9 g9 w9 hst hle9 hcs9 hp9
    obtain ⟨A9, n9, c9, rfl, hn9⟩ := hp9
    refine zA rfl hst rfl ?_
    refine znt ?_
    refine cp_ret ?_
    refine ret1 rfl rfl hst ?_
    refine ⟨_, _, _, rfl, ?_⟩
    rw [show val xs * val ys = val ws by rw [← val_all (n := n) (ws := xs) (by omega), ← hv, val_all (ws := ws) (by omega)]]
    assumption

end Go.Proofs.YtcjhnkmoloiepaaDoor

namespace Go.Proofs.YtcjhnkmoloiepaaDoor
open Go Go.RowKit Go.Proofs.Vc
set_option linter.unusedVariables false
set_option linter.unusedSimpArgs false


theorem bits_Len64 {g : Mem} {w : World} (hag : Agree g w) {x : Nat} (hx : x < 18446744073709551616) :
    CallTo Tryd.prog 89 #[.int .u64 (x : Int)] w (Ret w g fun v g' => v = .int .i64 ((bitLen x : Nat) : Int)) :=
  .inl ⟨enters zf12 (by kernel_rfl) rfl _ _, (K_bits_Len64 (x : Int) w (by omega) (by omega)).mono fun e w' ⟨he, hw⟩ => ⟨_, g, he, by rw [hw]; exact St.init hag, by rw [Int.toNat_natCast, bitLen_lib hx]⟩⟩

set_option maxHeartbeats 1000000 in
theorem bits_LeadingZeros64 {g : Mem} {w : World} (hag : Agree g w) {x : Nat} (hx : x < 18446744073709551616) :
    CallTo Tryd.prog 73 #[.int .u64 (x : Int)] w (Ret w g fun v g => v = .int .i64 ((64 - bitLen x : Nat) : Int)) := by
  refine CallTo.enter (vs := [.int .u64 (x : Int)]) zf13 (by kernel_rfl) rfl rfl rfl ?_
  have hst := St.init hag
  have hb := bitLen_le64 hx
  refine zsr ?_
  refine zA rfl hst rfl ?_
  refine zn4 ?_
  refine zM rfl hst rfl ?_
  refine stepK_call rfl rfl rfl rfl rfl hst (bits_Len64 hst.agree (by first | assumption | rfl | omega | (simp; done))) ?_
  clear hst
  intro v1 g1 w1 hst hle1 hcs1 hp1
  obtain rfl := hp1
  refine stepK_d rfl rfl rfl hst (Does.int (does_sub rfl rfl rfl) (wrap_i64 (by omega) (by omega))) ?_
  refine zA rfl hst rfl ?_
  refine znt ?_
  refine cp_ret ?_
  refine ret1 rfl rfl hst ?_
  rw [Int.natCast_sub hb]
  rfl

end Go.Proofs.YtcjhnkmoloiepaaDoor

namespace Go.Proofs.YtcjhnkmoloiepaaDoor
open Go Go.RowKit Go.Proofs.Vc
set_option linter.unusedVariables false
set_option linter.unusedSimpArgs false

set_option maxHeartbeats 4000000 in
set_option maxRecDepth 20000 in
theorem bits_Div64 {g : Mem} {w : World} (hag : Agree g w) {hi lo y : Nat} (hhi : hi < y) (hlo : lo < 18446744073709551616) (hy : y < 18446744073709551616) (h0 : 0 < y) :
    CallTo Tryd.prog 83 #[.int .u64 (hi : Int), .int .u64 (lo : Int), .int .u64 (y : Int)] w (Ret w g fun v g => v = .tuple #[.int .u64 (((hi * 18446744073709551616 + lo) / y : Nat) : Int), .int .u64 (((hi * 18446744073709551616 + lo) % y : Nat) : Int)]) := by
  refine CallTo.enter (vs := [.int .u64 (hi : Int), .int .u64 (lo : Int), .int .u64 (y : Int)]) zf14 (by kernel_rfl) rfl rfl rfl ?_
  have hst := St.init hag
  refine zsr ?_
  refine zA rfl hst rfl ?_
  refine zA rfl hst rfl ?_
  refine znq ?_
  refine zsr ?_
  refine zM rfl hst rfl ?_
  refine stepK_d rfl rfl rfl hst (does_eql_n (b := 0) rfl rfl rfl) ?_
  refine znt ?_
  refine cp_if rfl ?_ ?_
  intro c20
  omega
  intro c20
  refine cp_skip ?_
  refine cp_then ?_
  refine cp_seq ?_
  refine zsr ?_
  refine zM rfl hst rfl ?_
  refine zM rfl hst rfl ?_
  refine stepK_d rfl rfl rfl hst (does_leq_n rfl rfl rfl) ?_
  refine znt ?_
  refine cp_if rfl ?_ ?_
  intro c24
  omega
  intro c24
  refine cp_skip ?_
  refine cp_then ?_
  refine cp_seq ?_
  refine zsr ?_
  refine zM rfl hst rfl ?_
  refine stepK_d rfl rfl rfl hst (does_eql_n (b := 0) rfl rfl rfl) ?_
  refine znt ?_
  refine cp_if rfl ?_ ?_
  intro c27
  refine cp_seq ?_
  refine cp_drawn (by kernel_rfl) 8 [(0, true), (1, true), (2, true), (3, true), (4, true), (5, true), (6, true), (7, true)] _ rfl (by kernel_rfl) (by kernel_rfl) (by kernel_rfl) (fun _ _ _ _ _ h => h) _ (hst.drew) ?_
  have hst0 := hst.drew
  clear hst
  have hst := hst0
  refine stepD_d rfl rfl rfl rfl (does_move rfl rfl) ?_
  refine stepD_d rfl rfl rfl rfl (does_move rfl rfl) ?_
  refine stepD_d rfl rfl rfl rfl (does_quo_u64 rfl rfl rfl (by omega) (by omega)) ?_
  refine stepD_d rfl rfl rfl rfl (does_move rfl rfl) ?_
  refine stepD_d rfl rfl rfl rfl (does_move rfl rfl) ?_
  refine stepD_d rfl rfl rfl rfl (does_rem_n rfl rfl rfl (by omega)) ?_
  refine stepD_d rfl rfl rfl rfl (does_assign rfl rfl) ?_
  refine stepD_d rfl rfl rfl rfl (does_assign rfl rfl) ?_
  refine stepD_tail ?_
  refine zn5 ?_
  refine ret2 rfl rfl rfl hst ?_
  rw [show hi = 0 by omega, Nat.zero_mul, Nat.zero_add]
  intro c27
  refine zk4 ?_
  refine zM rfl hst rfl ?_
  refine stepK_call rfl rfl rfl rfl rfl hst (bits_LeadingZeros64 hst.agree (by first | assumption | rfl | omega | (simp; done))) ?_
  clear hst
  intro v1 g1 w1 hst hle1 hcs1 hp1
  obtain rfl := hp1
  obtain ⟨s, hs⟩ : ∃ s, s = 64 - bitLen y := ⟨_, rfl⟩
  have hs64 : s ≤ 64 := by omega
  obtain ⟨hn1, hn2⟩ := norm_shift h0 hy
  rw [← hs] at hn1 hn2 ⊢
  obtain ⟨Y, hY⟩ : ∃ Y, Y = y * 2 ^ s := ⟨_, rfl⟩
  rw [← hY] at hn1 hn2
  obtain ⟨u, hu⟩ : ∃ u, u = hi * 2 ^ s + lo / 2 ^ (64 - s) := ⟨_, rfl⟩
  obtain ⟨t, ht⟩ : ∃ t, t = lo * 2 ^ s % 18446744073709551616 := ⟨_, rfl⟩
  have htl : t < 18446744073709551616 := by rw [ht]; exact Nat.mod_lt _ (by decide)
  obtain ⟨y1, hy1⟩ : ∃ y1, y1 = Y / 4294967296 := ⟨_, rfl⟩
  obtain ⟨y0, hy0⟩ : ∃ y0, y0 = Y % 4294967296 := ⟨_, rfl⟩
  obtain ⟨d1, hd1⟩ : ∃ d1, d1 = t / 4294967296 := ⟨_, rfl⟩
  obtain ⟨d0, hd0⟩ : ∃ d0, d0 = t % 4294967296 := ⟨_, rfl⟩
  have hYe : Y = y1 * 4294967296 + y0 := by omega
  have hy1l : y1 < 4294967296 := by omega
  have hy1g : 2147483648 ≤ y1 := by omega
  obtain ⟨hu1, hu2⟩ := div_norm (lo := lo) hhi hlo hs64 hY hu hn2
  have huY : u < y1 * 4294967296 + y0 := by omega
  refine stepK_d rfl rfl rfl hst (Does.nat (b := s) (does_conv_n_u64 rfl (by kernel_rfl) (by kernel_rfl) rfl) (by rw [Nat.mod_eq_of_lt (by omega)])) ?_
  refine zA rfl hst rfl ?_
  refine zn4 ?_
  refine zM rfl hst rfl ?_
  refine zM rfl hst rfl ?_
  refine stepK_d rfl rfl rfl hst (Does.nat (b := Y) (does_shl_u64 rfl rfl rfl) (by rw [Nat.min_eq_left hs64, ← hY, Nat.mod_eq_of_lt hn2])) ?_
  refine zA rfl hst rfl ?_
  refine zn4 ?_
  refine zM rfl hst rfl ?_
  refine stepK_d rfl rfl rfl hst (Does.nat (b := y1) (does_shr_u64c (c := 32) (pw := 4294967296) rfl rfl rfl (by decide)) (by rw [hy1])) ?_
  refine zA rfl hst rfl ?_
  refine zn4 ?_
  refine zM rfl hst rfl ?_
  refine stepK_d rfl rfl rfl hst (Does.nat (b := y0) (does_and_mask32 rfl rfl rfl hn2) (by rw [hy0])) ?_
  refine zA rfl hst rfl ?_
  refine zn4 ?_
  refine zM rfl hst rfl ?_
  refine zM rfl hst rfl ?_
  refine stepK_d rfl rfl rfl hst (Does.nat (b := hi * 2 ^ s) (does_shl_u64 rfl rfl rfl) (by rw [Nat.min_eq_left hs64, Nat.mod_eq_of_lt hu1])) ?_
  refine zM rfl hst rfl ?_
  refine zM rfl hst rfl ?_
  refine stepK_d rfl rfl rfl hst (Does.nat (b := 64 - s) (does_sub_u64 (a := 64) rfl rfl rfl) (by omega)) ?_
  refine stepK_d rfl rfl rfl hst (Does.nat (b := lo / 2 ^ (64 - s)) (does_shr_u64 rfl rfl rfl) (by rw [Nat.min_eq_left (by omega)])) ?_
  refine stepK_d rfl rfl rfl hst (Does.nat (b := u) (does_or_u64 rfl rfl rfl hu1 (Nat.lt_of_le_of_lt (Nat.div_le_self _ _) hlo)) (by rw [or_shift hu2.1, hu])) ?_
  refine zA rfl hst rfl ?_
  refine zn4 ?_
  refine zM rfl hst rfl ?_
  refine zM rfl hst rfl ?_
  refine stepK_d rfl rfl rfl hst (Does.nat (b := t) (does_shl_u64 rfl rfl rfl) (by rw [Nat.min_eq_left hs64, ht])) ?_
  refine zA rfl hst rfl ?_
  refine zn4 ?_
  refine zM rfl hst rfl ?_
  refine stepK_d rfl rfl rfl hst (Does.nat (b := d1) (does_shr_u64c (c := 32) (pw := 4294967296) rfl rfl rfl (by decide)) (by rw [hd1])) ?_
  refine zA rfl hst rfl ?_
  refine zn4 ?_
  refine zM rfl hst rfl ?_
  refine stepK_d rfl rfl rfl hst (Does.nat (b := d0) (does_and_mask32 rfl rfl rfl htl) (by rw [hd0])) ?_
  refine zA rfl hst rfl ?_
  refine zn4 ?_
  refine zM rfl hst rfl ?_
  refine zM rfl hst rfl ?_
  refine stepK_d rfl rfl rfl hst (does_quo_u64 rfl rfl rfl (by omega) (by omega)) ?_
  refine zA rfl hst rfl ?_
  refine zn4 ?_
  refine zM rfl hst rfl ?_
  refine zM rfl hst rfl ?_
  refine zM rfl hst rfl ?_
  refine stepK_d rfl rfl rfl hst (does_mul_u64 rfl rfl rfl) ?_
  refine stepK_d rfl rfl rfl hst (Does.nat (b := u % y1) (does_sub_u64 rfl rfl rfl) (by rw [div_left (show u < 18446744073709551616 by omega)])) ?_
  refine zA rfl hst rfl ?_
  refine znt ?_
  refine cp_join (ι := Unit) (fun _ => [(2, .int .u64 (Y : Int)), (8, .int .u64 (s : Int)), (9, .int .u64 (y1 : Int)), (10, .int .u64 (y0 : Int)), (13, .int .u64 (d1 : Int)), (14, .int .u64 (d0 : Int)), (11, .int .u64 (u : Int)), (15, .int .u64 (((u * 4294967296 + d1) / Y : Nat) : Int))]) (fun _ w1 => ∃ g2, St w [] g g2 [] w1) ?c2 ?d2
  case c2 =>
    refine cp_block ?_
    refine cp_loop (ι := Nat × Nat) (fun (q, r) => [(2, .int .u64 (Y : Int)), (8, .int .u64 (s : Int)), (9, .int .u64 (y1 : Int)), (10, .int .u64 (y0 : Int)), (13, .int .u64 (d1 : Int)), (14, .int .u64 (d0 : Int)), (11, .int .u64 (u : Int)), (15, .int .u64 (q : Int)), (16, .int .u64 (r : Int))]) (fun (q, r) w1 => ∃ g1, St w [] g g1 [] w1 ∧ q * y1 + r = u ∧ r < 4294967296 ∧ (u * 4294967296 + d1) / (y1 * 4294967296 + y0) ≤ q ∧ q < 18446744073709551616) (fun (q, r) => q) (u / y1, u % y1) ?k3 ?i3 ?r3
    case k3 => exact ⟨rfl, rfl, rfl, rfl, rfl, rfl, rfl, rfl, rfl, trivial⟩
    case i3 =>
      exact ⟨_, hst, by rw [Nat.mul_comm]; exact Nat.div_add_mod _ _, Nat.lt_trans (Nat.mod_lt _ (by omega)) hy1l, knuth_start (by omega) (by omega), Nat.lt_of_le_of_lt (Nat.div_le_self _ _) (by omega)⟩
    case r3 =>
      clear hst
      rintro ⟨q, r⟩ w1 ⟨g1, hst, he, hr, hQ, hq⟩
      refine cp_seq ?_
      refine zsr ?_
      refine zM rfl hst rfl ?_
      refine stepK_d rfl rfl rfl hst (does_geq_n (b := 4294967296) rfl rfl rfl) ?_
      refine zM rfl hst rfl ?_
      refine wpK_split (t := 69) rfl ?_ ?_
      intro s69
      have hdn := knuth_down he (by omega) huY hQ (.inl s69)
      refine stepK_pass rfl rfl rfl rfl rfl rfl rfl ?_
      refine stepK_pass rfl rfl rfl rfl rfl rfl rfl ?_
      refine stepK_pass rfl rfl rfl rfl rfl rfl rfl ?_
      refine stepK_pass rfl rfl rfl rfl rfl rfl rfl ?_
      refine stepK_pass rfl rfl rfl rfl rfl rfl rfl ?_
      refine stepK_pass rfl rfl rfl rfl rfl rfl rfl ?_
      refine stepK_pass rfl rfl rfl rfl rfl rfl rfl ?_
      refine stepK_pass rfl rfl rfl rfl rfl rfl rfl ?_
      refine stepK_d rfl rfl rfl hst (does_pick_true rfl rfl rfl) ?_
      refine znt ?_
      refine cp_cond_true rfl ?_
      refine cp_skip ?_
      refine cp_then ?_
      refine cp_block ?_
      refine zsr ?_
      refine zM rfl hst rfl ?_
      refine stepK_d rfl rfl rfl hst (Does.nat (b := q - 1) (does_sub_u64 (b := 1) rfl rfl rfl) (by have := hdn.2; omega)) ?_
      refine zA rfl hst rfl ?_
      refine zn4 ?_
      refine zM rfl hst rfl ?_
      refine zM rfl hst rfl ?_
      refine stepK_d rfl rfl rfl hst (Does.nat (b := r + y1) (does_add_u64 rfl rfl rfl) (by rw [Nat.mod_eq_of_lt (by omega)])) ?_
      refine zA rfl hst rfl ?_
      refine zn4 ?_
      refine zM rfl hst rfl ?_
      refine stepK_d rfl rfl rfl hst (does_geq_n (b := 4294967296) rfl rfl rfl) ?_
      refine znt ?_
      refine cp_if rfl ?_ ?_
      intro c85
      refine cp_exit ?_
      refine cp_exit_on (by decide) ?_
      refine at_then_exit ?_
      refine cp_exit_here ?_
      have hq1 := knuth_stop2 (knuth_keep he hdn.2) hdn.1 (by omega) (by omega) huY (by omega)
      refine join_end (()) ?_ ?_
      exact ⟨rfl, rfl, rfl, rfl, rfl, rfl, rfl, kint (by rw [hq1, ← hYe]), trivial⟩
      exact ⟨_, hst⟩
      intro c85
      refine cp_skip ?_
      refine at_block_normal ?_
      refine round_end ((q - 1, r + y1)) ?_ ?_ ?_
      exact ⟨rfl, rfl, rfl, rfl, rfl, rfl, rfl, kint (by omega), kint (by omega), trivial⟩
      refine ⟨_, hst, ?_, by omega, hdn.1, by omega⟩
      exact knuth_keep he hdn.2
      show q - 1 < q
      omega
      intro s69
      refine stepK_guard rfl rfl rfl rfl rfl rfl hst (does_move rfl rfl) ?_
      refine stepK_guard rfl rfl rfl rfl rfl rfl hst (does_move rfl rfl) ?_
      refine stepK_guard rfl rfl rfl rfl rfl rfl hst (Does.nat (b := q * y0) (does_mul_u64 rfl rfl rfl) (by rw [Nat.mod_eq_of_lt (Nat.lt_of_le_of_lt (Nat.mul_le_mul (show q ≤ 4294967295 by omega) (show y0 ≤ 4294967295 by omega)) (by decide))])) ?_
      refine stepK_guard rfl rfl rfl rfl rfl rfl hst (does_move rfl rfl) ?_
      refine stepK_guard rfl rfl rfl rfl rfl rfl hst (Does.nat (b := 4294967296 * r) (does_mul_u64 (a := 4294967296) rfl rfl rfl) (by rw [Nat.mod_eq_of_lt (by omega)])) ?_
      refine stepK_guard rfl rfl rfl rfl rfl rfl hst (does_move rfl rfl) ?_
      refine stepK_guard rfl rfl rfl rfl rfl rfl hst (Does.nat (b := 4294967296 * r + d1) (does_add_u64 rfl rfl rfl) (by rw [Nat.mod_eq_of_lt (by omega)])) ?_
      refine stepK_guard rfl rfl rfl rfl rfl rfl hst (does_gtr_n rfl rfl rfl) ?_
      refine stepK_d rfl rfl rfl hst (does_pick_false rfl rfl rfl) ?_
      refine znt ?_
      refine cp_if rfl ?_ ?_
      intro c78
      have hdn := knuth_down he (by omega) huY hQ (.inr c78)
      refine cp_skip ?_
      refine cp_then ?_
      refine cp_block ?_
      refine zsr ?_
      refine zM rfl hst rfl ?_
      refine stepK_d rfl rfl rfl hst (Does.nat (b := q - 1) (does_sub_u64 (b := 1) rfl rfl rfl) (by have := hdn.2; omega)) ?_
      refine zA rfl hst rfl ?_
      refine zn4 ?_
      refine zM rfl hst rfl ?_
      refine zM rfl hst rfl ?_
      refine stepK_d rfl rfl rfl hst (Does.nat (b := r + y1) (does_add_u64 rfl rfl rfl) (by rw [Nat.mod_eq_of_lt (by omega)])) ?_
      refine zA rfl hst rfl ?_
      refine zn4 ?_
      refine zM rfl hst rfl ?_
      refine stepK_d rfl rfl rfl hst (does_geq_n (b := 4294967296) rfl rfl rfl) ?_
      refine znt ?_
      refine cp_if rfl ?_ ?_
      intro c85
      refine cp_exit ?_
      refine cp_exit_on (by decide) ?_
      refine at_then_exit ?_
      refine cp_exit_here ?_
      have hq1 := knuth_stop2 (knuth_keep he hdn.2) hdn.1 (by omega) (by omega) huY (by omega)
      refine join_end (()) ?_ ?_
      exact ⟨rfl, rfl, rfl, rfl, rfl, rfl, rfl, kint (by rw [hq1, ← hYe]), trivial⟩
      exact ⟨_, hst⟩
      intro c85
      refine cp_skip ?_
      refine at_block_normal ?_
      refine round_end ((q - 1, r + y1)) ?_ ?_ ?_
      exact ⟨rfl, rfl, rfl, rfl, rfl, rfl, rfl, kint (by omega), kint (by omega), trivial⟩
      refine ⟨_, hst, ?_, by omega, hdn.1, by omega⟩
      exact knuth_keep he hdn.2
      show q - 1 < q
      omega
      intro c78
      refine cp_exit ?_
      refine at_then_exit ?_
      refine at_then_exit ?_
      refine cp_exit_here ?_
      have hq1 := knuth_stop he hQ (by omega) (by omega)
      refine join_end (()) ?_ ?_
      exact ⟨rfl, rfl, rfl, rfl, rfl, rfl, rfl, kint (by rw [hq1, ← hYe]), trivial⟩
      exact ⟨_, hst⟩
  case d2 =>
    clear hst
    rintro _ w1 ⟨g2, hst⟩
    refine cp_seq ?_
    obtain ⟨Q1, hQ1⟩ : ∃ Q1, Q1 = (u * 4294967296 + d1) / Y := ⟨_, rfl⟩
    rw [← hQ1]
    have hQ1l : Q1 < 4294967296 := by rw [hQ1]; exact (Nat.div_lt_iff_lt_mul (by omega)).2 (by omega)
    obtain ⟨u2, hu2e⟩ : ∃ u2, u2 = (u * 4294967296 + d1) % Y := ⟨_, rfl⟩
    have hu2l : u2 < Y := by rw [hu2e]; exact Nat.mod_lt _ (by omega)
    have huY2 : u2 < y1 * 4294967296 + y0 := by omega
    refine cp_region ?_
    refine zM rfl hst rfl ?_
    refine stepK_d rfl rfl rfl hst (does_mul_u64 (b := 4294967296) rfl rfl rfl) ?_
    refine zM rfl hst rfl ?_
    refine stepK_d rfl rfl rfl hst (does_add_u64 rfl rfl rfl) ?_
    refine zM rfl hst rfl ?_
    refine zM rfl hst rfl ?_
    refine stepK_d rfl rfl rfl hst (does_mul_u64 rfl rfl rfl) ?_
    refine stepK_d rfl rfl rfl hst (Does.nat (b := u2) (does_sub_u64 rfl rfl rfl) (by rw [knuth_rest (by omega) (by omega) hQ1, ← hu2e])) ?_
    refine zA rfl hst rfl ?_
    refine zn4 ?_
    refine zM rfl hst rfl ?_
    refine zM rfl hst rfl ?_
    refine stepK_d rfl rfl rfl hst (does_quo_u64 rfl rfl rfl (by omega) (by omega)) ?_
    refine zA rfl hst rfl ?_
    refine zn4 ?_
    refine zM rfl hst rfl ?_
    refine zM rfl hst rfl ?_
    refine zM rfl hst rfl ?_
    refine stepK_d rfl rfl rfl hst (does_mul_u64 rfl rfl rfl) ?_
    refine stepK_d rfl rfl rfl hst (Does.nat (b := u2 % y1) (does_sub_u64 rfl rfl rfl) (by rw [div_left (show u2 < 18446744073709551616 by omega)])) ?_
    refine zA rfl hst rfl ?_
    refine znt ?_
    refine cp_join (ι := Unit) (fun _ => [(2, .int .u64 (Y : Int)), (8, .int .u64 (s : Int)), (9, .int .u64 (y1 : Int)), (10, .int .u64 (y0 : Int)), (13, .int .u64 (d1 : Int)), (14, .int .u64 (d0 : Int)), (15, .int .u64 (Q1 : Int)), (17, .int .u64 (u2 : Int)), (18, .int .u64 (((u2 * 4294967296 + d0) / Y : Nat) : Int))]) (fun _ w1 => ∃ g2, St w [] g g2 [] w1) ?c4 ?d4
    case c4 =>
      refine cp_block ?_
      refine cp_loop (ι := Nat × Nat) (fun (q, r) => [(2, .int .u64 (Y : Int)), (8, .int .u64 (s : Int)), (9, .int .u64 (y1 : Int)), (10, .int .u64 (y0 : Int)), (13, .int .u64 (d1 : Int)), (14, .int .u64 (d0 : Int)), (15, .int .u64 (Q1 : Int)), (17, .int .u64 (u2 : Int)), (18, .int .u64 (q : Int)), (16, .int .u64 (r : Int))]) (fun (q, r) w1 => ∃ g1, St w [] g g1 [] w1 ∧ q * y1 + r = u2 ∧ r < 4294967296 ∧ (u2 * 4294967296 + d0) / (y1 * 4294967296 + y0) ≤ q ∧ q < 18446744073709551616) (fun (q, r) => q) (u2 / y1, u2 % y1) ?k5 ?i5 ?r5
      case k5 => exact ⟨rfl, rfl, rfl, rfl, rfl, rfl, rfl, rfl, rfl, rfl, trivial⟩
      case i5 =>
        exact ⟨_, hst, by rw [Nat.mul_comm]; exact Nat.div_add_mod _ _, Nat.lt_trans (Nat.mod_lt _ (by omega)) hy1l, knuth_start (by omega) (by omega), Nat.lt_of_le_of_lt (Nat.div_le_self _ _) (by omega)⟩
      case r5 =>
        clear hst
        rintro ⟨q, r⟩ w1 ⟨g1, hst, he, hr, hQ, hq⟩
        refine cp_seq ?_
        refine zsr ?_
        refine zM rfl hst rfl ?_
        refine stepK_d rfl rfl rfl hst (does_geq_n (b := 4294967296) rfl rfl rfl) ?_
        refine zM rfl hst rfl ?_
        refine wpK_split (t := 104) rfl ?_ ?_
        intro s104
        have hdn := knuth_down he (by omega) huY2 hQ (.inl s104)
        refine stepK_pass rfl rfl rfl rfl rfl rfl rfl ?_
        refine stepK_pass rfl rfl rfl rfl rfl rfl rfl ?_
        refine stepK_pass rfl rfl rfl rfl rfl rfl rfl ?_
        refine stepK_pass rfl rfl rfl rfl rfl rfl rfl ?_
        refine stepK_pass rfl rfl rfl rfl rfl rfl rfl ?_
        refine stepK_pass rfl rfl rfl rfl rfl rfl rfl ?_
        refine stepK_pass rfl rfl rfl rfl rfl rfl rfl ?_
        refine stepK_pass rfl rfl rfl rfl rfl rfl rfl ?_
        refine stepK_d rfl rfl rfl hst (does_pick_true rfl rfl rfl) ?_
        refine znt ?_
        refine cp_cond_true rfl ?_
        refine cp_skip ?_
        refine cp_then ?_
        refine cp_block ?_
        refine zsr ?_
        refine zM rfl hst rfl ?_
        refine stepK_d rfl rfl rfl hst (Does.nat (b := q - 1) (does_sub_u64 (b := 1) rfl rfl rfl) (by have := hdn.2; omega)) ?_
        refine zA rfl hst rfl ?_
        refine zn4 ?_
        refine zM rfl hst rfl ?_
        refine zM rfl hst rfl ?_
        refine stepK_d rfl rfl rfl hst (Does.nat (b := r + y1) (does_add_u64 rfl rfl rfl) (by rw [Nat.mod_eq_of_lt (by omega)])) ?_
        refine zA rfl hst rfl ?_
        refine zn4 ?_
        refine zM rfl hst rfl ?_
        refine stepK_d rfl rfl rfl hst (does_geq_n (b := 4294967296) rfl rfl rfl) ?_
        refine znt ?_
        refine cp_if rfl ?_ ?_
        intro c120
        refine cp_exit ?_
        refine cp_exit_on (by decide) ?_
        refine at_then_exit ?_
        refine cp_exit_here ?_
        have hq1 := knuth_stop2 (knuth_keep he hdn.2) hdn.1 (by omega) (by omega) huY2 (by omega)
        refine join_end (()) ?_ ?_
        exact ⟨rfl, rfl, rfl, rfl, rfl, rfl, rfl, rfl, kint (by rw [hq1, ← hYe]), trivial⟩
        exact ⟨_, hst⟩
        intro c120
        refine cp_skip ?_
        refine at_block_normal ?_
        refine round_end ((q - 1, r + y1)) ?_ ?_ ?_
        exact ⟨rfl, rfl, rfl, rfl, rfl, rfl, rfl, rfl, kint (by omega), kint (by omega), trivial⟩
        refine ⟨_, hst, ?_, by omega, hdn.1, by omega⟩
        exact knuth_keep he hdn.2
        show q - 1 < q
        omega
        intro s104
        refine stepK_guard rfl rfl rfl rfl rfl rfl hst (does_move rfl rfl) ?_
        refine stepK_guard rfl rfl rfl rfl rfl rfl hst (does_move rfl rfl) ?_
        refine stepK_guard rfl rfl rfl rfl rfl rfl hst (Does.nat (b := q * y0) (does_mul_u64 rfl rfl rfl) (by rw [Nat.mod_eq_of_lt (Nat.lt_of_le_of_lt (Nat.mul_le_mul (show q ≤ 4294967295 by omega) (show y0 ≤ 4294967295 by omega)) (by decide))])) ?_
        refine stepK_guard rfl rfl rfl rfl rfl rfl hst (does_move rfl rfl) ?_
        refine stepK_guard rfl rfl rfl rfl rfl rfl hst (Does.nat (b := 4294967296 * r) (does_mul_u64 (a := 4294967296) rfl rfl rfl) (by rw [Nat.mod_eq_of_lt (by omega)])) ?_
        refine stepK_guard rfl rfl rfl rfl rfl rfl hst (does_move rfl rfl) ?_
        refine stepK_guard rfl rfl rfl rfl rfl rfl hst (Does.nat (b := 4294967296 * r + d0) (does_add_u64 rfl rfl rfl) (by rw [Nat.mod_eq_of_lt (by omega)])) ?_
        refine stepK_guard rfl rfl rfl rfl rfl rfl hst (does_gtr_n rfl rfl rfl) ?_
        refine stepK_d rfl rfl rfl hst (does_pick_false rfl rfl rfl) ?_
        refine znt ?_
        refine cp_if rfl ?_ ?_
        intro c113
        have hdn := knuth_down he (by omega) huY2 hQ (.inr c113)
        refine cp_skip ?_
        refine cp_then ?_
        refine cp_block ?_
        refine zsr ?_
        refine zM rfl hst rfl ?_
        refine stepK_d rfl rfl rfl hst (Does.nat (b := q - 1) (does_sub_u64 (b := 1) rfl rfl rfl) (by have := hdn.2; omega)) ?_
        refine zA rfl hst rfl ?_
        refine zn4 ?_
        refine zM rfl hst rfl ?_
        refine zM rfl hst rfl ?_
        refine stepK_d rfl rfl rfl hst (Does.nat (b := r + y1) (does_add_u64 rfl rfl rfl) (by rw [Nat.mod_eq_of_lt (by omega)])) ?_
        refine zA rfl hst rfl ?_
        refine zn4 ?_
        refine zM rfl hst rfl ?_
        refine stepK_d rfl rfl rfl hst (does_geq_n (b := 4294967296) rfl rfl rfl) ?_
        refine znt ?_
        refine cp_if rfl ?_ ?_
        intro c120
        refine cp_exit ?_
        refine cp_exit_on (by decide) ?_
        refine at_then_exit ?_
        refine cp_exit_here ?_
        have hq1 := knuth_stop2 (knuth_keep he hdn.2) hdn.1 (by omega) (by omega) huY2 (by omega)
        refine join_end (()) ?_ ?_
        exact ⟨rfl, rfl, rfl, rfl, rfl, rfl, rfl, rfl, kint (by rw [hq1, ← hYe]), trivial⟩
        exact ⟨_, hst⟩
        intro c120
        refine cp_skip ?_
        refine at_block_normal ?_
        refine round_end ((q - 1, r + y1)) ?_ ?_ ?_
        exact ⟨rfl, rfl, rfl, rfl, rfl, rfl, rfl, rfl, kint (by omega), kint (by omega), trivial⟩
        refine ⟨_, hst, ?_, by omega, hdn.1, by omega⟩
        exact knuth_keep he hdn.2
        show q - 1 < q
        omega
        intro c113
        refine cp_exit ?_
        refine at_then_exit ?_
        refine at_then_exit ?_
        refine cp_exit_here ?_
        have hq1 := knuth_stop he hQ (by omega) (by omega)
        refine join_end (()) ?_ ?_
        exact ⟨rfl, rfl, rfl, rfl, rfl, rfl, rfl, rfl, kint (by rw [hq1, ← hYe]), trivial⟩
        exact ⟨_, hst⟩
    case d4 =>
      clear hst
      rintro _ w1 ⟨g2, hst⟩
      refine cp_seq ?_
      obtain ⟨Q0, hQ0⟩ : ∃ Q0, Q0 = (u2 * 4294967296 + d0) / Y := ⟨_, rfl⟩
      rw [← hQ0]
      have hQ0l : Q0 < 4294967296 := by rw [hQ0]; exact (Nat.div_lt_iff_lt_mul (by omega)).2 (by omega)
      have hfin := div_two_digits (u := u) (t := t) (Y := Y) (q1 := Q1) (q0 := Q0) (by omega) (by rw [hQ1, hd1]) (by rw [hQ0, hu2e, hd1, hd0])
      rw [div_two hs64 hu ht hlo, hY, Nat.mul_div_mul_right _ _ (Nat.pow_pos (by decide)), Nat.mul_mod_mul_right, ← hY, ← hd1, ← hu2e, ← hd0] at hfin
      refine cp_region ?_
      refine zM rfl hst rfl ?_
      refine stepK_d rfl rfl rfl hst (does_mul_u64 (b := 4294967296) rfl rfl rfl) ?_
      refine zM rfl hst rfl ?_
      refine stepK_d rfl rfl rfl hst (Does.nat (b := (hi * 18446744073709551616 + lo) / y) (does_add_u64 rfl rfl rfl) (by rw [← hfin.1, Nat.mod_eq_of_lt (show Q1 * 4294967296 < 18446744073709551616 by omega), Nat.mod_eq_of_lt (by omega)])) ?_
      refine zM rfl hst rfl ?_
      refine stepK_d rfl rfl rfl hst (does_mul_u64 (b := 4294967296) rfl rfl rfl) ?_
      refine zM rfl hst rfl ?_
      refine stepK_d rfl rfl rfl hst (does_add_u64 rfl rfl rfl) ?_
      refine zM rfl hst rfl ?_
      refine zM rfl hst rfl ?_
      refine stepK_d rfl rfl rfl hst (does_mul_u64 rfl rfl rfl) ?_
      refine stepK_d rfl rfl rfl hst (Does.nat (b := (hi * 18446744073709551616 + lo) % y * 2 ^ s) (does_sub_u64 rfl rfl rfl) (by rw [knuth_rest (by omega) (by omega) hQ0, hfin.2])) ?_
      refine zM rfl hst rfl ?_
      refine stepK_d rfl rfl rfl hst (Does.nat (b := (hi * 18446744073709551616 + lo) % y) (does_shr_u64 rfl rfl rfl) (by rw [Nat.min_eq_left hs64, Nat.mul_div_cancel _ (Nat.pow_pos (by decide))])) ?_
      refine zA rfl hst rfl ?_
      refine zA rfl hst rfl ?_
      refine znt ?_
      refine cp_ret ?_
      refine ret2 rfl rfl rfl hst ?_
      rfl

end Go.Proofs.YtcjhnkmoloiepaaDoor

namespace Go.Proofs.YtcjhnkmoloiepaaDoor
open Go Go.RowKit Go.Proofs.Vc
set_option linter.unusedVariables false
set_option linter.unusedSimpArgs false

set_option maxHeartbeats 1000000 in
theorem num_byWord {g : Mem} {w : World} (hag : Agree g w) {A : Option Addr} {n c N x : Nat} (ha : IsNat g A n N) (hx : x < 18446744073709551616) (h0 : 0 < x) (hn : n ≤ 17592186044415) :
    CallTo Tryd.prog 69 #[.slice A n c, .int .u64 (x : Int)] w (Ret w g fun v g => ∃ A n c, v = .tuple #[.slice A n c, .int .u64 ((N % x : Nat) : Int)] ∧ IsNat g A n (N / x)) := by
  refine CallTo.enter (vs := [.slice A n c, .int .u64 (x : Int)]) zf15 (by kernel_rfl) rfl rfl rfl ?_
  have hst := St.init hag
  obtain ⟨xs, hxs, hxw, hxt, rfl⟩ := ha
  have hlx := hxs.1
  refine zsr ?_
  refine zA rfl hst rfl ?_
  refine zA rfl hst rfl ?_
  refine zn4 ?_
  refine zM rfl hst rfl ?_
  refine stepK_d rfl rfl rfl hst (does_len_slice rfl zf1 rfl) ?_
  refine stepK_make rfl rfl rfl (l := n) (c := n) rfl zf1 zf2 rfl rfl rfl rfl rfl rfl (by omega) (by omega) (by omega) hst ?_
  clear hst
  intro bo w1 hst
  rw [uN_rep] at hst
  refine zA rfl hst rfl ?_
  refine zn4 ?_
  refine zA rfl hst rfl ?_
  refine znq ?_
  refine zsr ?_
  refine zM rfl hst rfl ?_
  refine stepK_d rfl rfl rfl hst (does_len_slice rfl zf1 rfl) ?_
  refine stepK_d rfl rfl rfl hst (Does.int (does_sub rfl rfl rfl) (wrap_i64 (by omega) (by omega))) ?_
  refine zA rfl hst rfl ?_
  refine znt ?_
  refine cp_block ?_
  refine cp_loop (ι := Nat × Nat × List Nat) (fun (k, rest, ws) => [(0, .slice A n c), (1, .int .u64 (x : Int)), (6, .slice (some ⟨bo, 0, none⟩) n n), (7, .int .u64 (rest : Int)), (8, .int .i64 ((k : Int) - 1))]) (fun (k, rest, ws) w1 => ∃ g1, St w [] g g1 [(bo, .cells (uN .u64 ws).toArray 51 (0, 0))] w1 ∧ k ≤ n ∧ rest < x ∧ Words ws ∧ ws.length = n ∧ val (xs.drop k) = val (ws.drop k) * x + rest) (fun (k, rest, ws) => k) (n, 0, List.replicate n 0) ?k2 ?i2 ?r2
  case k2 => exact ⟨rfl, rfl, rfl, rfl, rfl, trivial⟩
  case i2 =>
    exact ⟨_, hst, Nat.le_refl _, h0, Words.rep _, by simp, by rw [List.drop_eq_nil_of_le (by omega), List.drop_eq_nil_of_le (by simp)]; simp [val]⟩
  case r2 =>
    clear hst
    rintro ⟨k, rest, ws⟩ w1 ⟨g1, hst, hk, hr, hws, hwl, hv⟩
    refine cp_seq ?_
    refine zsr ?_
    refine zM rfl hst rfl ?_
    refine stepK_d rfl rfl rfl hst (does_geq rfl rfl rfl) ?_
    refine znt ?_
    refine cp_if rfl ?_ ?_
    intro c16
    refine cp_skip ?_
    refine cp_then ?_
    refine cp_seq ?_
    refine cp_block ?_
    obtain ⟨b1, o1, rfl, hb1⟩ := hxs.some_ (by omega)
    obtain ⟨d, hd⟩ := get_of_lt (ws := xs) (j := k - 1) (by omega)
    have hdl := hxw.get hd
    refine cp_region ?_
    refine zM rfl hst rfl ?_
    refine zM rfl hst rfl ?_
    refine zM rfl hst rfl ?_
    refine zM rfl hst rfl ?_
    refine zM rfl hst rfl ?_
    refine stepK_d rfl rfl rfl hst (does_indexAddr1 (j := (k - 1)) rfl zf1 (by kernel_rfl) rfl rfl (by omega) (by omega)) ?_
    refine stepK_d rfl rfl rfl hst (does_load_g1 rfl (by kernel_rfl) rfl ((hb1.mono hst.le).at_ _ _ hd)) ?_
    refine zM rfl hst rfl ?_
    refine stepK_call rfl rfl rfl rfl rfl hst (bits_Div64 hst.agree hr hdl hx h0) ?_
    clear hst
    intro v3 g3 w3 hst hle3 hcs3 hp3
    obtain rfl := hp3
    refine zM rfl hst rfl ?_
    refine zE rfl hst rfl rfl ?_
    refine zE rfl hst rfl rfl ?_
    refine stepK_d rfl rfl rfl hst (does_indexAddr1 (j := (k - 1)) rfl zf1 (by kernel_rfl) rfl rfl (by omega) (by omega)) ?_
    refine stepK_store 0 rfl rfl rfl rfl rfl rfl zf4 rfl rfl hst rfl (by first | (simp [uN_length]; omega) | simp) ?_
    clear hst
    intro w4 hst
    rw [Nat.zero_add, splice_uN _ _ _ _ (by omega)] at hst
    simp only [List.set_cons_zero] at hst
    refine zA rfl hst rfl ?_
    refine wpK_nil ?_
    refine at_block_normal ?_
    refine cp_then ?_
    refine cp_region ?_
    refine zM rfl hst rfl ?_
    refine stepK_d rfl rfl rfl hst (Does.int (does_sub rfl rfl rfl) (wrap_i64 (by omega) (by omega))) ?_
    refine zA rfl hst rfl ?_
    refine wpK_nil ?_
    refine round_end ((k - 1, (rest * 18446744073709551616 + d) % x, ws.set (k - 1) ((rest * 18446744073709551616 + d) / x))) ?_ ?_ ?_
    exact ⟨rfl, rfl, rfl, rfl, kint (by omega), trivial⟩
    refine ⟨_, hst, by omega, Nat.mod_lt _ h0, hws.set (byWord_lt hr hdl), by simp [hwl], ?_⟩
    rw [drop_set_ge (by omega), val_drop_get hd, show k - 1 + 1 = k by omega]
    exact byWord_step hv rfl rfl
    show k - 1 < k
    omega
    intro c16
    refine cp_exit ?_
    refine at_then_exit ?_
    refine at_then_exit ?_
    refine cp_exit_here ?_
    refine cp_then ?_
    refine zsr ?_
    refine zM rfl hst rfl ?_
    obtain ⟨hst, hle2⟩ := hst.publish 0 rfl
    obtain rfl : k = 0 := by omega
    simp only [List.drop_zero] at hv
    have hdm := div_mod_of hv hr
    refine stepK_call rfl rfl rfl rfl rfl hst (num_trim hst.agree (ws := ws) (by rw [← hwl]; exact SlN.put_uN) hws (by omega) (by omega)) ?_
    clear hst
    intro v5 g5 w5 hst hle5 hcs5 hp5
    obtain ⟨A5, n5, c5, rfl, hn5⟩ := hp5
    refine zM rfl hst rfl ?_
    refine zA rfl hst rfl ?_
    refine zA rfl hst rfl ?_
    refine znt ?_
    refine cp_ret ?_
    refine ret2 rfl rfl rfl hst ?_
    refine ⟨_, _, _, by rw [hdm.2], ?_⟩
    rw [hdm.1]
    assumption

end Go.Proofs.YtcjhnkmoloiepaaDoor

namespace Go.Proofs.YtcjhnkmoloiepaaDoor
open Go Go.RowKit Go.Proofs.Vc
set_option linter.unusedVariables false
set_option linter.unusedSimpArgs false

set_option maxHeartbeats 1000000 in
theorem num_left {g : Mem} {w : World} (hag : Agree g w) {A : Option Addr} {n c N s : Nat} (ha : IsNat g A n N) (hn : n ≤ 8796093022207) (hs : s ≤ 8796093022207) :
    CallTo Tryd.prog 74 #[.slice A n c, .int .i64 (s : Int)] w (Ret w g fun v g => ∃ A n c, v = .slice A n c ∧ IsNat g A n (N * 2 ^ s)) := by
  refine CallTo.enter (vs := [.slice A n c, .int .i64 (s : Int)]) zf16 (by kernel_rfl) rfl rfl rfl ?_
  have hst := St.init hag
  have hz := ha.zero_iff
  obtain ⟨xs, hxs, hxw, hxt, rfl⟩ := ha
  have hlx := hxs.1
  obtain ⟨q, hq⟩ : ∃ q, q = s / 64 := ⟨_, rfl⟩
  obtain ⟨r, hr⟩ : ∃ r, r = s % 64 := ⟨_, rfl⟩
  have hr64 : r < 64 := by omega
  refine zsr ?_
  refine zA rfl hst rfl ?_
  refine znq ?_
  refine zsr ?_
  refine zM rfl hst rfl ?_
  refine stepK_d rfl rfl rfl hst (does_len_slice rfl zf1 rfl) ?_
  refine stepK_d rfl rfl rfl hst (does_eql rfl rfl rfl) ?_
  refine znt ?_
  refine cp_if rfl ?_ ?_
  intro c12
  refine zsr ?_
  refine zA rfl hst rfl ?_
  refine zn5 ?_
  refine ret1 rfl rfl hst ⟨_, _, _, rfl, ?_⟩
  rw [hz.1 (by omega), Nat.zero_mul]
  exact IsNat.nil g
  intro c12
  refine cp_skip ?_
  refine cp_then ?_
  refine cp_seq ?_
  obtain ⟨b1, o1, rfl, hb1⟩ := hxs.some_ (by omega)
  refine cp_region ?_
  refine zM rfl hst rfl ?_
  refine stepK_d rfl rfl rfl hst (Does.nat (b := q) (does_quo_p (b := 64) rfl rfl rfl (by omega) (by omega)) (by rw [hq])) ?_
  refine zM rfl hst rfl ?_
  refine stepK_d rfl rfl rfl hst (Does.nat (b := r) (does_rem_p (b := 64) rfl rfl rfl (by omega)) (by rw [hr])) ?_
  refine stepK_d rfl rfl rfl hst (Does.nat (b := r) (does_conv_n_u64 rfl (by kernel_rfl) (by kernel_rfl) rfl) (by rw [Nat.mod_eq_of_lt (by omega)])) ?_
  refine zA rfl hst rfl ?_
  refine zA rfl hst rfl ?_
  refine zn4 ?_
  refine zM rfl hst rfl ?_
  refine stepK_d rfl rfl rfl hst (does_len_slice rfl zf1 rfl) ?_
  refine zM rfl hst rfl ?_
  refine stepK_d rfl rfl rfl hst (Does.int (does_add rfl rfl rfl) (wrap_i64 (by omega) (by omega))) ?_
  refine stepK_d rfl rfl rfl hst (Does.int (does_add rfl rfl rfl) (wrap_i64 (by omega) (by omega))) ?_
  refine stepK_make rfl rfl rfl (l := n + q + 1) (c := n + q + 1) rfl zf1 zf2 rfl rfl rfl rfl (by omega) (by omega) (by omega) (by omega) (by omega) hst ?_
  clear hst
  intro bo w1 hst
  rw [uN_rep] at hst
  refine zA rfl hst rfl ?_
  refine znq ?_
  refine zsr ?_
  refine zM rfl hst rfl ?_
  refine stepK_d rfl rfl rfl hst (does_len_slice rfl zf1 rfl) ?_
  refine zM rfl hst rfl ?_
  refine znt ?_
  refine cp_block ?_
  refine cp_loop (ι := Nat × Nat × List Nat) (fun (i, cy, ws) => [(0, .slice (some ⟨b1, o1, none⟩) n c), (5, .int .i64 (q : Int)), (6, .int .u64 (r : Int)), (7, .slice (some ⟨bo, 0, none⟩) (n + q + 1) (n + q + 1)), (24, .slice (some ⟨b1, o1, none⟩) n c), (25, .int .i64 (n : Int)), (26, .int .i64 (i : Int))]) (fun (i, cy, ws) w1 => St w [] g g [(bo, .cells (uN .u64 ws).toArray 51 (0, 0))] w1 ∧ i ≤ n ∧ cy < 2 ^ r ∧ cy < 18446744073709551616 ∧ Words ws ∧ ws.length = n + q + 1 ∧ ws[i + q]? = some cy ∧ (∀ j, i + q < j → j < n + q + 1 → ws[j]? = some 0) ∧ val (ws.take (i + q)) + cy * 18446744073709551616 ^ (i + q) = val (xs.take i) * 2 ^ r * 18446744073709551616 ^ q) (fun (i, cy, ws) => n - i) (0, 0, List.replicate (n + q + 1) 0) ?k2 ?i2 ?r2
  case k2 => exact ⟨rfl, rfl, rfl, rfl, rfl, rfl, rfl, trivial⟩
  case i2 =>
    exact ⟨hst, Nat.zero_le _, Nat.pow_pos (by decide), by decide, Words.rep _, by simp, rep_get (by omega), fun j h1 h2 => rep_get h2, by simp [val, val_rep]⟩
  case r2 =>
    clear hst
    rintro ⟨i, cy, ws⟩ w1 ⟨hst, hi, hcy, hcyB, hws, hwl, hwi, hw0, hv⟩
    refine zsr ?_
    refine stepK_d rfl rfl rfl hst (does_lss rfl rfl rfl) ?_
    refine znq ?_
    refine cp_if rfl ?_ ?_
    intro c27
    refine cp_skip ?_
    refine cp_then ?_
    refine cp_seq ?_
    refine cp_block ?_
    refine cp_seq ?_
    obtain ⟨x, hx⟩ := get_of_lt (ws := xs) (j := i) (by omega)
    have hxlt := hxw.get hx
    refine cp_region ?_
    refine zM rfl hst rfl ?_
    refine stepK_d rfl rfl rfl hst (does_indexAddr1 rfl zf1 (by kernel_rfl) rfl rfl rfl (by omega)) ?_
    refine stepK_d rfl rfl rfl hst (does_load_g1 rfl (by kernel_rfl) rfl (hb1.at_ _ _ hx)) ?_
    refine zA rfl hst rfl ?_
    refine zA rfl hst rfl ?_
    refine zn4 ?_
    refine zM rfl hst rfl ?_
    refine zM rfl hst rfl ?_
    refine zM rfl hst rfl ?_
    refine stepK_d rfl rfl rfl hst (Does.int (does_add rfl rfl rfl) (wrap_i64 (by omega) (by omega))) ?_
    refine stepK_d rfl rfl rfl hst (does_indexAddr1 (j := (i + q)) rfl zf1 (by kernel_rfl) rfl rfl (by omega) (by omega)) ?_
    refine stepK_d rfl rfl rfl hst (does_load_own1 0 rfl (by kernel_rfl) rfl rfl (uN_arr_get (by rw [Nat.zero_add]; exact hwi))) ?_
    refine zM rfl hst rfl ?_
    refine zM rfl hst rfl ?_
    refine stepK_d rfl rfl rfl hst (Does.nat (b := x * 2 ^ r % 18446744073709551616) (does_shl_u64 rfl rfl rfl) (by rw [Nat.min_eq_left (by omega)])) ?_
    have hor : cy ||| x * 2 ^ r % 18446744073709551616 = cy + x * 2 ^ r % 18446744073709551616 := by rw [shl_lo (by omega), or_low hcy]
    have hnew : cy + x * 2 ^ r % 18446744073709551616 < 18446744073709551616 := by
      rw [shl_lo (by omega)]
      have h1 : x % 2 ^ (64 - r) * 2 ^ r + 2 ^ r ≤ 18446744073709551616 := by
        rw [← Nat.succ_mul, ← pow64 r (by omega), Nat.mul_comm (2 ^ r)]
        exact Nat.mul_le_mul_right _ (Nat.mod_lt _ (Nat.pow_pos (by decide)))
      omega
    have hx2 : x / 2 ^ (64 - r) < 2 ^ r := (Nat.div_lt_iff_lt_mul (Nat.pow_pos (by decide))).2 (by rw [pow64 r (by omega)]; exact hxlt)
    refine stepK_d rfl rfl rfl hst (Does.nat (b := cy + x * 2 ^ r % 18446744073709551616) (does_or_u64 rfl rfl rfl hcyB (Nat.mod_lt _ (by decide))) (by rw [hor])) ?_
    refine stepK_d rfl rfl rfl hst (does_indexAddr1 (j := (i + q)) rfl zf1 (by kernel_rfl) rfl rfl (by omega) (by omega)) ?_
    refine stepK_store 0 rfl rfl rfl rfl rfl rfl zf4 rfl rfl hst rfl (by first | (simp [uN_length]; omega) | simp) ?_
    clear hst
    intro w3 hst
    rw [Nat.zero_add, splice_uN _ _ _ _ (by omega)] at hst
    simp only [List.set_cons_zero] at hst
    refine zn4 ?_
    refine zM rfl hst rfl ?_
    refine stepK_d rfl rfl rfl hst (does_gtr_n (b := 0) rfl rfl rfl) ?_
    refine znt ?_
    refine cp_if rfl ?_ ?_
    intro c43
    refine cp_region ?_
    refine zM rfl hst rfl ?_
    refine zM rfl hst rfl ?_
    refine zM rfl hst rfl ?_
    refine stepK_d rfl rfl rfl hst (Does.int (does_add rfl rfl rfl) (wrap_i64 (by omega) (by omega))) ?_
    refine stepK_d rfl rfl rfl hst (Does.int (does_add rfl rfl rfl) (wrap_i64 (by omega) (by omega))) ?_
    refine zM rfl hst rfl ?_
    refine zM rfl hst rfl ?_
    refine stepK_d rfl rfl rfl hst (Does.nat (b := 64 - r) (does_sub_u64 (a := 64) rfl rfl rfl) (by omega)) ?_
    refine stepK_d rfl rfl rfl hst (Does.nat (b := x / 2 ^ (64 - r)) (does_shr_u64 rfl rfl rfl) (by rw [Nat.min_eq_left (by omega)])) ?_
    refine stepK_d rfl rfl rfl hst (does_indexAddr1 (j := (i + q + 1)) rfl zf1 (by kernel_rfl) rfl rfl (by omega) (by omega)) ?_
    refine stepK_store 0 rfl rfl rfl rfl rfl rfl zf4 rfl rfl hst rfl (by first | (simp [uN_length]; omega) | simp) ?_
    clear hst
    intro w4 hst
    rw [Nat.zero_add, splice_uN _ _ _ _ (by simp; omega)] at hst
    simp only [List.set_cons_zero] at hst
    refine wpK_nil ?_
    refine at_block_normal ?_
    refine cp_then ?_
    refine cp_region ?_
    refine stepK_d rfl rfl rfl hst (Does.int (does_add rfl rfl rfl) (wrap_i64 (by omega) (by omega))) ?_
    refine zM rfl hst rfl ?_
    refine wpK_nil ?_
    refine round_end ((i + 1, x / 2 ^ (64 - r), (ws.set (i + q) (cy + x * 2 ^ r % 18446744073709551616)).set (i + q + 1) (x / 2 ^ (64 - r)))) ?_ ?_ ?_
    exact ⟨rfl, rfl, rfl, rfl, rfl, rfl, rfl, trivial⟩
    refine ⟨hst, by omega, hx2, Nat.lt_of_le_of_lt (Nat.div_le_self _ _) hxlt, (hws.set hnew).set (Nat.lt_of_le_of_lt (Nat.div_le_self _ _) hxlt), by simp [hwl], ?_, ?_, ?_⟩
    rw [show i + 1 + q = i + q + 1 by omega, List.getElem?_set_self (by simp; omega)]
    intro j h1 h2
    rw [List.getElem?_set_ne (by omega), List.getElem?_set_ne (by omega)]
    exact hw0 j (by omega) h2
    rw [show i + 1 + q = i + q + 1 by omega, take_set_le, val_take_set (by omega), val_take_succ hx, pow_succ64]
    exact left_step (by omega) hv (Nat.pow_add ..)
    show n - (i + 1) < n - i
    omega
    intro c43
    refine cp_skip ?_
    refine at_block_normal ?_
    refine cp_then ?_
    refine cp_region ?_
    refine stepK_d rfl rfl rfl hst (Does.int (does_add rfl rfl rfl) (wrap_i64 (by omega) (by omega))) ?_
    refine zM rfl hst rfl ?_
    refine wpK_nil ?_
    refine round_end ((i + 1, 0, ws.set (i + q) (cy + x * 2 ^ r % 18446744073709551616))) ?_ ?_ ?_
    exact ⟨rfl, rfl, rfl, rfl, rfl, rfl, rfl, trivial⟩
    have hr0 : r = 0 := by omega
    refine ⟨hst, by omega, Nat.pow_pos (by decide), by decide, hws.set hnew, by simp [hwl], ?_, ?_, ?_⟩
    rw [show i + 1 + q = i + q + 1 by omega, List.getElem?_set_ne (by omega)]
    exact hw0 _ (by omega) (by omega)
    intro j h1 h2
    rw [List.getElem?_set_ne (by omega)]
    exact hw0 j (by omega) h2
    have h1 := left_step (x := x) (by omega) hv (Nat.pow_add ..)
    rw [show i + 1 + q = i + q + 1 by omega, val_take_set (by omega), val_take_succ hx, pow_succ64, ← h1, hr0, Nat.div_eq_of_lt hxlt]
    show n - (i + 1) < n - i
    omega
    intro c27
    refine cp_exit ?_
    refine at_then_exit ?_
    refine at_then_exit ?_
    refine cp_exit_here ?_
    refine cp_then ?_
    refine zsr ?_
    refine zM rfl hst rfl ?_
    obtain ⟨hst, hle2⟩ := hst.publish 0 rfl
    obtain rfl : n = i := by omega
    have hval : val ws = val xs * 2 ^ s := by
      rw [← val_all (ws := ws) (n := n + q + 1) (by omega), val_take_succ hwi, Nat.mul_comm _ cy, hv, val_all (ws := xs) (by omega), Nat.mul_assoc]
      congr 1
      rw [show (18446744073709551616 : Nat) = 2 ^ 64 by decide, ← Nat.pow_mul, ← Nat.pow_add]
      congr 1
      omega
    refine stepK_call rfl rfl rfl rfl rfl hst (num_trim hst.agree (ws := ws) (by rw [← hwl]; exact SlN.put_uN) hws (by omega) (by omega)) ?_
    clear hst
    intro v5 g5 w5 hst hle5 hcs5 hp5
    obtain ⟨A5, n5, c5, rfl, hn5⟩ := hp5
    refine zA rfl hst rfl ?_
    refine znt ?_
    refine cp_ret ?_
    refine ret1 rfl rfl hst ?_
    refine ⟨_, _, _, rfl, ?_⟩
    rw [← hval]
    assumption

end Go.Proofs.YtcjhnkmoloiepaaDoor

namespace Go.Proofs.YtcjhnkmoloiepaaDoor
open Go Go.RowKit Go.Proofs.Vc
set_option linter.unusedVariables false
set_option linter.unusedSimpArgs false

set_option maxHeartbeats 1000000 in
theorem num_right {g : Mem} {w : World} (hag : Agree g w) {A : Option Addr} {n c N s : Nat} (ha : IsNat g A n N) (hn : n ≤ 8796093022207) (hs : s ≤ 9223372036854775807) :
    CallTo Tryd.prog 78 #[.slice A n c, .int .i64 (s : Int)] w (Ret w g fun v g => ∃ A n c, v = .slice A n c ∧ IsNat g A n (N / 2 ^ s)) := by
  refine CallTo.enter (vs := [.slice A n c, .int .i64 (s : Int)]) zf17 (by kernel_rfl) rfl rfl rfl ?_
  have hst := St.init hag
  have hz := ha.lt
  obtain ⟨xs, hxs, hxw, hxt, rfl⟩ := ha
  have hlx := hxs.1
  obtain ⟨q, hq⟩ : ∃ q, q = s / 64 := ⟨_, rfl⟩
  obtain ⟨r, hr⟩ : ∃ r, r = s % 64 := ⟨_, rfl⟩
  have hr64 : r < 64 := by omega
  refine zsr ?_
  refine zA rfl hst rfl ?_
  refine zn4 ?_
  refine zM rfl hst rfl ?_
  refine stepK_d rfl rfl rfl hst (Does.nat (b := q) (does_quo_p (b := 64) rfl rfl rfl (by omega) (by omega)) (by rw [hq])) ?_
  refine zM rfl hst rfl ?_
  refine stepK_d rfl rfl rfl hst (Does.nat (b := r) (does_rem_p (b := 64) rfl rfl rfl (by omega)) (by rw [hr])) ?_
  refine stepK_d rfl rfl rfl hst (Does.nat (b := r) (does_conv_n_u64 rfl (by kernel_rfl) (by kernel_rfl) rfl) (by rw [Nat.mod_eq_of_lt (by omega)])) ?_
  refine zA rfl hst rfl ?_
  refine zA rfl hst rfl ?_
  refine znq ?_
  refine zsr ?_
  refine zM rfl hst rfl ?_
  refine zM rfl hst rfl ?_
  refine stepK_d rfl rfl rfl hst (does_len_slice rfl zf1 rfl) ?_
  refine stepK_d rfl rfl rfl hst (does_geq rfl rfl rfl) ?_
  refine znt ?_
  refine cp_if rfl ?_ ?_
  intro c17
  refine zsr ?_
  refine zA rfl hst rfl ?_
  refine zn5 ?_
  refine ret1 rfl rfl hst ⟨_, _, _, rfl, ?_⟩
  rw [Nat.div_eq_of_lt]
  exact IsNat.nil g
  refine Nat.lt_of_lt_of_le hz ?_
  rw [show (18446744073709551616 : Nat) = 2 ^ 64 by decide, ← Nat.pow_mul]
  exact Nat.pow_le_pow_right (by decide) (by omega)
  intro c17
  refine cp_skip ?_
  refine cp_then ?_
  refine cp_seq ?_
  obtain ⟨b1, o1, rfl, hb1⟩ := hxs.some_ (by omega)
  obtain ⟨m, hm⟩ : ∃ m, m = n - q := ⟨_, rfl⟩
  refine cp_region ?_
  refine zM rfl hst rfl ?_
  refine stepK_d rfl rfl rfl hst (does_len_slice rfl zf1 rfl) ?_
  refine zM rfl hst rfl ?_
  refine stepK_d rfl rfl rfl hst (Does.int (does_sub rfl rfl rfl) (wrap_i64 (by omega) (by omega))) ?_
  refine stepK_make rfl rfl rfl (l := m) (c := m) rfl zf1 zf2 rfl rfl rfl rfl (by omega) (by omega) (by omega) (by omega) (by omega) hst ?_
  clear hst
  intro bo w1 hst
  rw [uN_rep] at hst
  refine zA rfl hst rfl ?_
  refine znq ?_
  refine zsr ?_
  refine zM rfl hst rfl ?_
  refine stepK_d rfl rfl rfl hst (does_len_slice rfl zf1 rfl) ?_
  refine zM rfl hst rfl ?_
  refine znt ?_
  refine cp_block ?_
  refine cp_loop (ι := Nat × List Nat) (fun (i, ws) => [(0, .slice (some ⟨b1, o1, none⟩) n c), (5, .int .i64 (q : Int)), (6, .int .u64 (r : Int)), (7, .slice (some ⟨bo, 0, none⟩) m m), (24, .int .i64 (m : Int)), (25, .int .i64 (i : Int))]) (fun (i, ws) w1 => ∃ g1, St w [] g g1 [(bo, .cells (uN .u64 ws).toArray 51 (0, 0))] w1 ∧ i ≤ m ∧ Words ws ∧ ws.length = m ∧ val (ws.take i) = (val (xs.drop q) / 2 ^ r) % 18446744073709551616 ^ i) (fun (i, ws) => m - i) (0, List.replicate m 0) ?k2 ?i2 ?r2
  case k2 => exact ⟨rfl, rfl, rfl, rfl, rfl, rfl, trivial⟩
  case i2 =>
    exact ⟨_, hst, Nat.zero_le _, Words.rep _, by simp, by simp [val, Nat.mod_one]⟩
  case r2 =>
    clear hst
    rintro ⟨i, ws⟩ w1 ⟨g1, hst, hi, hws, hwl, hv⟩
    refine zsr ?_
    refine stepK_d rfl rfl rfl hst (does_lss rfl rfl rfl) ?_
    refine znq ?_
    refine cp_if rfl ?_ ?_
    intro c26
    refine cp_skip ?_
    refine cp_then ?_
    refine cp_seq ?_
    refine cp_block ?_
    refine zsr ?_
    refine zM rfl hst rfl ?_
    refine zA rfl hst rfl ?_
    refine znq ?_
    obtain ⟨x, hx⟩ := get_of_lt (ws := xs) (j := i + q) (by omega)
    have hxlt := hxw.get hx
    have hx2 : x / 2 ^ r < 18446744073709551616 := Nat.lt_of_le_of_lt (Nat.div_le_self _ _) hxlt
    have hwd : val (xs.drop q) / 2 ^ r / 18446744073709551616 ^ i = val (xs.drop (i + q)) / 2 ^ r := by
      rw [Nat.div_div_eq_div_mul, Nat.mul_comm, ← Nat.div_div_eq_div_mul, val_div_pow (hxw.drop q) (by simp; omega), List.drop_drop, Nat.add_comm q i]
    refine cp_region ?_
    refine zM rfl hst rfl ?_
    refine zM rfl hst rfl ?_
    refine zM rfl hst rfl ?_
    refine zM rfl hst rfl ?_
    refine zM rfl hst rfl ?_
    refine stepK_d rfl rfl rfl hst (Does.int (does_add rfl rfl rfl) (wrap_i64 (by omega) (by omega))) ?_
    refine stepK_d rfl rfl rfl hst (does_indexAddr1 (j := (i + q)) rfl zf1 (by kernel_rfl) rfl rfl (by omega) (by omega)) ?_
    refine stepK_d rfl rfl rfl hst (does_load_g1 rfl (by kernel_rfl) rfl ((hb1.mono hst.le).at_ _ _ hx)) ?_
    refine zM rfl hst rfl ?_
    refine stepK_d rfl rfl rfl hst (Does.nat (b := x / 2 ^ r) (does_shr_u64 rfl rfl rfl) (by rw [Nat.min_eq_left (by omega)])) ?_
    refine stepK_d rfl rfl rfl hst (does_indexAddr1 rfl zf1 (by kernel_rfl) rfl rfl rfl (by omega)) ?_
    refine stepK_store 0 rfl rfl rfl rfl rfl rfl zf4 rfl rfl hst rfl (by first | (simp [uN_length]; omega) | simp) ?_
    clear hst
    intro w3 hst
    rw [Nat.zero_add, splice_uN _ _ _ _ (by omega)] at hst
    simp only [List.set_cons_zero] at hst
    refine zn4 ?_
    refine zM rfl hst rfl ?_
    refine stepK_d rfl rfl rfl hst (does_gtr_n (b := 0) rfl rfl rfl) ?_
    refine zM rfl hst rfl ?_
    refine wpK_split (t := 41) rfl ?_ ?_
    intro s41
    refine stepK_guard rfl rfl rfl rfl rfl rfl hst (does_move rfl rfl) ?_
    refine stepK_guard rfl rfl rfl rfl rfl rfl hst (does_move rfl rfl) ?_
    refine stepK_guard rfl rfl rfl rfl rfl rfl hst (Does.int (does_add rfl rfl rfl) (wrap_i64 (by omega) (by omega))) ?_
    refine stepK_guard rfl rfl rfl rfl rfl rfl hst (Does.int (does_add rfl rfl rfl) (wrap_i64 (by omega) (by omega))) ?_
    refine stepK_guard rfl rfl rfl rfl rfl rfl hst (does_move rfl rfl) ?_
    refine stepK_guard rfl rfl rfl rfl rfl rfl hst (does_len_slice rfl zf1 rfl) ?_
    refine stepK_guard rfl rfl rfl rfl rfl rfl hst (does_lss rfl rfl rfl) ?_
    refine stepK_d rfl rfl rfl hst (does_pick_true rfl rfl rfl) ?_
    refine znt ?_
    refine cp_if rfl ?_ ?_
    intro c49
    obtain ⟨y, hy⟩ := get_of_lt (ws := xs) (j := i + 1 + q) (by omega)
    have hylt := hxw.get hy
    have hwi : (ws.set i (x / 2 ^ r))[i]? = some (x / 2 ^ r) := by rw [List.getElem?_set_self (by omega)]
    have h5 := shl_lo (x := y) (s := 64 - r) (by omega)
    rw [show 64 - (64 - r) = r by omega] at h5
    have hor : x / 2 ^ r ||| y * 2 ^ (64 - r) % 18446744073709551616 = x / 2 ^ r + y * 2 ^ (64 - r) % 18446744073709551616 := by
      rw [h5, or_low ((Nat.div_lt_iff_lt_mul (Nat.pow_pos (by decide))).2 (by rw [Nat.mul_comm, pow64 r (by omega)]; exact hxlt))]
    have hnew : x / 2 ^ r + y * 2 ^ (64 - r) % 18446744073709551616 < 18446744073709551616 := by
      have h6 : x / 2 ^ r < 2 ^ (64 - r) := (Nat.div_lt_iff_lt_mul (Nat.pow_pos (by decide))).2 (by rw [Nat.mul_comm, pow64 r (by omega)]; exact hxlt)
      have h7 : y % 2 ^ r * 2 ^ (64 - r) + 2 ^ (64 - r) ≤ 18446744073709551616 := by
        rw [← Nat.succ_mul, ← pow64 r (by omega)]
        exact Nat.mul_le_mul_right _ (Nat.mod_lt _ (Nat.pow_pos (by decide)))
      omega
    refine cp_drawn (by kernel_rfl) 16 [(0, true), (1, true), (2, true), (3, true), (4, true), (5, true), (6, true), (7, true), (8, true), (9, true), (10, true), (11, true), (12, true), (13, true), (14, true), (15, true)] _ rfl (by kernel_rfl) (by kernel_rfl) (by kernel_rfl) (fun _ _ _ _ _ h => h) _ (hst.drew) ?_
    have hst0 := hst.drew
    clear hst
    have hst := hst0
    refine stepD_d rfl rfl rfl rfl (does_move rfl rfl) ?_
    refine stepD_d rfl rfl rfl rfl (does_move rfl rfl) ?_
    refine stepD_d rfl rfl rfl rfl (does_indexAddr1 rfl zf1 (by kernel_rfl) rfl rfl rfl (by omega)) ?_
    refine stepD_d rfl rfl rfl rfl (does_load_own1 0 rfl (by kernel_rfl) rfl rfl (uN_arr_get (by rw [Nat.zero_add]; exact hwi))) ?_
    refine stepD_d rfl rfl rfl rfl (does_move rfl rfl) ?_
    refine stepD_d rfl rfl rfl rfl (does_move rfl rfl) ?_
    refine stepD_d rfl rfl rfl rfl (does_move rfl rfl) ?_
    refine stepD_d rfl rfl rfl rfl (Does.int (does_add rfl rfl rfl) (wrap_i64 (by omega) (by omega))) ?_
    refine stepD_d rfl rfl rfl rfl (Does.int (does_add rfl rfl rfl) (wrap_i64 (by omega) (by omega))) ?_
    refine stepD_d rfl rfl rfl rfl (does_indexAddr1 (j := (i + 1 + q)) rfl zf1 (by kernel_rfl) rfl rfl (by omega) (by omega)) ?_
    refine stepD_d rfl rfl rfl rfl (does_load_g1 rfl (by kernel_rfl) rfl ((hb1.mono hst.le).at_ _ _ hy)) ?_
    refine stepD_d rfl rfl rfl rfl (does_move rfl rfl) ?_
    refine stepD_d rfl rfl rfl rfl (Does.nat (b := 64 - r) (does_sub_u64 (a := 64) rfl rfl rfl) (by omega)) ?_
    refine stepD_d rfl rfl rfl rfl (Does.nat (b := y * 2 ^ (64 - r) % 18446744073709551616) (does_shl_u64 rfl rfl rfl) (by rw [Nat.min_eq_left (by omega)])) ?_
    refine stepD_d rfl rfl rfl rfl (Does.nat (b := x / 2 ^ r + y * 2 ^ (64 - r) % 18446744073709551616) (does_or_u64 rfl rfl rfl hx2 (Nat.mod_lt _ (by decide))) (by rw [hor])) ?_
    refine stepD_d rfl rfl rfl rfl (does_indexAddr1 rfl zf1 (by kernel_rfl) rfl rfl rfl (by omega)) ?_
    refine stepD_tail ?_
    refine stepK_store 0 rfl rfl rfl rfl rfl rfl zf4 rfl rfl hst rfl (by first | (simp [uN_length]; omega) | simp) ?_
    clear hst
    intro w4 hst
    rw [Nat.zero_add, splice_uN _ _ _ _ (by simp; omega)] at hst
    simp only [List.set_cons_zero] at hst
    refine wpK_nil ?_
    refine at_block_normal ?_
    refine cp_then ?_
    refine cp_region ?_
    refine stepK_d rfl rfl rfl hst (Does.int (does_add rfl rfl rfl) (wrap_i64 (by omega) (by omega))) ?_
    refine zM rfl hst rfl ?_
    refine wpK_nil ?_
    refine round_end ((i + 1, (ws.set i (x / 2 ^ r)).set i (x / 2 ^ r + y * 2 ^ (64 - r) % 18446744073709551616))) ?_ ?_ ?_
    exact ⟨rfl, rfl, rfl, rfl, rfl, rfl, trivial⟩
    refine ⟨_, hst, by omega, (hws.set hx2).set hnew, by simp [hwl], ?_⟩
    rw [val_take_set (by simp; omega), take_set_le, hv, mod_pow_step, hwd, val_drop_get hx, show i + q + 1 = i + 1 + q by omega, val_drop_get hy, right_word hr64 hxlt]
    show m - (i + 1) < m - i
    omega
    intro c49
    refine cp_skip ?_
    refine at_block_normal ?_
    refine cp_then ?_
    refine cp_region ?_
    refine stepK_d rfl rfl rfl hst (Does.int (does_add rfl rfl rfl) (wrap_i64 (by omega) (by omega))) ?_
    refine zM rfl hst rfl ?_
    refine wpK_nil ?_
    refine round_end ((i + 1, ws.set i (x / 2 ^ r))) ?_ ?_ ?_
    exact ⟨rfl, rfl, rfl, rfl, rfl, rfl, trivial⟩
    refine ⟨_, hst, by omega, hws.set hx2, by simp [hwl], ?_⟩
    rw [val_take_set (by omega), hv, mod_pow_step, hwd, val_drop_get hx, List.drop_eq_nil_of_le (show xs.length ≤ i + q + 1 by omega)]
    simp only [val, Nat.mul_zero, Nat.add_zero]
    rw [Nat.mod_eq_of_lt hx2]
    show m - (i + 1) < m - i
    omega
    intro s41
    refine stepK_pass rfl rfl rfl rfl rfl rfl rfl ?_
    refine stepK_pass rfl rfl rfl rfl rfl rfl rfl ?_
    refine stepK_pass rfl rfl rfl rfl rfl rfl rfl ?_
    refine stepK_pass rfl rfl rfl rfl rfl rfl rfl ?_
    refine stepK_pass rfl rfl rfl rfl rfl rfl rfl ?_
    refine stepK_pass rfl rfl rfl rfl rfl rfl rfl ?_
    refine stepK_pass rfl rfl rfl rfl rfl rfl rfl ?_
    refine stepK_d rfl rfl rfl hst (does_pick_false rfl rfl rfl) ?_
    refine znt ?_
    refine cp_cond_false rfl ?_
    refine cp_skip ?_
    refine at_block_normal ?_
    refine cp_then ?_
    refine cp_region ?_
    refine stepK_d rfl rfl rfl hst (Does.int (does_add rfl rfl rfl) (wrap_i64 (by omega) (by omega))) ?_
    refine zM rfl hst rfl ?_
    refine wpK_nil ?_
    refine round_end ((i + 1, ws.set i (x / 2 ^ r))) ?_ ?_ ?_
    exact ⟨rfl, rfl, rfl, rfl, rfl, rfl, trivial⟩
    have hr0 : r = 0 := by omega
    refine ⟨_, hst, by omega, hws.set hx2, by simp [hwl], ?_⟩
    rw [val_take_set (by omega), hv, mod_pow_step, hwd, val_drop_get hx, hr0, Nat.pow_zero]
    simp only [Nat.div_one]
    rw [Nat.add_mul_mod_self_left, Nat.mod_eq_of_lt hxlt]
    show m - (i + 1) < m - i
    omega
    intro c26
    refine cp_exit ?_
    refine at_then_exit ?_
    refine at_then_exit ?_
    refine cp_exit_here ?_
    refine cp_then ?_
    refine zsr ?_
    refine zM rfl hst rfl ?_
    obtain ⟨hst, hle2⟩ := hst.publish 0 rfl
    obtain rfl : m = i := by omega
    have hval : val ws = val xs / 2 ^ s := by
      rw [val_all (ws := ws) (by omega)] at hv
      have h1 := val_lt (hxw.drop q)
      rw [List.length_drop, hlx, ← hm] at h1
      rw [hv, Nat.mod_eq_of_lt (Nat.lt_of_le_of_lt (Nat.div_le_self _ _) h1), ← val_div_pow hxw (by omega), Nat.div_div_eq_div_mul]
      congr 1
      rw [show (18446744073709551616 : Nat) = 2 ^ 64 by decide, ← Nat.pow_mul, ← Nat.pow_add]
      congr 1
      omega
    refine stepK_call rfl rfl rfl rfl rfl hst (num_trim hst.agree (ws := ws) (by rw [← hwl]; exact SlN.put_uN) hws (by omega) (by omega)) ?_
    clear hst
    intro v5 g5 w5 hst hle5 hcs5 hp5
    obtain ⟨A5, n5, c5, rfl, hn5⟩ := hp5
    refine zA rfl hst rfl ?_
    refine znt ?_
    refine cp_ret ?_
    refine ret1 rfl rfl hst ?_
    refine ⟨_, _, _, rfl, ?_⟩
    rw [← hval]
    assumption

end Go.Proofs.YtcjhnkmoloiepaaDoor

namespace Go.Proofs.YtcjhnkmoloiepaaDoor
open Go Go.RowKit Go.Proofs.Vc
set_option linter.unusedVariables false
set_option linter.unusedSimpArgs false

set_option maxHeartbeats 1000000 in
theorem num_guess {g : Mem} {w : World} (hag : Agree g w) {u2 u1 u0 v1 v0 : Nat} (h2 : u2 < 18446744073709551616) (h1 : u1 < 18446744073709551616) (h0 : u0 < 18446744073709551616) (hv1 : v1 < 18446744073709551616) (hv0 : v0 < 18446744073709551616) (hp : 0 < v1) :
    CallTo Tryd.prog 75 #[.int .u64 (u2 : Int), .int .u64 (u1 : Int), .int .u64 (u0 : Int), .int .u64 (v1 : Int), .int .u64 (v0 : Int)] w (Ret w g fun v g => ∃ d : Nat, v = .int .u64 (d : Int) ∧ d < 18446744073709551616 ∧ ∀ q : Nat, q < 18446744073709551616 → q * (v1 * 18446744073709551616 + v0) ≤ (u2 * 18446744073709551616 + u1) * 18446744073709551616 + u0 → q ≤ d) := by
  refine CallTo.enter (vs := [.int .u64 (u2 : Int), .int .u64 (u1 : Int), .int .u64 (u0 : Int), .int .u64 (v1 : Int), .int .u64 (v0 : Int)]) zf18 (by kernel_rfl) rfl rfl rfl ?_
  have hst := St.init hag
  refine zsr ?_
  refine zA rfl hst rfl ?_
  refine znq ?_
  refine zsr ?_
  refine zM rfl hst rfl ?_
  refine zM rfl hst rfl ?_
  refine stepK_d rfl rfl rfl hst (does_geq_n rfl rfl rfl) ?_
  refine znt ?_
  refine cp_if rfl ?_ ?_
  intro c18
  refine zsr ?_
  refine zA rfl hst rfl ?_
  refine zn5 ?_
  refine ret1 rfl rfl hst ?_
  exact ⟨18446744073709551615, rfl, by decide, fun q hq _ => by omega⟩
  intro c18
  refine zk4 ?_
  refine zM rfl hst rfl ?_
  refine zM rfl hst rfl ?_
  refine zM rfl hst rfl ?_
  refine stepK_call rfl rfl rfl rfl rfl hst (bits_Div64 hst.agree (by omega) h1 hv1 hp) ?_
  clear hst
  intro v1 g1 w1 hst hle1 hcs1 hp1
  obtain rfl := hp1
  refine zM rfl hst rfl ?_
  refine zE rfl hst rfl rfl ?_
  refine zE rfl hst rfl rfl ?_
  refine zA rfl hst rfl ?_
  refine zA rfl hst rfl ?_
  refine znt ?_
  refine cp_block ?_
  refine cp_loop (ι := Nat × Nat) (fun (q, r) => [(0, .int .u64 (u2 : Int)), (1, .int .u64 (u1 : Int)), (2, .int .u64 (u0 : Int)), (3, .int .u64 (v1 : Int)), (4, .int .u64 (v0 : Int)), (11, .int .u64 (q : Int)), (12, .int .u64 (r : Int))]) (fun (q, r) w1 => ∃ g1, St w [] g g1 [] w1 ∧ q < 18446744073709551616 ∧ r < 18446744073709551616 ∧ q * v1 + r = u2 * 18446744073709551616 + u1 ∧ ∀ p : Nat, p * (v1 * 18446744073709551616 + v0) ≤ (u2 * 18446744073709551616 + u1) * 18446744073709551616 + u0 → p ≤ q) (fun (q, r) => q) ((u2 * 18446744073709551616 + u1) / v1, (u2 * 18446744073709551616 + u1) % v1) ?k2 ?i2 ?r2
  case k2 => exact ⟨rfl, rfl, rfl, rfl, rfl, rfl, rfl, trivial⟩
  case i2 =>
    exact ⟨_, hst, byWord_lt (by omega) h1, Nat.lt_trans (Nat.mod_lt _ hp) hv1, Nat.div_add_mod' .., fun p h => guess_start hp h0 h⟩
  case r2 =>
    clear hst
    rintro ⟨q, r⟩ w1 ⟨g1, hst, hq, hr, he, hmax⟩
    refine cp_block ?_
    refine zsr ?_
    refine zM rfl hst rfl ?_
    refine zM rfl hst rfl ?_
    refine stepK_call rfl rfl rfl rfl rfl hst (bits_Mul64 hst.agree (by first | assumption | rfl | omega | (simp; done)) (by first | assumption | rfl | omega | (simp; done))) ?_
    clear hst
    intro v3 g3 w3 hst hle3 hcs3 hp3
    obtain rfl := hp3
    refine zM rfl hst rfl ?_
    refine zE rfl hst rfl rfl ?_
    refine zE rfl hst rfl rfl ?_
    refine zA rfl hst rfl ?_
    refine zA rfl hst rfl ?_
    refine znq ?_
    refine cp_seq ?_
    have hbig := mul_div_mod64 q v0
    obtain ⟨hi, hhi⟩ : ∃ hi, hi = q * v0 / 18446744073709551616 := ⟨_, rfl⟩
    obtain ⟨lo, hlo⟩ : ∃ lo, lo = q * v0 % 18446744073709551616 := ⟨_, rfl⟩
    rw [← hhi, ← hlo] at hbig ⊢
    have hlol : lo < 18446744073709551616 := by rw [hlo]; exact Nat.mod_lt _ (by decide)
    clear hhi hlo
    refine cp_region ?_
    refine zM rfl hst rfl ?_
    refine zM rfl hst rfl ?_
    refine stepK_d rfl rfl rfl hst (does_lss_n rfl rfl rfl) ?_
    refine zM rfl hst rfl ?_
    refine wpK_split (t := 35) rfl ?_ ?_
    intro s35
    refine stepK_pass rfl rfl rfl rfl rfl rfl rfl ?_
    refine stepK_pass rfl rfl rfl rfl rfl rfl rfl ?_
    refine stepK_pass rfl rfl rfl rfl rfl rfl rfl ?_
    refine stepK_pass rfl rfl rfl rfl rfl rfl rfl ?_
    refine stepK_passU rfl rfl rfl rfl rfl rfl ?_
    refine stepK_passU rfl rfl rfl rfl rfl rfl ?_
    refine stepK_passU rfl rfl rfl rfl rfl rfl ?_
    refine stepK_pass rfl rfl rfl rfl rfl rfl rfl ?_
    refine stepK_d rfl rfl rfl hst (does_pick_true rfl rfl rfl) ?_
    refine znt ?_
    refine cp_cond_true rfl ?_
    refine zsr ?_
    refine zM rfl hst rfl ?_
    refine zA rfl hst rfl ?_
    refine zn5 ?_
    refine at_block_ret ?_
    refine at_then_ret ?_
    refine at_block_ret ?_
    refine ret1 rfl rfl hst ?_
    exact ⟨_, rfl, hq, fun p _ h => hmax p h⟩
    intro s35
    refine stepK_guard rfl rfl rfl rfl rfl rfl hst (does_move rfl rfl) ?_
    refine stepK_guard rfl rfl rfl rfl rfl rfl hst (does_move rfl rfl) ?_
    refine stepK_guard rfl rfl rfl rfl rfl rfl hst (does_eql_n rfl rfl rfl) ?_
    refine stepK_guard rfl rfl rfl rfl rfl rfl hst (does_move rfl rfl) ?_
    refine wpK_split (t := 39) rfl ?_ ?_
    intro s39
    refine stepK_guard rfl rfl rfl rfl rfl rfl hst (does_move rfl rfl) ?_
    refine stepK_guard rfl rfl rfl rfl rfl rfl hst (does_move rfl rfl) ?_
    refine stepK_guard rfl rfl rfl rfl rfl rfl hst (does_leq_n rfl rfl rfl) ?_
    refine stepK_guard rfl rfl rfl rfl rfl rfl hst (does_pick_true rfl rfl rfl) ?_
    refine stepK_d rfl rfl rfl hst (does_pick_false rfl rfl rfl) ?_
    refine znt ?_
    refine cp_if rfl ?_ ?_
    intro c44
    refine zsr ?_
    refine zM rfl hst rfl ?_
    refine zA rfl hst rfl ?_
    refine zn5 ?_
    refine at_block_ret ?_
    refine at_then_ret ?_
    refine at_block_ret ?_
    refine ret1 rfl rfl hst ?_
    exact ⟨_, rfl, hq, fun p _ h => hmax p h⟩
    intro c44
    refine zk4 ?_
    have hgt : r * 18446744073709551616 + u0 < q * v0 := by omega
    have hq0 : 0 < q := Nat.pos_of_ne_zero fun e => by rw [e, Nat.zero_mul] at hgt; omega
    have hmax2 : ∀ p : Nat, p * (v1 * 18446744073709551616 + v0) ≤ (u2 * 18446744073709551616 + u1) * 18446744073709551616 + u0 → p ≤ q - 1 := fun p h => guess_down he hgt (hmax p h) h
    refine zM rfl hst rfl ?_
    refine stepK_d rfl rfl rfl hst (Does.nat (b := q - 1) (does_sub_u64 (b := 1) rfl rfl rfl) (by omega)) ?_
    refine zA rfl hst rfl ?_
    refine zn4 ?_
    refine zM rfl hst rfl ?_
    refine zA rfl hst rfl ?_
    refine zn4 ?_
    refine zM rfl hst rfl ?_
    refine zM rfl hst rfl ?_
    refine stepK_d rfl rfl rfl hst (does_add_u64 rfl rfl rfl) ?_
    refine zA rfl hst rfl ?_
    refine zn4 ?_
    refine zM rfl hst rfl ?_
    refine zM rfl hst rfl ?_
    refine stepK_d rfl rfl rfl hst (does_lss_n rfl rfl rfl) ?_
    refine znt ?_
    refine cp_if rfl ?_ ?_
    intro c54
    refine zsr ?_
    refine zM rfl hst rfl ?_
    refine zA rfl hst rfl ?_
    refine znt ?_
    refine cp_ret ?_
    refine at_block_ret ?_
    refine at_then_ret ?_
    refine at_block_ret ?_
    refine ret1 rfl rfl hst ?_
    exact ⟨_, rfl, by omega, fun p _ h => hmax2 p h⟩
    intro c54
    refine cp_skip ?_
    refine at_block_normal ?_
    refine round_end ((q - 1, (r + v1) % 18446744073709551616)) ?_ ?_ ?_
    exact ⟨rfl, rfl, rfl, rfl, rfl, rfl, rfl, trivial⟩
    refine ⟨_, hst, by omega, Nat.mod_lt _ (by decide), ?_, hmax2⟩
    rw [show (r + v1) % 18446744073709551616 = r + v1 by omega]
    exact knuth_keep he (by omega)
    show q - 1 < q
    omega
    intro s39
    refine stepK_pass rfl rfl rfl rfl rfl rfl rfl ?_
    refine stepK_pass rfl rfl rfl rfl rfl rfl rfl ?_
    refine stepK_pass rfl rfl rfl rfl rfl rfl rfl ?_
    refine stepK_guard rfl rfl rfl rfl rfl rfl hst (does_pick_false rfl rfl rfl) ?_
    refine stepK_d rfl rfl rfl hst (does_pick_false rfl rfl rfl) ?_
    refine znt ?_
    refine cp_cond_false rfl ?_
    refine zk4 ?_
    have hgt : r * 18446744073709551616 + u0 < q * v0 := by omega
    have hq0 : 0 < q := Nat.pos_of_ne_zero fun e => by rw [e, Nat.zero_mul] at hgt; omega
    have hmax2 : ∀ p : Nat, p * (v1 * 18446744073709551616 + v0) ≤ (u2 * 18446744073709551616 + u1) * 18446744073709551616 + u0 → p ≤ q - 1 := fun p h => guess_down he hgt (hmax p h) h
    refine zM rfl hst rfl ?_
    refine stepK_d rfl rfl rfl hst (Does.nat (b := q - 1) (does_sub_u64 (b := 1) rfl rfl rfl) (by omega)) ?_
    refine zA rfl hst rfl ?_
    refine zn4 ?_
    refine zM rfl hst rfl ?_
    refine zA rfl hst rfl ?_
    refine zn4 ?_
    refine zM rfl hst rfl ?_
    refine zM rfl hst rfl ?_
    refine stepK_d rfl rfl rfl hst (does_add_u64 rfl rfl rfl) ?_
    refine zA rfl hst rfl ?_
    refine zn4 ?_
    refine zM rfl hst rfl ?_
    refine zM rfl hst rfl ?_
    refine stepK_d rfl rfl rfl hst (does_lss_n rfl rfl rfl) ?_
    refine znt ?_
    refine cp_if rfl ?_ ?_
    intro c54
    refine zsr ?_
    refine zM rfl hst rfl ?_
    refine zA rfl hst rfl ?_
    refine znt ?_
    refine cp_ret ?_
    refine at_block_ret ?_
    refine at_then_ret ?_
    refine at_block_ret ?_
    refine ret1 rfl rfl hst ?_
    exact ⟨_, rfl, by omega, fun p _ h => hmax2 p h⟩
    intro c54
    refine cp_skip ?_
    refine at_block_normal ?_
    refine round_end ((q - 1, (r + v1) % 18446744073709551616)) ?_ ?_ ?_
    exact ⟨rfl, rfl, rfl, rfl, rfl, rfl, rfl, trivial⟩
    refine ⟨_, hst, by omega, Nat.mod_lt _ (by decide), ?_, hmax2⟩
    rw [show (r + v1) % 18446744073709551616 = r + v1 by omega]
    exact knuth_keep he (by omega)
    show q - 1 < q
    omega

end Go.Proofs.YtcjhnkmoloiepaaDoor

namespace Go.Proofs.YtcjhnkmoloiepaaDoor
open Go Go.RowKit Go.Proofs.Vc
set_option linter.unusedVariables false
set_option linter.unusedSimpArgs false

set_option maxHeartbeats 1000000 in
theorem num_takeAway {g : Mem} {w : World} (hag : Agree g w) {b j n c d : Nat} {B : Option Addr} {us vs : List Nat} (hb : w.heap[b]? = some (.cells (uN .u64 us).toArray 51 (0, 0))) (hgb : g b = none) (hus : Words us) (hju : j + n + 1 ≤ us.length) (hun : us.length ≤ 17592186044415) (hvs : SlN g .u64 B n vs) (hvw : Words vs) {dg : Nat} (hdg : dg < 18446744073709551616) :
    CallTo Tryd.prog 76 #[.slice (some ⟨b, j, none⟩) (n + 1) c, .slice B n d, .int .u64 (dg : Int)] w (RetM w b g fun v g o => ∃ us2 br, v = .bool (decide (0 < br)) ∧ o = .cells (uN .u64 us2).toArray 51 (0, 0) ∧ Words us2 ∧ us2.length = us.length ∧ us2.take j = us.take j ∧ us2.drop (j + n + 1) = us.drop (j + n + 1) ∧ br ≤ 1 ∧ val ((us2.drop j).take (n + 1)) + dg * val vs = val ((us.drop j).take (n + 1)) + br * 18446744073709551616 ^ (n + 1)) := by
  refine CallTo.enter (vs := [.slice (some ⟨b, j, none⟩) (n + 1) c, .slice B n d, .int .u64 (dg : Int)]) zf19 (by kernel_rfl) rfl rfl rfl ?_
  have hst := St.initM hag hb hgb
  have hlv := hvs.1
  refine zsr ?_
  refine zA rfl hst rfl ?_
  refine zn4 ?_
  refine zA rfl hst rfl ?_
  refine zA rfl hst rfl ?_
  refine znq ?_
  refine zsr ?_
  refine zM rfl hst rfl ?_
  refine stepK_d rfl rfl rfl hst (does_len_slice rfl zf1 rfl) ?_
  refine zM rfl hst rfl ?_
  refine znt ?_
  refine cp_block ?_
  refine cp_loop (ι := Nat × Nat × Nat × List Nat) (fun (i, cy, bo, ws) => [(0, .slice (some ⟨b, j, none⟩) (n + 1) c), (1, .slice B n d), (2, .int .u64 (dg : Int)), (7, .int .u64 (cy : Int)), (8, .int .u64 (bo : Int)), (14, .slice B n d), (15, .int .i64 (n : Int)), (16, .int .i64 (i : Int))]) (fun (i, cy, bo, ws) w1 => ∃ g1, St w [b] g g1 [(b, .cells (uN .u64 ws).toArray 51 (0, 0))] w1 ∧ i ≤ n ∧ cy < 18446744073709551616 ∧ bo ≤ 1 ∧ Words ws ∧ ws.length = us.length ∧ ws.take j = us.take j ∧ ws.drop (j + i) = us.drop (j + i) ∧ val ((ws.drop j).take i) + dg * val (vs.take i) = val ((us.drop j).take i) + (cy + bo) * 18446744073709551616 ^ i) (fun (i, cy, bo, ws) => n - i) (0, 0, 0, us) ?k1 ?i1 ?r1
  case k1 => exact ⟨rfl, rfl, rfl, rfl, rfl, rfl, rfl, rfl, trivial⟩
  case i1 =>
    exact ⟨_, hst, Nat.zero_le _, by decide, by decide, hus, rfl, rfl, rfl, by simp [val]⟩
  case r1 =>
    clear hst
    rintro ⟨i, cy, bo, ws⟩ w1 ⟨g1, hst, hi, hcy, hbo, hws, hwl, hwt, hwd, hv⟩
    refine zsr ?_
    refine stepK_d rfl rfl rfl hst (does_lss rfl rfl rfl) ?_
    refine znq ?_
    refine cp_if rfl ?_ ?_
    intro c17
    refine cp_skip ?_
    refine cp_then ?_
    refine cp_seq ?_
    refine cp_block ?_
    refine cp_seq ?_
    obtain ⟨b2, o2, rfl, hb2⟩ := hvs.some_ (by omega)
    obtain ⟨x, hx⟩ := get_of_lt (ws := vs) (j := i) (by omega)
    have hxlt := hvw.get hx
    obtain ⟨u, hu⟩ := get_of_lt (ws := us) (j := j + i) (by omega)
    have hult := hus.get hu
    have hwu : ws[j + i]? = some u := by rw [get_drop_eq hwd (by omega)]; exact hu
    refine cp_region ?_
    refine zM rfl hst rfl ?_
    refine stepK_d rfl rfl rfl hst (does_indexAddr1 rfl zf1 (by kernel_rfl) rfl rfl rfl (by omega)) ?_
    refine stepK_d rfl rfl rfl hst (does_load_g1 rfl (by kernel_rfl) rfl ((hb2.mono hst.le).at_ _ _ hx)) ?_
    refine zA rfl hst rfl ?_
    refine zA rfl hst rfl ?_
    refine zn4 ?_
    refine zM rfl hst rfl ?_
    refine zM rfl hst rfl ?_
    refine stepK_call rfl rfl rfl rfl rfl hst (bits_Mul64 hst.agree hdg hxlt) ?_
    clear hst
    intro v2 g2 w2 hst hle2 hcs2 hp2
    obtain rfl := hp2
    refine zM rfl hst rfl ?_
    refine zE rfl hst rfl rfl ?_
    refine zE rfl hst rfl rfl ?_
    refine zA rfl hst rfl ?_
    refine zA rfl hst rfl ?_
    refine zn4 ?_
    refine zA rfl hst rfl ?_
    refine zn4 ?_
    refine zM rfl hst rfl ?_
    refine zM rfl hst rfl ?_
    refine stepK_call rfl rfl rfl rfl rfl hst (bits_Add64 hst.agree (c := 0) (by decide)) ?_
    clear hst
    intro v3 g3 w3 hst hle3 hcs3 hp3
    obtain rfl := hp3
    refine zM rfl hst rfl ?_
    refine zE rfl hst rfl rfl ?_
    refine zE rfl hst rfl rfl ?_
    refine zA rfl hst rfl ?_
    refine zA rfl hst rfl ?_
    refine zn4 ?_
    refine zM rfl hst rfl ?_
    refine zM rfl hst rfl ?_
    refine stepK_d rfl rfl rfl hst (does_add_u64 rfl rfl rfl) ?_
    refine zA rfl hst rfl ?_
    refine zn3 ?_
    refine zM rfl hst rfl ?_
    refine zM rfl hst rfl ?_
    refine zM rfl hst rfl ?_
    refine zM rfl hst rfl ?_
    refine stepK_d rfl rfl rfl hst (does_indexAddr1 rfl zf1 (by kernel_rfl) rfl rfl rfl (by omega)) ?_
    refine stepK_d rfl rfl rfl hst (does_load_own1 0 rfl (by kernel_rfl) rfl rfl (uN_arr_get hwu)) ?_
    refine zM rfl hst rfl ?_
    refine zM rfl hst rfl ?_
    refine stepK_call rfl rfl rfl rfl rfl hst (bits_Sub64 hst.agree hbo) ?_
    clear hst
    intro v4 g4 w4 hst hle4 hcs4 hp4
    obtain rfl := hp4
    refine zM rfl hst rfl ?_
    refine zE rfl hst rfl rfl ?_
    refine zE rfl hst rfl rfl ?_
    refine stepK_d rfl rfl rfl hst (does_indexAddr1 rfl zf1 (by kernel_rfl) rfl rfl rfl (by omega)) ?_
    refine stepK_store 0 rfl rfl rfl rfl rfl rfl zf4 rfl rfl hst rfl (by first | (simp [uN_length]; omega) | simp) ?_
    clear hst
    intro w5 hst
    rw [splice_uN _ _ _ _ (by omega)] at hst
    simp only [List.set_cons_zero] at hst
    refine zA rfl hst rfl ?_
    refine wpK_nil ?_
    refine at_block_normal ?_
    refine cp_then ?_
    refine cp_region ?_
    refine stepK_d rfl rfl rfl hst (Does.int (does_add rfl rfl rfl) (wrap_i64 (by omega) (by omega))) ?_
    refine zM rfl hst rfl ?_
    refine wpK_nil ?_
    refine round_end ((i + 1, (dg * x / 18446744073709551616 + (dg * x % 18446744073709551616 + cy + 0) / 18446744073709551616) % 18446744073709551616, (if u < (dg * x % 18446744073709551616 + cy + 0) % 18446744073709551616 + bo then 1 else 0), ws.set (j + i) ((u + 18446744073709551616 - (dg * x % 18446744073709551616 + cy + 0) % 18446744073709551616 - bo) % 18446744073709551616))) ?_ ?_ ?_
    exact ⟨rfl, rfl, rfl, rfl, rfl, rfl, rfl, rfl, trivial⟩
    refine ⟨_, hst, by omega, Nat.mod_lt _ (by decide), ite_le_one, hws.set (Nat.mod_lt _ (by decide)), by simp [hwl], ?_, ?_, ?_⟩
    rw [take_set_out (by omega)]; exact hwt
    rw [← Nat.add_assoc, drop_set_out (by omega)]; exact drop_more hwd (by omega)
    rw [seg_set (by omega), seg_succ hu, val_take_succ hx, pow_succ64]
    exact take_step hv (take_word (mul_bound hdg hxlt) hult hcy hbo)
    show n - (i + 1) < n - i
    omega
    intro c17
    refine cp_exit ?_
    refine at_then_exit ?_
    refine at_then_exit ?_
    refine cp_exit_here ?_
    refine cp_then ?_
    refine cp_seq ?_
    obtain rfl : n = i := by omega
    obtain ⟨u, hu⟩ := get_of_lt (ws := us) (j := j + n) (by omega)
    have hult := hus.get hu
    have hwu : ws[j + n]? = some u := by rw [get_drop_eq hwd (by omega)]; exact hu
    rw [val_all (ws := vs) (by omega)] at hv
    refine cp_region ?_
    refine zM rfl hst rfl ?_
    refine zM rfl hst rfl ?_
    refine stepK_d rfl rfl rfl hst (does_len_slice rfl zf1 rfl) ?_
    refine zM rfl hst rfl ?_
    refine zM rfl hst rfl ?_
    refine stepK_d rfl rfl rfl hst (does_len_slice rfl zf1 rfl) ?_
    refine stepK_d rfl rfl rfl hst (does_indexAddr1 rfl zf1 (by kernel_rfl) rfl rfl rfl (by omega)) ?_
    refine stepK_d rfl rfl rfl hst (does_load_own1 0 rfl (by kernel_rfl) rfl rfl (uN_arr_get hwu)) ?_
    refine zM rfl hst rfl ?_
    refine zM rfl hst rfl ?_
    refine stepK_call rfl rfl rfl rfl rfl hst (bits_Sub64 hst.agree hbo) ?_
    clear hst
    intro v6 g6 w6 hst hle6 hcs6 hp6
    obtain rfl := hp6
    refine zM rfl hst rfl ?_
    refine zE rfl hst rfl rfl ?_
    refine zE rfl hst rfl rfl ?_
    refine stepK_d rfl rfl rfl hst (does_indexAddr1 rfl zf1 (by kernel_rfl) rfl rfl rfl (by omega)) ?_
    refine stepK_store 0 rfl rfl rfl rfl rfl rfl zf4 rfl rfl hst rfl (by first | (simp [uN_length]; omega) | simp) ?_
    clear hst
    intro w7 hst
    rw [splice_uN _ _ _ _ (by omega)] at hst
    simp only [List.set_cons_zero] at hst
    refine zA rfl hst rfl ?_
    refine zn4 ?_
    refine zM rfl hst rfl ?_
    refine stepK_d rfl rfl rfl hst (does_gtr_n (b := 0) rfl rfl rfl) ?_
    refine zA rfl hst rfl ?_
    refine znt ?_
    refine cp_ret ?_
    refine retM1 rfl rfl hst ?_
    refine ⟨_, _, by rfl, rfl, hws.set (Nat.mod_lt _ (by decide)), by simp [hwl], ?_, ?_, by split <;> omega, ?_⟩
    rw [take_set_out (by omega)]; exact hwt
    rw [drop_set_out (by omega)]; exact drop_more hwd (by omega)
    rw [seg_set (by omega), seg_succ hu, pow_succ64]
    exact take_end hv (take_last hult hcy hbo)

set_option maxHeartbeats 1000000 in
theorem num_putBack {g : Mem} {w : World} (hag : Agree g w) {b j n c d : Nat} {B : Option Addr} {us vs : List Nat} (hb : w.heap[b]? = some (.cells (uN .u64 us).toArray 51 (0, 0))) (hgb : g b = none) (hus : Words us) (hju : j + n + 1 ≤ us.length) (hun : us.length ≤ 17592186044415) (hvs : SlN g .u64 B n vs) (hvw : Words vs) :
    CallTo Tryd.prog 77 #[.slice (some ⟨b, j, none⟩) (n + 1) c, .slice B n d] w (RetM w b g fun v g o => ∃ us2 br, v = .bool (decide (0 < br)) ∧ o = .cells (uN .u64 us2).toArray 51 (0, 0) ∧ Words us2 ∧ us2.length = us.length ∧ us2.take j = us.take j ∧ us2.drop (j + n + 1) = us.drop (j + n + 1) ∧ br ≤ 1 ∧ val ((us2.drop j).take (n + 1)) + br * 18446744073709551616 ^ (n + 1) = val ((us.drop j).take (n + 1)) + val vs) := by
  refine CallTo.enter (vs := [.slice (some ⟨b, j, none⟩) (n + 1) c, .slice B n d]) zf20 (by kernel_rfl) rfl rfl rfl ?_
  have hst := St.initM hag hb hgb
  have hlv := hvs.1
  refine zsr ?_
  refine zA rfl hst rfl ?_
  refine zn4 ?_
  refine zA rfl hst rfl ?_
  refine znq ?_
  refine zsr ?_
  refine zM rfl hst rfl ?_
  refine stepK_d rfl rfl rfl hst (does_len_slice rfl zf1 rfl) ?_
  refine zM rfl hst rfl ?_
  refine znt ?_
  refine cp_block ?_
  refine cp_loop (ι := Nat × Nat × List Nat) (fun (i, cy, ws) => [(0, .slice (some ⟨b, j, none⟩) (n + 1) c), (1, .slice B n d), (5, .int .u64 (cy : Int)), (8, .slice B n d), (9, .int .i64 (n : Int)), (10, .int .i64 (i : Int))]) (fun (i, cy, ws) w1 => ∃ g1, St w [b] g g1 [(b, .cells (uN .u64 ws).toArray 51 (0, 0))] w1 ∧ i ≤ n ∧ cy ≤ 1 ∧ Words ws ∧ ws.length = us.length ∧ ws.take j = us.take j ∧ ws.drop (j + i) = us.drop (j + i) ∧ val ((ws.drop j).take i) + cy * 18446744073709551616 ^ i = val ((us.drop j).take i) + val (vs.take i)) (fun (i, cy, ws) => n - i) (0, 0, us) ?k1 ?i1 ?r1
  case k1 => exact ⟨rfl, rfl, rfl, rfl, rfl, rfl, trivial⟩
  case i1 =>
    exact ⟨_, hst, Nat.zero_le _, by decide, hus, rfl, rfl, rfl, by simp [val]⟩
  case r1 =>
    clear hst
    rintro ⟨i, cy, ws⟩ w1 ⟨g1, hst, hi, hcy, hws, hwl, hwt, hwd, hv⟩
    refine zsr ?_
    refine stepK_d rfl rfl rfl hst (does_lss rfl rfl rfl) ?_
    refine znq ?_
    refine cp_if rfl ?_ ?_
    intro c11
    refine cp_skip ?_
    refine cp_then ?_
    refine cp_seq ?_
    refine cp_block ?_
    refine cp_seq ?_
    obtain ⟨b2, o2, rfl, hb2⟩ := hvs.some_ (by omega)
    obtain ⟨x, hx⟩ := get_of_lt (ws := vs) (j := i) (by omega)
    have hxlt := hvw.get hx
    obtain ⟨u, hu⟩ := get_of_lt (ws := us) (j := j + i) (by omega)
    have hult := hus.get hu
    have hwu : ws[j + i]? = some u := by rw [get_drop_eq hwd (by omega)]; exact hu
    refine cp_region ?_
    refine zM rfl hst rfl ?_
    refine stepK_d rfl rfl rfl hst (does_indexAddr1 rfl zf1 (by kernel_rfl) rfl rfl rfl (by omega)) ?_
    refine stepK_d rfl rfl rfl hst (does_load_g1 rfl (by kernel_rfl) rfl ((hb2.mono hst.le).at_ _ _ hx)) ?_
    refine zA rfl hst rfl ?_
    refine zA rfl hst rfl ?_
    refine zn3 ?_
    refine zM rfl hst rfl ?_
    refine zM rfl hst rfl ?_
    refine zM rfl hst rfl ?_
    refine zM rfl hst rfl ?_
    refine stepK_d rfl rfl rfl hst (does_indexAddr1 rfl zf1 (by kernel_rfl) rfl rfl rfl (by omega)) ?_
    refine stepK_d rfl rfl rfl hst (does_load_own1 0 rfl (by kernel_rfl) rfl rfl (uN_arr_get hwu)) ?_
    refine zM rfl hst rfl ?_
    refine zM rfl hst rfl ?_
    refine stepK_call rfl rfl rfl rfl rfl hst (bits_Add64 hst.agree hcy) ?_
    clear hst
    intro v2 g2 w2 hst hle2 hcs2 hp2
    obtain rfl := hp2
    refine zM rfl hst rfl ?_
    refine zE rfl hst rfl rfl ?_
    refine zE rfl hst rfl rfl ?_
    refine stepK_d rfl rfl rfl hst (does_indexAddr1 rfl zf1 (by kernel_rfl) rfl rfl rfl (by omega)) ?_
    refine stepK_store 0 rfl rfl rfl rfl rfl rfl zf4 rfl rfl hst rfl (by first | (simp [uN_length]; omega) | simp) ?_
    clear hst
    intro w3 hst
    rw [splice_uN _ _ _ _ (by omega)] at hst
    simp only [List.set_cons_zero] at hst
    refine zA rfl hst rfl ?_
    refine wpK_nil ?_
    refine at_block_normal ?_
    refine cp_then ?_
    refine cp_region ?_
    refine stepK_d rfl rfl rfl hst (Does.int (does_add rfl rfl rfl) (wrap_i64 (by omega) (by omega))) ?_
    refine zM rfl hst rfl ?_
    refine wpK_nil ?_
    refine round_end ((i + 1, (u + x + cy) / 18446744073709551616, ws.set (j + i) ((u + x + cy) % 18446744073709551616))) ?_ ?_ ?_
    exact ⟨rfl, rfl, rfl, rfl, rfl, rfl, trivial⟩
    refine ⟨_, hst, by omega, by omega, hws.set (Nat.mod_lt _ (by decide)), by simp [hwl], ?_, ?_, ?_⟩
    rw [take_set_out (by omega)]; exact hwt
    rw [← Nat.add_assoc, drop_set_out (by omega)]; exact drop_more hwd (by omega)
    rw [seg_set (by omega), seg_succ hu, val_take_succ hx, pow_succ64]
    exact put_step hv (Nat.mod_add_div' ..)
    show n - (i + 1) < n - i
    omega
    intro c11
    refine cp_exit ?_
    refine at_then_exit ?_
    refine at_then_exit ?_
    refine cp_exit_here ?_
    refine cp_then ?_
    refine cp_seq ?_
    obtain rfl : n = i := by omega
    obtain ⟨u, hu⟩ := get_of_lt (ws := us) (j := j + n) (by omega)
    have hult := hus.get hu
    have hwu : ws[j + n]? = some u := by rw [get_drop_eq hwd (by omega)]; exact hu
    rw [val_all (ws := vs) (by omega)] at hv
    refine cp_region ?_
    refine zM rfl hst rfl ?_
    refine zM rfl hst rfl ?_
    refine stepK_d rfl rfl rfl hst (does_len_slice rfl zf1 rfl) ?_
    refine zM rfl hst rfl ?_
    refine zM rfl hst rfl ?_
    refine stepK_d rfl rfl rfl hst (does_len_slice rfl zf1 rfl) ?_
    refine stepK_d rfl rfl rfl hst (does_indexAddr1 rfl zf1 (by kernel_rfl) rfl rfl rfl (by omega)) ?_
    refine stepK_d rfl rfl rfl hst (does_load_own1 0 rfl (by kernel_rfl) rfl rfl (uN_arr_get hwu)) ?_
    refine zM rfl hst rfl ?_
    refine stepK_call rfl rfl rfl rfl rfl hst (bits_Add64 hst.agree hcy (y := 0)) ?_
    clear hst
    intro v4 g4 w4 hst hle4 hcs4 hp4
    obtain rfl := hp4
    refine zM rfl hst rfl ?_
    refine zE rfl hst rfl rfl ?_
    refine zE rfl hst rfl rfl ?_
    refine stepK_d rfl rfl rfl hst (does_indexAddr1 rfl zf1 (by kernel_rfl) rfl rfl rfl (by omega)) ?_
    refine stepK_store 0 rfl rfl rfl rfl rfl rfl zf4 rfl rfl hst rfl (by first | (simp [uN_length]; omega) | simp) ?_
    clear hst
    intro w5 hst
    rw [splice_uN _ _ _ _ (by omega)] at hst
    simp only [List.set_cons_zero] at hst
    refine zA rfl hst rfl ?_
    refine zn4 ?_
    refine zM rfl hst rfl ?_
    refine stepK_d rfl rfl rfl hst (does_gtr_n (b := 0) rfl rfl rfl) ?_
    refine zA rfl hst rfl ?_
    refine znt ?_
    refine cp_ret ?_
    refine retM1 rfl rfl hst ?_
    refine ⟨_, _, by rfl, rfl, hws.set (Nat.mod_lt _ (by decide)), by simp [hwl], ?_, ?_, by omega, ?_⟩
    rw [take_set_out (by omega)]; exact hwt
    rw [drop_set_out (by omega)]; exact drop_more hwd (by omega)
    rw [seg_set (by omega), seg_succ hu, pow_succ64]
    have h9 := put_step (x := 0) hv (Nat.mod_add_div' (u + 0 + cy) 18446744073709551616)
    rw [Nat.mul_zero, Nat.add_zero] at h9
    exact h9

end Go.Proofs.YtcjhnkmoloiepaaDoor

namespace Go.Proofs.YtcjhnkmoloiepaaDoor
open Go Go.RowKit Go.Proofs.Vc
set_option linter.unusedVariables false
set_option linter.unusedSimpArgs false

set_option maxHeartbeats 4000000 in
set_option maxRecDepth 4000 in
theorem num_divide {g : Mem} {w : World} (hag : Agree g w) {A B : Option Addr} {n c m d N M : Nat} (ha : IsNat g A n N) (hb : IsNat g B m M) (hM : 0 < M) (hn : n ≤ 8796093022206) (hm : m ≤ 8796093022206) :
    CallTo Tryd.prog 62 #[.slice A n c, .slice B m d] w (Ret w g fun v g => ∃ A n c B m d, v = .tuple #[.slice A n c, .slice B m d] ∧ IsNat g A n (N / M) ∧ IsNat g B m (N % M)) := by
  refine CallTo.enter (vs := [.slice A n c, .slice B m d]) zf21 (by kernel_rfl) rfl rfl rfl ?_
  have hst := St.init hag
  have hm0 : 0 < m := Nat.pos_of_ne_zero fun e => by have := hb.zero_iff.1 e; omega
  refine zsr ?_
  refine zA rfl hst rfl ?_
  refine zA rfl hst rfl ?_
  refine znq ?_
  refine zsr ?_
  refine zM rfl hst rfl ?_
  refine zM rfl hst rfl ?_
  refine stepK_call rfl rfl rfl rfl rfl hst (num_compare hst.agree ha hb (by omega)) ?_
  clear hst
  intro v1 g1 w1 hst hle1 hcs1 hp1
  replace ha := ha.mono hle1
  replace hb := hb.mono hle1
  obtain rfl := hp1
  refine stepK_d rfl rfl rfl hst (does_lss rfl rfl rfl) ?_
  refine znt ?_
  refine cp_if rfl ?_ ?_
  intro c19
  have hlt := cmpN_neg.1 c19
  refine zsr ?_
  refine zM rfl hst rfl ?_
  obtain ⟨xs, hxs, hxw, hxt, hxv⟩ := ha
  refine stepK_append_copy rfl rfl rfl rfl zf1 zf2 rfl rfl rfl hst hxs (by omega) (by omega) ?_
  clear hst
  intro A9 c9 g9 w9 hst hle9 hcp
  refine zA rfl hst rfl ?_
  refine zA rfl hst rfl ?_
  refine zn5 ?_
  refine ret2 rfl rfl rfl hst ?_
  refine ⟨_, _, _, _, _, _, rfl, ?_, ?_⟩
  rw [Nat.div_eq_of_lt hlt]; exact IsNat.nil _
  rw [Nat.mod_eq_of_lt hlt]; exact ⟨xs, hcp, hxw, hxt, hxv⟩
  intro c19
  have hge0 : M ≤ N := Nat.le_of_not_lt fun h => c19 (cmpN_neg.2 h)
  have hmn : m ≤ n := hb.len (Nat.lt_of_le_of_lt hge0 ha.lt)
  refine cp_skip ?_
  refine cp_then ?_
  refine cp_seq ?_
  refine zsr ?_
  refine zM rfl hst rfl ?_
  refine stepK_d rfl rfl rfl hst (does_len_slice rfl zf1 rfl) ?_
  refine stepK_d rfl rfl rfl hst (does_eql rfl rfl rfl) ?_
  refine znt ?_
  refine cp_if rfl ?_ ?_
  intro c24
  refine cp_seq ?_
  obtain ⟨ys, hys, hyw, hyt, hyv⟩ := id hb
  have hly := hys.1
  obtain rfl : m = 1 := by omega
  obtain ⟨b1, o1, rfl, hb1⟩ := hys.some_ (by omega)
  obtain ⟨y, hy⟩ := get_of_lt (ws := ys) (j := 0) (by omega)
  obtain rfl : y = M := by rw [← hyv]; exact (val_one hly hy).symm
  clear hys
  refine cp_region ?_
  refine zM rfl hst rfl ?_
  refine zM rfl hst rfl ?_
  refine stepK_d rfl rfl rfl hst (does_indexAddr1 (j := 0) rfl zf1 (by kernel_rfl) rfl rfl (by omega) (by omega)) ?_
  refine stepK_d rfl rfl rfl hst (does_load_g1 rfl (by kernel_rfl) rfl (hb1.at_ _ _ hy)) ?_
  refine stepK_call rfl rfl rfl rfl rfl hst (num_byWord hst.agree ha (hyw.get hy) hM (by omega)) ?_
  clear hst
  intro v2 g2 w2 hst hle2 hcs2 hp2
  replace ha := ha.mono hle2
  replace hb := hb.mono hle2
  obtain ⟨Q, qn, qc, rfl, hQ⟩ := hp2
  refine zM rfl hst rfl ?_
  refine zE rfl hst rfl rfl ?_
  refine zE rfl hst rfl rfl ?_
  refine zA rfl hst rfl ?_
  refine zA rfl hst rfl ?_
  refine zn4 ?_
  refine zM rfl hst rfl ?_
  refine zM rfl hst rfl ?_
  refine stepK_call rfl rfl rfl rfl rfl hst (num_word hst.agree (Nat.lt_trans (Nat.mod_lt _ hM) (hyw.get hy))) ?_
  clear hst
  intro v3 g3 w3 hst hle3 hcs3 hp3
  replace ha := ha.mono hle3
  replace hb := hb.mono hle3
  replace hQ := hQ.mono hle3
  obtain ⟨A3, n3, c3, rfl, hn3⟩ := hp3
  refine zA rfl hst rfl ?_
  refine zA rfl hst rfl ?_
  refine zn5 ?_
  refine ret2 rfl rfl rfl hst ?_
  refine ⟨_, _, _, _, _, _, rfl, ?_, ?_⟩ <;> assumption
  intro c24
  refine cp_skip ?_
  refine cp_then ?_
  refine cp_seq ?_
  obtain ⟨ys, hys, hyw, hyt, hyv⟩ := id hb
  have hly := hys.1
  obtain ⟨b1, o1, rfl, hb1⟩ := hys.some_ (by omega)
  obtain ⟨y, hy⟩ := get_of_lt (ws := ys) (j := m - 1) (by omega)
  have hylt := hyw.get hy
  refine cp_region ?_
  refine zM rfl hst rfl ?_
  refine stepK_d rfl rfl rfl hst (does_len_slice rfl zf1 rfl) ?_
  refine zM rfl hst rfl ?_
  refine stepK_d rfl rfl rfl hst (does_len_slice rfl zf1 rfl) ?_
  refine zM rfl hst rfl ?_
  refine stepK_d rfl rfl rfl hst (does_len_slice rfl zf1 rfl) ?_
  refine stepK_d rfl rfl rfl hst (Does.int (does_sub rfl rfl rfl) (show _ = ((n - m : Nat) : Int) by rw [wrap_i64 (by omega) (by omega)]; omega)) ?_
  refine zA rfl hst rfl ?_
  refine zA rfl hst rfl ?_
  refine zn4 ?_
  refine zM rfl hst rfl ?_
  refine zM rfl hst rfl ?_
  refine stepK_d rfl rfl rfl hst (Does.int (does_sub rfl rfl rfl) (wrap_i64 (by omega) (by omega))) ?_
  refine stepK_d rfl rfl rfl hst (does_indexAddr1 (j := (m - 1)) rfl zf1 (by kernel_rfl) rfl rfl (by omega) (by omega)) ?_
  refine stepK_d rfl rfl rfl hst (does_load_g1 rfl (by kernel_rfl) rfl (hb1.at_ _ _ hy)) ?_
  refine stepK_call rfl rfl rfl rfl rfl hst (bits_LeadingZeros64 hst.agree hylt) ?_
  clear hst
  intro v4 g4 w4 hst hle4 hcs4 hp4
  replace ha := ha.mono hle4
  replace hb := hb.mono hle4
  obtain rfl := hp4
  obtain ⟨s, hs⟩ : ∃ s, s = 64 - bitLen y := ⟨_, rfl⟩
  rw [← hs]
  have hs64 : s ≤ 64 := by omega
  refine zA rfl hst rfl ?_
  refine zn4 ?_
  refine zM rfl hst rfl ?_
  refine zM rfl hst rfl ?_
  refine stepK_call rfl rfl rfl rfl rfl hst (num_left hst.agree hb (by omega) (by omega)) ?_
  clear hst
  intro v5 g5 w5 hst hle5 hcs5 hp5
  replace ha := ha.mono hle5
  replace hb := hb.mono hle5
  obtain ⟨V, vn, vc, rfl, vs, hvs, hvw, hvt, hvv⟩ := hp5
  have hlv := hvs.1
  have hnl := norm_len hyw hly hm0 hy hs
  rw [hyv] at hnl
  have hvl : val vs < 18446744073709551616 ^ m := by rw [hvv]; exact hnl
  obtain rfl : m = vn := Nat.le_antisymm (hb.len (Nat.lt_of_le_of_lt (Nat.le_mul_of_pos_right _ (show 0 < 2 ^ s from Nat.pow_pos (by decide))) (by rw [← hvv, ← hlv]; exact val_lt hvw))) (IsNat.len ⟨vs, hvs, hvw, hvt, rfl⟩ hvl)
  obtain ⟨b4, o4, rfl, hb4⟩ := hvs.some_ hm0
  have hV : 0 < val vs := val_pos hvt (by omega)
  refine zA rfl hst rfl ?_
  refine zn4 ?_
  refine zM rfl hst rfl ?_
  refine stepK_d rfl rfl rfl hst (does_len_slice rfl zf1 rfl) ?_
  refine stepK_d rfl rfl rfl hst (Does.int (does_add rfl rfl rfl) (wrap_i64 (by omega) (by omega))) ?_
  refine stepK_make rfl rfl rfl (l := n + 1) (c := n + 1) rfl zf1 zf2 rfl rfl rfl rfl (by omega) (by omega) (by omega) (by omega) (by omega) hst ?_
  clear hst
  intro bu w6 hst
  rw [uN_rep] at hst
  refine zA rfl hst rfl ?_
  refine zn4 ?_
  refine zM rfl hst rfl ?_
  refine zM rfl hst rfl ?_
  refine zM rfl hst rfl ?_
  refine stepK_call rfl rfl rfl rfl rfl hst (num_left hst.agree ha (by omega) (by omega)) ?_
  clear hst
  intro v7 g7 w7 hst hle7 hcs7 hp7
  replace ha := ha.mono hle7
  replace hb := hb.mono hle7
  replace hvs := hvs.mono hle7
  obtain ⟨L, ln, lc, rfl, ls, hls, hlw, hlt, hlv⟩ := hp7
  have hll := hls.1
  have hlnn : ln ≤ n + 1 := IsNat.len ⟨ls, hls, hlw, hlt, rfl⟩ (by rw [hlv]; exact shift_len ha.lt hs64)
  have hln0 : 0 < ln := Nat.pos_of_ne_zero fun e => by
    have h9 := (IsNat.zero_iff ⟨ls, hls, hlw, hlt, hlv⟩).1 e
    have h10 := Nat.mul_pos (show 0 < N by omega) (show 0 < 2 ^ s from Nat.pow_pos (by decide))
    omega
  refine stepK_copyN 0 rfl rfl rfl rfl zf1 (by kernel_rfl) rfl rfl hst rfl hls hln0 (by simp) (by omega) ?_
  clear hst
  intro w8 hst
  simp only [List.nil_append, List.set_cons_zero] at hst
  refine zn4 ?_
  refine zM rfl hst rfl ?_
  refine stepK_d rfl rfl rfl hst (Does.int (does_add rfl rfl rfl) (wrap_i64 (by omega) (by omega))) ?_
  refine stepK_make rfl rfl rfl (l := n - m + 1) (c := n - m + 1) rfl zf1 zf2 rfl rfl rfl rfl (by omega) (by omega) (by omega) (by omega) (by omega) hst ?_
  clear hst
  intro bq w8 hst
  rw [uN_rep] at hst
  simp only [List.cons_append, List.nil_append] at hst
  refine zA rfl hst rfl ?_
  refine znq ?_
  refine zsr ?_
  refine zM rfl hst rfl ?_
  refine zA rfl hst rfl ?_
  refine znt ?_
  refine cp_block ?_
  refine cp_loop (ι := Nat × List Nat × List Nat) (fun (k, us, qs) => [(8, .int .i64 (m : Int)), (10, .int .i64 (s : Int)), (11, .slice (some ⟨b4, o4, none⟩) m vc), (12, .slice (some ⟨bu, 0, none⟩) (n + 1) (n + 1)), (13, .slice (some ⟨bq, 0, none⟩) (n - m + 1) (n - m + 1)), (14, .int .i64 ((k : Int) - 1))]) (fun (k, us, qs) w1 => ∃ g1, St w [] g g1 [(bu, .cells (uN .u64 us).toArray 51 (0, 0)), (bq, .cells (uN .u64 qs).toArray 51 (0, 0))] w1 ∧ SlN g1 .u64 (some ⟨b4, o4, none⟩) m vs ∧ k ≤ n - m + 1 ∧ Words us ∧ us.length = n + 1 ∧ Words qs ∧ qs.length = n - m + 1 ∧ val (us.drop k) < val vs ∧ val us + 18446744073709551616 ^ k * (val (qs.drop k) * val vs) = N * 2 ^ s) (fun (k, us, qs) => k) (n - m + 1, ls ++ (List.replicate (n + 1) 0).drop ls.length, List.replicate (n - m + 1) 0) ?k9 ?i9 ?r9
  case k9 => exact ⟨rfl, rfl, rfl, rfl, rfl, kint (by omega), trivial⟩
  case i9 =>
    exact ⟨_, hst, hvs, Nat.le_refl _, words_zeros hlw _, len_zeros (by omega), Words.rep _, by simp, by
      rw [hvv]
      refine Nat.lt_of_le_of_lt (Nat.le_of_eq (val_div_pow (words_zeros hlw _) (by rw [len_zeros (by omega)]; omega)).symm) ?_
      rw [val_zeros, hlv]
      exact (Nat.div_lt_iff_lt_mul (Nat.pow_pos (by decide))).2 (by rw [Nat.mul_comm _ (18446744073709551616 ^ _)]; exact divide_first ha.lt (hb.le hm0) hm0 hmn rfl), by
      rw [val_zeros, hlv, List.drop_eq_nil_of_le (by simp)]
      simp [val]⟩
  case r9 =>
    clear hst
    rintro ⟨k, us, qs⟩ w1 ⟨g1, hst, hvs, hk, hus, hul, hqs, hql, hlt, hA⟩
    refine cp_seq ?_
    refine zsr ?_
    refine zM rfl hst rfl ?_
    refine stepK_d rfl rfl rfl hst (does_geq rfl rfl rfl) ?_
    refine znt ?_
    refine cp_if rfl ?_ ?_
    intro c66
    refine cp_skip ?_
    refine cp_then ?_
    refine cp_seq ?_
    refine cp_block ?_
    refine cp_seq ?_
    obtain ⟨j, rfl⟩ : ∃ j, k = j + 1 := ⟨k - 1, by omega⟩
    have hlv := hvs.1
    obtain ⟨u2, hu2⟩ := get_of_lt (ws := us) (j := j + m) (by omega)
    obtain ⟨u1, hu1⟩ := get_of_lt (ws := us) (j := j + m - 1) (by omega)
    obtain ⟨u0, hu0⟩ := get_of_lt (ws := us) (j := j + m - 2) (by omega)
    obtain ⟨v1, hv1⟩ := get_of_lt (ws := vs) (j := m - 1) (by omega)
    obtain ⟨v0, hv0⟩ := get_of_lt (ws := vs) (j := m - 2) (by omega)
    obtain ⟨b5, o5, e5, hb4⟩ := hvs.some_ (by omega)
    cases e5
    obtain ⟨uj, huj⟩ := get_of_lt (ws := us) (j := j) (by omega)
    have hUV := next_lt huj (hus.get huj) hlt
    have hUB : val (us.drop j) < 18446744073709551616 ^ (m + 1) := by
      rw [Nat.pow_succ, Nat.mul_comm]
      exact Nat.lt_of_lt_of_le hUV (Nat.mul_le_mul_left _ (Nat.le_of_lt hvl))
    obtain ⟨hz3, hsg⟩ := rest_zero (j := j) hus hUB (by omega)
    rw [← Nat.add_assoc] at hz3
    refine cp_drawn (by kernel_rfl) 32 [(0, true), (1, true), (2, true), (3, true), (4, true), (5, true), (6, true), (7, true), (8, true), (9, true), (10, true), (11, true), (12, true), (13, true), (14, true), (15, true), (16, true), (17, true), (18, true), (19, true), (20, true), (21, true), (22, true), (23, true), (24, true), (25, true), (26, true), (27, true), (28, true), (29, true), (30, false), (31, true)] _ rfl (by kernel_rfl) (by kernel_rfl) (by kernel_rfl) (fun _ _ _ _ _ h => h) _ (hst.drew) ?_
    have hst0 := hst.drew
    clear hst
    have hst := hst0
    refine stepD_d rfl rfl rfl rfl (does_move rfl rfl) ?_
    refine stepD_d rfl rfl rfl rfl (does_move rfl rfl) ?_
    refine stepD_d rfl rfl rfl rfl (does_move rfl rfl) ?_
    refine stepD_d rfl rfl rfl rfl (Does.int (does_add rfl rfl rfl) (wrap_i64 (by omega) (by omega))) ?_
    refine stepD_d rfl rfl rfl rfl (does_indexAddr1 (j := (j + m)) rfl zf1 (by kernel_rfl) rfl rfl (by omega) (by omega)) ?_
    refine stepD_d rfl rfl rfl rfl (does_load_own1 0 rfl (by kernel_rfl) rfl rfl (uN_arr_get (by rw [Nat.zero_add]; exact hu2))) ?_
    refine stepD_d rfl rfl rfl rfl (does_move rfl rfl) ?_
    refine stepD_d rfl rfl rfl rfl (does_move rfl rfl) ?_
    refine stepD_d rfl rfl rfl rfl (does_move rfl rfl) ?_
    refine stepD_d rfl rfl rfl rfl (Does.int (does_add rfl rfl rfl) (wrap_i64 (by omega) (by omega))) ?_
    refine stepD_d rfl rfl rfl rfl (Does.int (does_sub rfl rfl rfl) (wrap_i64 (by omega) (by omega))) ?_
    refine stepD_d rfl rfl rfl rfl (does_indexAddr1 (j := (j + m - 1)) rfl zf1 (by kernel_rfl) rfl rfl (by omega) (by omega)) ?_
    refine stepD_d rfl rfl rfl rfl (does_load_own1 0 rfl (by kernel_rfl) rfl rfl (uN_arr_get (by rw [Nat.zero_add]; exact hu1))) ?_
    refine stepD_d rfl rfl rfl rfl (does_move rfl rfl) ?_
    refine stepD_d rfl rfl rfl rfl (does_move rfl rfl) ?_
    refine stepD_d rfl rfl rfl rfl (does_move rfl rfl) ?_
    refine stepD_d rfl rfl rfl rfl (Does.int (does_add rfl rfl rfl) (wrap_i64 (by omega) (by omega))) ?_
    refine stepD_d rfl rfl rfl rfl (Does.int (does_sub rfl rfl rfl) (wrap_i64 (by omega) (by omega))) ?_
    refine stepD_d rfl rfl rfl rfl (does_indexAddr1 (j := (j + m - 2)) rfl zf1 (by kernel_rfl) rfl rfl (by omega) (by omega)) ?_
    refine stepD_d rfl rfl rfl rfl (does_load_own1 0 rfl (by kernel_rfl) rfl rfl (uN_arr_get (by rw [Nat.zero_add]; exact hu0))) ?_
    refine stepD_d rfl rfl rfl rfl (does_move rfl rfl) ?_
    refine stepD_d rfl rfl rfl rfl (does_move rfl rfl) ?_
    refine stepD_d rfl rfl rfl rfl (Does.int (does_sub rfl rfl rfl) (wrap_i64 (by omega) (by omega))) ?_
    refine stepD_d rfl rfl rfl rfl (does_indexAddr1 (j := (m - 1)) rfl zf1 (by kernel_rfl) rfl rfl (by omega) (by omega)) ?_
    refine stepD_d rfl rfl rfl rfl (does_load_g1 rfl (by kernel_rfl) rfl (hb4.at_ _ _ hv1)) ?_
    refine stepD_d rfl rfl rfl rfl (does_move rfl rfl) ?_
    refine stepD_d rfl rfl rfl rfl (does_move rfl rfl) ?_
    refine stepD_d rfl rfl rfl rfl (Does.int (does_sub rfl rfl rfl) (wrap_i64 (by omega) (by omega))) ?_
    refine stepD_d rfl rfl rfl rfl (does_indexAddr1 (j := (m - 2)) rfl zf1 (by kernel_rfl) rfl rfl (by omega) (by omega)) ?_
    refine stepD_d rfl rfl rfl rfl (does_load_g1 rfl (by kernel_rfl) rfl (hb4.at_ _ _ hv0)) ?_
    refine stepD_call rfl rfl rfl rfl rfl rfl hst (num_guess hst.agree (hus.get hu2) (hus.get hu1) (hus.get hu0) (hvw.get hv1) (hvw.get hv0) (trimmed_last hvt hlv hv1)) (fun _ _ h hle => St.older h hle (by simp) hst0.ext hst0.le) ?_
    clear hst
    intro v10 g10 w10 hst hle10 hcs10 hp10
    have hlesum := hle10
    replace hvs := hvs.mono hle10
    obtain ⟨dg, rfl, hdg, hqm⟩ := hp10
    have hge : val (us.drop j) / val vs ≤ dg := hqm _ ((Nat.div_lt_iff_lt_mul hV).2 hUV) (digit_top hus hvw (by omega) (by omega) hlv hu2 hu1 hu0 hv1 hv0 hUB (Nat.div_mul_le_self _ _))
    refine stepD_d rfl rfl rfl rfl (does_assign rfl rfl) ?_
    refine stepD_tail ?_
    refine znt ?_
    refine cp_join (ι := Nat × List Nat) (fun (dg, us3) => [(8, .int .i64 (m : Int)), (10, .int .i64 (s : Int)), (11, .slice (some ⟨b4, o4, none⟩) m vc), (12, .slice (some ⟨bu, 0, none⟩) (n + 1) (n + 1)), (13, .slice (some ⟨bq, 0, none⟩) (n - m + 1) (n - m + 1)), (14, .int .i64 (((j + 1 : Nat) : Int) - 1)), (15, .int .u64 (dg : Int))]) (fun (dg, us3) w2 => ∃ g5, St w [] g g5 [(bu, .cells (uN .u64 us3).toArray 51 (0, 0)), (bq, .cells (uN .u64 qs).toArray 51 (0, 0))] w2 ∧ SlN g5 .u64 (some ⟨b4, o4, none⟩) m vs ∧ Words us3 ∧ us3.length = us.length ∧ us3.take j = us.take j ∧ us3.drop (j + m + 1) = us.drop (j + m + 1) ∧ dg < 18446744073709551616 ∧ val ((us3.drop j).take (m + 1)) + dg * val vs = val (us.drop j) ∧ val ((us3.drop j).take (m + 1)) < val vs) ?c11 ?d11
    case c11 =>
      refine zsr ?_
      refine zM rfl hst rfl ?_
      refine zM rfl hst rfl ?_
      refine zM rfl hst rfl ?_
      refine zM rfl hst rfl ?_
      refine stepK_d rfl rfl rfl hst (Does.int (does_add rfl rfl rfl) (wrap_i64 (by omega) (by omega))) ?_
      refine stepK_d rfl rfl rfl hst (Does.int (does_add rfl rfl rfl) (wrap_i64 (by omega) (by omega))) ?_
      refine stepK_d rfl rfl rfl hst (does_slice_mid (l := j) (m := m + 1) (r := j) rfl zf1 (by kernel_rfl) rfl rfl (by omega) rfl (by omega) (by omega) (by omega) (by omega)) ?_
      refine zM rfl hst rfl ?_
      refine zM rfl hst rfl ?_
      refine stepK_callM 0 rfl rfl rfl rfl rfl hst rfl (num_takeAway hst.agree (hst.owns _ (List.mem_cons_self ..)).1 (hst.owns _ (List.mem_cons_self ..)).2.1 hus (by omega) (by omega) hvs hvw hdg) ?_
      clear hst
      intro v12 g12 o12 w12 hst hle12 hp12
      simp only [List.cons_append, List.nil_append, List.set_cons_zero, List.set_cons_succ] at hst
      replace hvs := hvs.mono hle12
      obtain ⟨us2, br, rfl, rfl, hw2, hl2, ht2, hd2, hbr, hvv2⟩ := hp12
      rw [hsg] at hvv2
      refine znt ?_
      refine cp_if rfl ?_ ?_
      intro c109
      have hbr1 : br = 1 := by omega
      rw [hbr1, Nat.one_mul] at hvv2
      refine zsr ?_
      refine zM rfl hst rfl ?_
      refine stepK_d rfl rfl rfl hst (Does.nat (b := dg - 1) (does_sub_u64 (b := 1) rfl rfl rfl) (by have := digit_down hV hvv2 (seg_lt hw2) hge; omega)) ?_
      refine zA rfl hst rfl ?_
      refine znt ?_
      refine cp_block ?_
      refine cp_loop (ι := Nat × List Nat) (fun (e, us3) => [(8, .int .i64 (m : Int)), (10, .int .i64 (s : Int)), (11, .slice (some ⟨b4, o4, none⟩) m vc), (12, .slice (some ⟨bu, 0, none⟩) (n + 1) (n + 1)), (13, .slice (some ⟨bq, 0, none⟩) (n - m + 1) (n - m + 1)), (14, .int .i64 (((j + 1 : Nat) : Int) - 1)), (15, .int .u64 ((e - 1 : Nat) : Int))]) (fun (e, us3) w3 => ∃ g6, St w [] g g6 [(bu, .cells (uN .u64 us3).toArray 51 (0, 0)), (bq, .cells (uN .u64 qs).toArray 51 (0, 0))] w3 ∧ SlN g6 .u64 (some ⟨b4, o4, none⟩) m vs ∧ Words us3 ∧ us3.length = us.length ∧ us3.take j = us.take j ∧ us3.drop (j + m + 1) = us.drop (j + m + 1) ∧ 0 < e ∧ e < 18446744073709551616 ∧ val (us.drop j) / val vs ≤ e - 1 ∧ val ((us3.drop j).take (m + 1)) + e * val vs = val (us.drop j) + 18446744073709551616 ^ (m + 1)) (fun (e, us3) => e) (dg, us2) ?k13 ?i13 ?r13
      case k13 => exact ⟨rfl, rfl, rfl, rfl, rfl, rfl, rfl, trivial⟩
      case i13 =>
        have h8 := digit_down hV hvv2 (seg_lt hw2) hge
        exact ⟨_, hst, hvs, hw2, hl2, ht2, hd2, h8.2, hdg, h8.1, hvv2⟩
      case r13 =>
        clear hst
        rintro ⟨e, us3⟩ w3 ⟨g6, hst, hvs, hw3, hl3, ht3, hd3, he0, heB, hge3, hs3⟩
        refine cp_seq ?_
        refine zsr ?_
        refine zM rfl hst rfl ?_
        refine zM rfl hst rfl ?_
        refine zM rfl hst rfl ?_
        refine zM rfl hst rfl ?_
        refine stepK_d rfl rfl rfl hst (Does.int (does_add rfl rfl rfl) (wrap_i64 (by omega) (by omega))) ?_
        refine stepK_d rfl rfl rfl hst (Does.int (does_add rfl rfl rfl) (wrap_i64 (by omega) (by omega))) ?_
        refine stepK_d rfl rfl rfl hst (does_slice_mid (l := j) (m := m + 1) (r := j) rfl zf1 (by kernel_rfl) rfl rfl (by omega) rfl (by omega) (by omega) (by omega) (by omega)) ?_
        refine zM rfl hst rfl ?_
        refine stepK_callM 0 rfl rfl rfl rfl rfl hst rfl (num_putBack hst.agree (hst.owns _ (List.mem_cons_self ..)).1 (hst.owns _ (List.mem_cons_self ..)).2.1 hw3 (by omega) (by omega) hvs hvw) ?_
        clear hst
        intro v14 g14 o14 w14 hst hle14 hp14
        simp only [List.cons_append, List.nil_append, List.set_cons_zero, List.set_cons_succ] at hst
        replace hvs := hvs.mono hle14
        obtain ⟨us4, br4, rfl, rfl, hw4, hl4, ht4, hd4, hbr, hv4⟩ := hp14
        refine stepK_d rfl rfl rfl hst (does_not rfl rfl) ?_
        refine znt ?_
        refine cp_cond rfl ?_ ?_
        intro c121
        have hbr4 : br4 = 0 := by simpa using c121
        refine cp_skip ?_
        refine cp_then ?_
        refine cp_block ?_
        refine cp_region ?_
        refine zM rfl hst rfl ?_
        refine stepK_d rfl rfl rfl hst (Does.nat (b := e - 1 - 1) (does_sub_u64 (b := 1) rfl rfl rfl) (by have := digit_down hV (digit_more hs3 he0 (hbr4 ▸ hv4)) (seg_lt hw4) hge3; omega)) ?_
        refine zA rfl hst rfl ?_
        refine wpK_nil ?_
        refine at_block_normal ?_
        refine round_end ((e - 1, us4)) ?_ ?_ ?_
        exact ⟨rfl, rfl, rfl, rfl, rfl, rfl, rfl, trivial⟩
        have h8 := digit_down hV (digit_more hs3 he0 (hbr4 ▸ hv4)) (seg_lt hw4) hge3
        exact ⟨_, hst, hvs, hw4, by omega, ht4.trans ht3, hd4.trans hd3, h8.2, by omega, h8.1, digit_more hs3 he0 (hbr4 ▸ hv4)⟩
        show e - 1 < e
        omega
        intro c121
        have hbr4 : br4 = 1 := by simp at c121; omega
        refine cp_exit ?_
        refine at_then_exit ?_
        refine at_then_exit ?_
        refine cp_exit_here ?_
        have h7 := digit_add hs3 he0 (hbr4 ▸ hv4)
        refine join_end ((e - 1, us4)) ?_ ?_
        exact ⟨rfl, rfl, rfl, rfl, rfl, rfl, rfl, trivial⟩
        have h8 := digit_now hV (q := 0) (p := 0) (by rw [Nat.zero_mul, Nat.add_zero]; exact h7) hge3
        exact ⟨_, hst, hvs, hw4, by omega, ht4.trans ht3, hd4.trans hd3, by omega, h7, h8.2⟩
      intro c109
      have hbr0 : br = 0 := by omega
      rw [hbr0] at hvv2
      refine cp_skip ?_
      have h8 := digit_now (q := 0) hV hvv2 hge
      refine join_end ((dg, us2)) ?_ ?_
      exact ⟨rfl, rfl, rfl, rfl, rfl, rfl, rfl, trivial⟩
      exact ⟨_, hst, hvs, hw2, hl2, ht2, hd2, hdg, h8.1, h8.2⟩
    case d11 =>
      clear hst
      clear hdg hge hqm
      rintro ⟨dg, us3⟩ w2 ⟨g5, hst, hvs, hw3, hl3, ht3, hd3, hdg3, hs3, hlt3⟩
      refine cp_region ?_
      refine zM rfl hst rfl ?_
      refine zM rfl hst rfl ?_
      refine zM rfl hst rfl ?_
      refine stepK_d rfl rfl rfl hst (does_indexAddr1 (j := j) rfl zf1 (by kernel_rfl) rfl rfl (by omega) (by omega)) ?_
      refine stepK_store 1 rfl rfl rfl rfl rfl rfl zf4 rfl rfl hst rfl (by first | (simp [uN_length]; omega) | simp) ?_
      clear hst
      intro w15 hst
      rw [Nat.zero_add, splice_uN _ _ _ _ (by omega)] at hst
      simp only [List.set_cons_zero, List.set_cons_succ] at hst
      refine wpK_nil ?_
      refine at_block_normal ?_
      refine cp_then ?_
      refine cp_region ?_
      refine zM rfl hst rfl ?_
      refine stepK_d rfl rfl rfl hst (Does.int (does_sub rfl rfl rfl) (wrap_i64 (by omega) (by omega))) ?_
      refine zA rfl hst rfl ?_
      refine wpK_nil ?_
      obtain ⟨hr1, hr2⟩ := divide_round (by omega) hl3 ht3 hd3 hz3 (by omega) hs3 hlt3 hA
      refine round_end ((j, us3, qs.set j dg)) ?_ ?_ ?_
      exact ⟨rfl, rfl, rfl, rfl, rfl, kint (by omega), trivial⟩
      exact ⟨_, hst, hvs, by omega, hw3, by omega, hqs.set hdg3, by simp [hql], hr1, hr2⟩
      show j < j + 1
      omega
    intro c66
    refine cp_exit ?_
    refine at_then_exit ?_
    refine at_then_exit ?_
    refine cp_exit_here ?_
    refine cp_then ?_
    refine cp_seq ?_
    obtain rfl : k = 0 := by omega
    simp only [List.drop_zero, Nat.pow_zero, Nat.one_mul] at hlt hA
    rw [hvv] at hlt hA
    obtain ⟨hst, hleq⟩ := hst.publish 1 rfl
    obtain ⟨hst, hleu⟩ := hst.publish 0 rfl
    replace hvs := (hvs.mono hleq).mono hleu
    have hde := divide_end (Nat.pow_pos (by decide)) hM hA hlt
    have hsu := SlN.put_uN (g := gput g1 bq (.cells (uN .u64 qs).toArray 51 (0, 0))) (k := .u64) (b := bu) (ws := us) (t := 51) (f := (0, 0))
    rw [hul] at hsu
    have hsq := (SlN.put_uN (g := g1) (k := .u64) (b := bq) (ws := qs) (t := 51) (f := (0, 0))).mono hleu
    rw [hql] at hsq
    refine cp_region ?_
    refine zM rfl hst rfl ?_
    refine stepK_call rfl rfl rfl rfl rfl hst (num_trim hst.agree hsq hqs (Nat.le_refl _) (by omega)) ?_
    clear hst
    intro v16 g16 w16 hst hle16 hcs16 hp16
    replace hvs := hvs.mono hle16
    replace hsu := hsu.mono hle16
    obtain ⟨Q, qn, qc, rfl, hQ⟩ := hp16
    refine zM rfl hst rfl ?_
    refine stepK_call rfl rfl rfl rfl rfl hst (num_trim hst.agree hsu hus (Nat.le_refl _) (by omega)) ?_
    clear hst
    intro v17 g17 w17 hst hle17 hcs17 hp17
    replace hvs := hvs.mono hle17
    replace hsu := hsu.mono hle17
    replace hQ := hQ.mono hle17
    obtain ⟨R, rn, rc, rfl, hR⟩ := hp17
    have hrn : rn ≤ m := hR.len (Nat.lt_trans hlt (by rw [← hvv]; exact hvl))
    refine zM rfl hst rfl ?_
    refine stepK_call rfl rfl rfl rfl rfl hst (num_right hst.agree hR (by omega) (by omega)) ?_
    clear hst
    intro v18 g18 w18 hst hle18 hcs18 hp18
    replace hvs := hvs.mono hle18
    replace hsu := hsu.mono hle18
    replace hQ := hQ.mono hle18
    replace hR := hR.mono hle18
    obtain ⟨A18, n18, c18, rfl, hn18⟩ := hp18
    refine zA rfl hst rfl ?_
    refine zA rfl hst rfl ?_
    refine znt ?_
    refine cp_ret ?_
    refine ret2 rfl rfl rfl hst ?_
    refine ⟨_, _, _, _, _, _, rfl, ?_, ?_⟩
    rw [← hde.1]; exact hQ
    rw [← hde.2]; assumption

end Go.Proofs.YtcjhnkmoloiepaaDoor
