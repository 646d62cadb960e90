/- A helper of the claim: general lemmas and walks of functions, printed by a program of this session. Conditions: none. -/
import Derived.Test.YtcjhnkmoloiepaaGreatDoorQ3
import Derived.Test.YtcjhnkmoloiepaaGreatDoorProg
import Derived.Test.YtcjhnkmoloiepaaGreatDoorF0
namespace Go.Proofs.YtcjhnkmoloiepaaGreatDoor
open Go Go.RowKit Go.Proofs.Vc
set_option linter.unusedVariables false
set_option linter.unusedSimpArgs false

set_option maxHeartbeats 1000000 in
theorem snum_trim {g : Mem} {w : World} (hag : Agree g w) {A : Option Addr} {n c : Nat} {ws : List Nat} (hs : SlN g .u32 A n ws) (hw : HWords ws) (hc : n ≤ c) (hn : n ≤ 281474976710656) :
    CallTo Tryz.prog 101 #[.slice A n c] w (Ret w g fun v g => ∃ A n c, v = .slice A n c ∧ IsHat g A n (hval ws)) := by
  refine CallTo.enter (vs := [.slice A n c]) zf79 (by kernel_rfl) rfl rfl rfl ?_
  have hst := St.init hag
  refine zsr ?_
  refine zA rfl hst rfl ?_
  refine znq ?_
  refine cp_block ?_
  refine cp_loop (ι := Nat) (fun m => [(0, .slice A m c)]) (fun m w1 => St w [] g g [] w1 ∧ m ≤ n ∧ hval (ws.take m) = hval ws) (fun m => m) n ?k1 ?i1 ?r1
  case k1 => exact ⟨rfl, trivial⟩
  case i1 =>
    exact ⟨hst, Nat.le_refl _, by rw [List.take_of_length_le (by rw [hs.1]; omega)]⟩
  case r1 =>
    clear hst
    rintro m w1 ⟨hst, hm, hv⟩
    refine cp_seq ?_
    refine zsr ?_
    refine zM rfl hst rfl ?_
    refine stepK_d rfl rfl rfl hst (does_len_slice rfl zf80 rfl) ?_
    refine stepK_d rfl rfl rfl hst (does_gtr rfl rfl rfl) ?_
    refine zM rfl hst rfl ?_
    refine wpK_split (t := 6) rfl ?_ ?_
    intro s6
    have hl := hs.1
    obtain ⟨b, off, rfl, hb⟩ := hs.some_ (by omega)
    obtain ⟨x, hx⟩ := get_of_lt (ws := ws) (j := m - 1) (by omega)
    refine stepK_guard rfl rfl rfl rfl rfl rfl hst (does_move rfl rfl) ?_
    refine stepK_guard rfl rfl rfl rfl rfl rfl hst (does_move rfl rfl) ?_
    refine stepK_guard rfl rfl rfl rfl rfl rfl hst (does_len_slice rfl zf80 rfl) ?_
    refine stepK_guard rfl rfl rfl rfl rfl rfl hst (Does.int (does_sub rfl rfl rfl) (wrap_i64 (by omega) (by omega))) ?_
    refine stepK_guard rfl rfl rfl rfl rfl rfl hst (does_indexAddr1 (j := (m - 1)) rfl zf80 (by kernel_rfl) rfl rfl (by omega) (by omega)) ?_
    refine stepK_guard rfl rfl rfl rfl rfl rfl hst (does_load_g1 rfl (by kernel_rfl) rfl (hb.at_ _ _ hx)) ?_
    refine stepK_guard rfl rfl rfl rfl rfl rfl hst (does_eql_n (b := 0) rfl rfl rfl) ?_
    refine stepK_d rfl rfl rfl hst (does_pick_true rfl rfl rfl) ?_
    refine znt ?_
    refine cp_if rfl ?_ ?_
    intro c14
    refine cp_skip ?_
    refine cp_then ?_
    refine cp_block ?_
    refine cp_region ?_
    refine zM rfl hst rfl ?_
    refine zM rfl hst rfl ?_
    refine stepK_d rfl rfl rfl hst (does_len_slice rfl zf80 rfl) ?_
    refine stepK_d rfl rfl rfl hst (Does.int (does_sub rfl rfl rfl) (wrap_i64 (by omega) (by omega))) ?_
    refine stepK_d rfl rfl rfl hst (does_slice_to (h := (m - 1)) rfl zf80 zf81 rfl rfl (by omega) (by omega)) ?_
    refine zA rfl hst rfl ?_
    refine wpK_nil ?_
    refine at_block_normal ?_
    subst c14
    refine round_end (m - 1) ?_ ?_ ?_
    exact ⟨rfl, trivial⟩
    exact ⟨hst, by omega, by rw [h_val_take_zero (by omega) hx, hv]⟩
    omega
    intro c14
    refine cp_exit ?_
    refine at_then_exit ?_
    refine at_then_exit ?_
    refine cp_exit_here ?_
    refine cp_then ?_
    refine zsr ?_
    refine zM rfl hst rfl ?_
    refine zA rfl hst rfl ?_
    refine znt ?_
    refine cp_ret ?_
    refine ret1 rfl rfl hst ⟨_, _, _, rfl, ?_⟩
    rw [← hv]
    exact IsHat.of_take hs hw hm (.inr ⟨x, hx, c14⟩)
    intro s6
    refine stepK_pass rfl rfl rfl rfl rfl rfl rfl ?_
    refine stepK_pass rfl rfl rfl rfl rfl rfl rfl ?_
    refine stepK_pass rfl rfl rfl rfl rfl rfl rfl ?_
    refine stepK_pass rfl rfl rfl rfl rfl rfl rfl ?_
    refine stepK_pass rfl rfl rfl rfl rfl rfl rfl ?_
    refine stepK_pass rfl rfl rfl rfl rfl rfl rfl ?_
    refine stepK_pass rfl rfl rfl rfl rfl rfl rfl ?_
    refine stepK_d rfl rfl rfl hst (does_pick_false rfl rfl rfl) ?_
    refine znt ?_
    refine cp_cond_false rfl ?_
    refine cp_exit ?_
    refine at_then_exit ?_
    refine at_then_exit ?_
    refine cp_exit_here ?_
    refine cp_then ?_
    refine zsr ?_
    refine zM rfl hst rfl ?_
    refine zA rfl hst rfl ?_
    refine znt ?_
    refine cp_ret ?_
    refine ret1 rfl rfl hst ⟨_, _, _, rfl, ?_⟩
    rw [← hv]
    exact IsHat.of_take hs hw hm (.inl (by omega))

set_option maxHeartbeats 1000000 in
theorem snum_trimM {g : Mem} {w : World} (hag : Agree g w) {bo n c : Nat} {ws : List Nat} (hb : w.heap[bo]? = some (.cells (uN .u32 ws).toArray 121 (0, 0))) (hgb : g bo = none) (hnl : n ≤ ws.length) (hc : n ≤ c) (hn : n ≤ 281474976710656) :
    CallTo Tryz.prog 101 #[.slice (some ⟨bo, 0, none⟩) n c] w (RetM w bo g fun v g o => ∃ m c2, v = .slice (some ⟨bo, 0, none⟩) m c2 ∧ o = .cells (uN .u32 ws).toArray 121 (0, 0) ∧ m ≤ n ∧ m ≤ c2 ∧ (m = 0 ∨ ∃ x, ws[m - 1]? = some x ∧ x ≠ 0) ∧ hval (ws.take m) = hval (ws.take n)) := by
  refine CallTo.enter (vs := [.slice (some ⟨bo, 0, none⟩) n c]) zf79 (by kernel_rfl) rfl rfl rfl ?_
  have hst := St.initM hag hb hgb
  refine zsr ?_
  refine zA rfl hst rfl ?_
  refine znq ?_
  refine cp_block ?_
  refine cp_loop (ι := Nat) (fun m => [(0, .slice (some ⟨bo, 0, none⟩) m c)]) (fun m w1 => St w [bo] g g [(bo, .cells (uN .u32 ws).toArray 121 (0, 0))] w1 ∧ m ≤ n ∧ hval (ws.take m) = hval (ws.take n)) (fun m => m) n ?k1 ?i1 ?r1
  case k1 => exact ⟨rfl, trivial⟩
  case i1 =>
    exact ⟨hst, Nat.le_refl _, rfl⟩
  case r1 =>
    clear hst
    rintro m w1 ⟨hst, hm, hv⟩
    refine cp_seq ?_
    refine zsr ?_
    refine zM rfl hst rfl ?_
    refine stepK_d rfl rfl rfl hst (does_len_slice rfl zf80 rfl) ?_
    refine stepK_d rfl rfl rfl hst (does_gtr rfl rfl rfl) ?_
    refine zM rfl hst rfl ?_
    refine wpK_split (t := 6) rfl ?_ ?_
    intro s6
    obtain ⟨x, hx⟩ := get_of_lt (ws := ws) (j := m - 1) (by omega)
    refine stepK_guard rfl rfl rfl rfl rfl rfl hst (does_move rfl rfl) ?_
    refine stepK_guard rfl rfl rfl rfl rfl rfl hst (does_move rfl rfl) ?_
    refine stepK_guard rfl rfl rfl rfl rfl rfl hst (does_len_slice rfl zf80 rfl) ?_
    refine stepK_guard rfl rfl rfl rfl rfl rfl hst (Does.int (does_sub rfl rfl rfl) (wrap_i64 (by omega) (by omega))) ?_
    refine stepK_guard rfl rfl rfl rfl rfl rfl hst (does_indexAddr1 (j := (m - 1)) rfl zf80 (by kernel_rfl) rfl rfl (by omega) (by omega)) ?_
    refine stepK_guard rfl rfl rfl rfl rfl rfl hst (does_load_own1 0 rfl (by kernel_rfl) rfl rfl (uN_arr_get (by rw [Nat.zero_add]; exact hx))) ?_
    refine stepK_guard rfl rfl rfl rfl rfl rfl hst (does_eql_n (b := 0) rfl rfl rfl) ?_
    refine stepK_d rfl rfl rfl hst (does_pick_true rfl rfl rfl) ?_
    refine znt ?_
    refine cp_if rfl ?_ ?_
    intro c14
    refine cp_skip ?_
    refine cp_then ?_
    refine cp_block ?_
    refine cp_region ?_
    refine zM rfl hst rfl ?_
    refine zM rfl hst rfl ?_
    refine stepK_d rfl rfl rfl hst (does_len_slice rfl zf80 rfl) ?_
    refine stepK_d rfl rfl rfl hst (Does.int (does_sub rfl rfl rfl) (wrap_i64 (by omega) (by omega))) ?_
    refine stepK_d rfl rfl rfl hst (does_slice_to (h := (m - 1)) rfl zf80 zf81 rfl rfl (by omega) (by omega)) ?_
    refine zA rfl hst rfl ?_
    refine wpK_nil ?_
    refine at_block_normal ?_
    subst c14
    refine round_end (m - 1) ?_ ?_ ?_
    exact ⟨rfl, trivial⟩
    exact ⟨hst, by omega, by rw [h_val_take_zero (by omega) hx, hv]⟩
    omega
    intro c14
    refine cp_exit ?_
    refine at_then_exit ?_
    refine at_then_exit ?_
    refine cp_exit_here ?_
    refine cp_then ?_
    refine zsr ?_
    refine zM rfl hst rfl ?_
    refine zA rfl hst rfl ?_
    refine znt ?_
    refine cp_ret ?_
    refine retM1 rfl rfl hst ?_
    exact ⟨_, _, rfl, rfl, hm, by omega, .inr ⟨x, hx, c14⟩, hv⟩
    intro s6
    refine stepK_pass rfl rfl rfl rfl rfl rfl rfl ?_
    refine stepK_pass rfl rfl rfl rfl rfl rfl rfl ?_
    refine stepK_pass rfl rfl rfl rfl rfl rfl rfl ?_
    refine stepK_pass rfl rfl rfl rfl rfl rfl rfl ?_
    refine stepK_pass rfl rfl rfl rfl rfl rfl rfl ?_
    refine stepK_pass rfl rfl rfl rfl rfl rfl rfl ?_
    refine stepK_pass rfl rfl rfl rfl rfl rfl rfl ?_
    refine stepK_d rfl rfl rfl hst (does_pick_false rfl rfl rfl) ?_
    refine znt ?_
    refine cp_cond_false rfl ?_
    refine cp_exit ?_
    refine at_then_exit ?_
    refine at_then_exit ?_
    refine cp_exit_here ?_
    refine cp_then ?_
    refine zsr ?_
    refine zM rfl hst rfl ?_
    refine zA rfl hst rfl ?_
    refine znt ?_
    refine cp_ret ?_
    refine retM1 rfl rfl hst ?_
    exact ⟨_, _, rfl, rfl, hm, by omega, .inl (by omega), hv⟩

set_option maxHeartbeats 1000000 in
theorem snum_cmpMag {g : Mem} {w : World} (hag : Agree g w) {A B : Option Addr} {n c m d N M : Nat} (ha : IsHat g A n N) (hb : IsHat g B m M) (hn : n ≤ 9223372036854775807) :
    CallTo Tryz.prog 111 #[.slice A n c, .slice B m d] w (Ret w g fun v g => v = .int .i64 (cmpN N M)) := by
  refine CallTo.enter (vs := [.slice A n c, .slice B m d]) zf82 (by kernel_rfl) rfl rfl rfl ?_
  have hst := St.init hag
  obtain ⟨xs, hxs, hxw, hxt, rfl⟩ := ha
  obtain ⟨ys, hys, hyw, hyt, rfl⟩ := hb
  have hlx := hxs.1
  have hly := hys.1
  refine zsr ?_
  refine zA rfl hst rfl ?_
  refine znq ?_
  refine zsr ?_
  refine zM rfl hst rfl ?_
  refine stepK_d rfl rfl rfl hst (does_len_slice rfl zf80 rfl) ?_
  refine zM rfl hst rfl ?_
  refine stepK_d rfl rfl rfl hst (does_len_slice rfl zf80 rfl) ?_
  refine stepK_d rfl rfl rfl hst (does_neq rfl rfl rfl) ?_
  refine znt ?_
  refine cp_if rfl ?_ ?_
  intro c10
  refine cp_seq ?_
  refine zsr ?_
  refine zM rfl hst rfl ?_
  refine stepK_d rfl rfl rfl hst (does_len_slice rfl zf80 rfl) ?_
  refine zM rfl hst rfl ?_
  refine stepK_d rfl rfl rfl hst (does_len_slice rfl zf80 rfl) ?_
  refine stepK_d rfl rfl rfl hst (does_lss rfl rfl rfl) ?_
  refine znt ?_
  refine cp_if rfl ?_ ?_
  intro c15
  refine zsr ?_
  refine zA rfl hst rfl ?_
  refine zn5 ?_
  refine at_then_ret ?_
  refine ret1 rfl rfl hst ?_
  rw [cmpN_lt (h_trimmed_len_lt hxw hyt (by omega))]
  intro c15
  refine zk4 ?_
  refine zA rfl hst rfl ?_
  refine zn5 ?_
  refine ret1 rfl rfl hst ?_
  rw [cmpN_gt (h_trimmed_len_lt hyw hxt (by omega))]
  intro c10
  have hnm : n = m := by omega
  refine cp_skip ?_
  refine cp_then ?_
  refine cp_seq ?_
  refine zsr ?_
  refine zM rfl hst rfl ?_
  refine stepK_d rfl rfl rfl hst (does_len_slice rfl zf80 rfl) ?_
  refine stepK_d rfl rfl rfl hst (Does.int (does_sub rfl rfl rfl) (wrap_i64 (by omega) (by omega))) ?_
  refine zA rfl hst rfl ?_
  refine znt ?_
  refine cp_block ?_
  refine cp_loop (ι := Nat) (fun k => [(0, .slice A n c), (1, .slice B m d), (5, .int .i64 ((k : Int) - 1))]) (fun k w1 => St w [] g g [] w1 ∧ k ≤ n ∧ xs.drop k = ys.drop k) (fun k => k) n ?k1 ?i1 ?r1
  case k1 => exact ⟨rfl, rfl, rfl, trivial⟩
  case i1 =>
    exact ⟨hst, Nat.le_refl _, by rw [List.drop_eq_nil_of_le (by omega), List.drop_eq_nil_of_le (by omega)]⟩
  case r1 =>
    clear hst
    rintro k w1 ⟨hst, hk, hd⟩
    refine cp_seq ?_
    refine zsr ?_
    refine zM rfl hst rfl ?_
    refine stepK_d rfl rfl rfl hst (does_geq rfl rfl rfl) ?_
    refine znt ?_
    refine cp_if rfl ?_ ?_
    intro c20
    refine cp_skip ?_
    refine cp_then ?_
    refine cp_seq ?_
    refine cp_block ?_
    refine cp_seq ?_
    obtain ⟨b1, o1, rfl, hb1⟩ := hxs.some_ (by omega)
    obtain ⟨b2, o2, rfl, hb2⟩ := hys.some_ (by omega)
    obtain ⟨x, hx⟩ := get_of_lt (ws := xs) (j := k - 1) (by omega)
    obtain ⟨y, hy⟩ := get_of_lt (ws := ys) (j := k - 1) (by omega)
    refine cp_drawn (by kernel_rfl) 9 [(0, true), (1, true), (2, true), (3, true), (4, true), (5, true), (6, true), (7, true), (8, true)] _ rfl (by kernel_rfl) (by kernel_rfl) (by kernel_rfl) (fun _ _ _ _ _ h => h) _ (hst.drew) ?_
    have hst0 := hst.drew
    clear hst
    have hst := hst0
    refine stepD_d rfl rfl rfl rfl (does_move rfl rfl) ?_
    refine stepD_d rfl rfl rfl rfl (does_move rfl rfl) ?_
    refine stepD_d rfl rfl rfl rfl (does_indexAddr1 (j := (k - 1)) rfl zf80 (by kernel_rfl) rfl rfl (by omega) (by omega)) ?_
    refine stepD_d rfl rfl rfl rfl (does_load_g1 rfl (by kernel_rfl) rfl (hb1.at_ _ _ hx)) ?_
    refine stepD_d rfl rfl rfl rfl (does_move rfl rfl) ?_
    refine stepD_d rfl rfl rfl rfl (does_move rfl rfl) ?_
    refine stepD_d rfl rfl rfl rfl (does_indexAddr1 (j := (k - 1)) rfl zf80 (by kernel_rfl) rfl rfl (by omega) (by omega)) ?_
    refine stepD_d rfl rfl rfl rfl (does_load_g1 rfl (by kernel_rfl) rfl (hb2.at_ _ _ hy)) ?_
    refine stepD_d rfl rfl rfl rfl (does_neq_n rfl rfl rfl) ?_
    refine stepD_tail ?_
    refine znt ?_
    refine cp_if rfl ?_ ?_
    intro c31
    refine cp_seq ?_
    refine cp_seq ?_
    refine cp_drawn (by kernel_rfl) 9 [(0, true), (1, true), (2, true), (3, true), (4, true), (5, true), (6, true), (7, true), (8, true)] _ rfl (by kernel_rfl) (by kernel_rfl) (by kernel_rfl) (fun _ _ _ _ _ h => h) _ (hst.drew) ?_
    have hst0 := hst.drew
    clear hst
    have hst := hst0
    refine stepD_d rfl rfl rfl rfl (does_move rfl rfl) ?_
    refine stepD_d rfl rfl rfl rfl (does_move rfl rfl) ?_
    refine stepD_d rfl rfl rfl rfl (does_indexAddr1 (j := (k - 1)) rfl zf80 (by kernel_rfl) rfl rfl (by omega) (by omega)) ?_
    refine stepD_d rfl rfl rfl rfl (does_load_g1 rfl (by kernel_rfl) rfl (hb1.at_ _ _ hx)) ?_
    refine stepD_d rfl rfl rfl rfl (does_move rfl rfl) ?_
    refine stepD_d rfl rfl rfl rfl (does_move rfl rfl) ?_
    refine stepD_d rfl rfl rfl rfl (does_indexAddr1 (j := (k - 1)) rfl zf80 (by kernel_rfl) rfl rfl (by omega) (by omega)) ?_
    refine stepD_d rfl rfl rfl rfl (does_load_g1 rfl (by kernel_rfl) rfl (hb2.at_ _ _ hy)) ?_
    refine stepD_d rfl rfl rfl rfl (does_lss_n rfl rfl rfl) ?_
    refine stepD_tail ?_
    refine znt ?_
    refine cp_if rfl ?_ ?_
    intro c40
    refine zsr ?_
    refine zA rfl hst rfl ?_
    refine zn5 ?_
    refine at_block_ret ?_
    refine at_then_ret ?_
    refine at_then_ret ?_
    refine at_block_ret ?_
    refine at_then_ret ?_
    refine ret1 rfl rfl hst ?_
    rw [cmpN_lt (h_words_lt (by omega) hxw hx hy (by rw [show k - 1 + 1 = k by omega]; exact hd) c40)]
    intro c40
    refine zk4 ?_
    refine zA rfl hst rfl ?_
    refine znt ?_
    refine cp_ret ?_
    refine at_block_ret ?_
    refine at_then_ret ?_
    refine at_then_ret ?_
    refine at_block_ret ?_
    refine at_then_ret ?_
    refine ret1 rfl rfl hst ?_
    rw [cmpN_gt (h_words_lt (by omega) hyw hy hx (by rw [show k - 1 + 1 = k by omega]; exact hd.symm) (by omega))]
    intro c31
    refine cp_skip ?_
    refine at_block_normal ?_
    refine cp_then ?_
    refine cp_region ?_
    refine zM rfl hst rfl ?_
    refine stepK_d rfl rfl rfl hst (Does.int (does_sub rfl rfl rfl) (wrap_i64 (by omega) (by omega))) ?_
    refine zA rfl hst rfl ?_
    refine wpK_nil ?_
    have hxy : x = y := by omega
    subst hxy
    refine round_end (k - 1) ?_ ?_ ?_
    exact ⟨rfl, rfl, kint (by omega), trivial⟩
    exact ⟨hst, by omega, by rw [drop_cons_get hx, drop_cons_get hy, show k - 1 + 1 = k by omega, hd]⟩
    omega
    intro c20
    refine cp_exit ?_
    refine at_then_exit ?_
    refine at_then_exit ?_
    refine cp_exit_here ?_
    refine cp_then ?_
    refine zsr ?_
    refine zA rfl hst rfl ?_
    refine znt ?_
    refine cp_ret ?_
    refine ret1 rfl rfl hst ?_
    have hk0 : k = 0 := by omega
    subst hk0
    simp only [List.drop_zero] at hd
    rw [hd, cmpN_eq rfl]

end Go.Proofs.YtcjhnkmoloiepaaGreatDoor

namespace Go.Proofs.YtcjhnkmoloiepaaGreatDoor
open Go Go.RowKit Go.Proofs.Vc
set_option linter.unusedVariables false
set_option linter.unusedSimpArgs false

set_option maxHeartbeats 1000000 in
theorem snum_addMag {g : Mem} {w : World} (hag : Agree g w) {A B : Option Addr} {n c m d N M : Nat} (ha : IsHat g A n N) (hb : IsHat g B m M) (hn : n ≤ 17592186044415) (hm : m ≤ 17592186044415) :
    CallTo Tryz.prog 110 #[.slice A n c, .slice B m d] w (Ret w g fun v g => ∃ A n c, v = .slice A n c ∧ IsHat g A n (N + M)) := by
  refine CallTo.enter (vs := [.slice A n c, .slice B m d]) zf83 (by kernel_rfl) rfl rfl rfl ?_
  have hst := St.init hag
  obtain ⟨xs0, hxs0, hxw0, hxt0, rfl⟩ := ha
  obtain ⟨ys0, hys0, hyw0, hyt0, rfl⟩ := hb
  refine zsr ?_
  refine zA rfl hst rfl ?_
  refine znt ?_
  refine cp_join (ι := (Option Addr × Nat × Nat × List Nat) × (Option Addr × Nat × Nat × List Nat)) (fun ((A1, n1, c1, xs), (B1, m1, d1, ys)) => [(0, .slice A1 n1 c1), (1, .slice B1 m1 d1)]) (fun ((A1, n1, c1, xs), (B1, m1, d1, ys)) w1 => St w [] g g [] w1 ∧ SlN g .u32 A1 n1 xs ∧ SlN g .u32 B1 m1 ys ∧ HWords xs ∧ HWords ys ∧ HTrim xs ∧ m1 ≤ n1 ∧ n1 ≤ 17592186044415 ∧ hval xs0 + hval ys0 = hval xs + hval ys) ?c1 ?d1
  case c1 =>
    refine zsr ?_
    refine zM rfl hst rfl ?_
    refine stepK_d rfl rfl rfl hst (does_len_slice rfl zf80 rfl) ?_
    refine zM rfl hst rfl ?_
    refine stepK_d rfl rfl rfl hst (does_len_slice rfl zf80 rfl) ?_
    refine stepK_d rfl rfl rfl hst (does_lss rfl rfl rfl) ?_
    refine znt ?_
    refine cp_if rfl ?_ ?_
    intro c12
    refine cp_region ?_
    refine zM rfl hst rfl ?_
    refine zM rfl hst rfl ?_
    refine zA rfl hst rfl ?_
    refine zA rfl hst rfl ?_
    refine wpK_nil ?_
    refine join_end (((B, m, d, ys0), (A, n, c, xs0))) ?_ ?_
    exact ⟨rfl, rfl, trivial⟩
    exact ⟨hst, hys0, hxs0, hyw0, hxw0, hyt0, by omega, hm, Nat.add_comm _ _⟩
    intro c12
    refine cp_skip ?_
    refine join_end (((A, n, c, xs0), (B, m, d, ys0))) ?_ ?_
    exact ⟨rfl, rfl, trivial⟩
    exact ⟨hst, hxs0, hys0, hxw0, hyw0, hxt0, by omega, hn, rfl⟩
  case d1 =>
    clear hst
    rintro ⟨⟨A1, n1, c1, xs⟩, ⟨B1, m1, d1, ys⟩⟩ w1 ⟨hst, hxs, hys, hxw, hyw, hxt, hmn, hn1, hsum⟩
    have hlx := hxs.1
    have hly := hys.1
    simp only [hsum]
    refine zsr ?_
    refine zM rfl hst rfl ?_
    refine stepK_d rfl rfl rfl hst (does_len_slice rfl zf80 rfl) ?_
    refine stepK_d rfl rfl rfl hst (Does.int (does_add rfl rfl rfl) (wrap_i64 (by omega) (by omega))) ?_
    refine stepK_make rfl rfl rfl (l := n1 + 1) (c := n1 + 1) rfl zf80 zf84 rfl rfl rfl rfl (by omega) (by omega) (by omega) (by omega) (by omega) hst ?_
    clear hst
    intro bo w2 hst
    rw [uN_rep] at hst
    refine zA rfl hst rfl ?_
    refine zn4 ?_
    refine zA rfl hst rfl ?_
    refine znq ?_
    refine zsr ?_
    refine zA rfl hst rfl ?_
    refine znt ?_
    refine cp_block ?_
    refine cp_loop (ι := Nat × Nat × List Nat) (fun (i, cy, ws) => [(0, .slice A1 n1 c1), (1, .slice B1 m1 d1), (5, .slice (some ⟨bo, 0, none⟩) (n1 + 1) (n1 + 1)), (6, .int .u64 (cy : Int)), (7, .int .i64 (i : Int))]) (fun (i, cy, ws) w1 => ∃ g1, St w [] g g1 [(bo, .cells (uN .u32 ws).toArray 121 (0, 0))] w1 ∧ i ≤ n1 ∧ cy ≤ 1 ∧ HWords ws ∧ ws.length = n1 + 1 ∧ hval (ws.take i) + cy * 4294967296 ^ i = hval (xs.take i) + hval (ys.take i)) (fun (i, cy, ws) => n1 - i) (0, 0, List.replicate (n1 + 1) 0) ?k3 ?i3 ?r3
    case k3 => exact ⟨rfl, rfl, rfl, rfl, rfl, trivial⟩
    case i3 =>
      exact ⟨_, hst, Nat.zero_le _, by decide, HWords.rep _, by simp, by simp [hval]⟩
    case r3 =>
      clear hst
      rintro ⟨i, cy, ws⟩ w1 ⟨g1, hst, hi, hcy, hws, hwl, hv⟩
      refine cp_seq ?_
      refine zsr ?_
      refine zM rfl hst rfl ?_
      refine zM rfl hst rfl ?_
      refine stepK_d rfl rfl rfl hst (does_len_slice rfl zf80 rfl) ?_
      refine stepK_d rfl rfl rfl hst (does_lss rfl rfl rfl) ?_
      refine znt ?_
      refine cp_if rfl ?_ ?_
      intro c22
      refine cp_skip ?_
      refine cp_then ?_
      refine cp_seq ?_
      refine cp_block ?_
      refine cp_seq ?_
      obtain ⟨b1, o1, rfl, hb1⟩ := hxs.some_ (by omega)
      obtain ⟨x, hx⟩ := get_of_lt (ws := xs) (j := i) (by omega)
      have hxlt := hxw.get hx
      refine cp_region ?_
      refine zM rfl hst rfl ?_
      refine zM rfl hst rfl ?_
      refine zM rfl hst rfl ?_
      refine stepK_d rfl rfl rfl hst (does_indexAddr1 rfl zf80 (by kernel_rfl) rfl rfl rfl (by omega)) ?_
      refine stepK_d rfl rfl rfl hst (does_load_g1 rfl (by kernel_rfl) rfl ((hb1.mono hst.le).at_ _ _ hx)) ?_
      refine stepK_d rfl rfl rfl hst (does_widen32 rfl (by kernel_rfl) (by kernel_rfl) rfl (by omega)) ?_
      refine stepK_d rfl rfl rfl hst (does_add_u64x rfl rfl rfl (by omega)) ?_
      refine zA rfl hst rfl ?_
      refine znt ?_
      refine cp_join (ι := Nat) (fun y => [(0, .slice (some ⟨b1, o1, none⟩) n1 c1), (1, .slice B1 m1 d1), (5, .slice (some ⟨bo, 0, none⟩) (n1 + 1) (n1 + 1)), (6, .int .u64 ((cy + x + y : Nat) : Int)), (7, .int .i64 (i : Int))]) (fun y w2 => St w [] g g1 [(bo, .cells (uN .u32 ws).toArray 121 (0, 0))] w2 ∧ y < 4294967296 ∧ hval (ys.take (i + 1)) = hval (ys.take i) + 4294967296 ^ i * y) ?c4 ?d4
      case c4 =>
        refine zsr ?_
        refine zM rfl hst rfl ?_
        refine zM rfl hst rfl ?_
        refine stepK_d rfl rfl rfl hst (does_len_slice rfl zf80 rfl) ?_
        refine stepK_d rfl rfl rfl hst (does_lss rfl rfl rfl) ?_
        refine znt ?_
        refine cp_if rfl ?_ ?_
        intro c35
        obtain ⟨b2, o2, rfl, hb2⟩ := hys.some_ (by omega)
        obtain ⟨yv, hyv⟩ := get_of_lt (ws := ys) (j := i) (by omega)
        have hylt := hyw.get hyv
        refine cp_region ?_
        refine zM rfl hst rfl ?_
        refine zM rfl hst rfl ?_
        refine zM rfl hst rfl ?_
        refine stepK_d rfl rfl rfl hst (does_indexAddr1 rfl zf80 (by kernel_rfl) rfl rfl rfl (by omega)) ?_
        refine stepK_d rfl rfl rfl hst (does_load_g1 rfl (by kernel_rfl) rfl ((hb2.mono hst.le).at_ _ _ hyv)) ?_
        refine stepK_d rfl rfl rfl hst (does_widen32 rfl (by kernel_rfl) (by kernel_rfl) rfl (by omega)) ?_
        refine stepK_d rfl rfl rfl hst (does_add_u64x rfl rfl rfl (by omega)) ?_
        refine zA rfl hst rfl ?_
        refine wpK_nil ?_
        refine join_end (yv) ?_ ?_
        exact ⟨rfl, rfl, rfl, rfl, rfl, trivial⟩
        exact ⟨hst, hyw.get hyv, h_val_take_succ hyv⟩
        intro c35
        refine cp_skip ?_
        refine join_end (0) ?_ ?_
        exact ⟨rfl, rfl, rfl, rfl, rfl, trivial⟩
        exact ⟨hst, by decide, by rw [h_val_take_past (by omega)]; omega⟩
      case d4 =>
        clear hst
        rintro y w2 ⟨hst, hy, hyv⟩
        refine zsr ?_
        refine zM rfl hst rfl ?_
        refine zM rfl hst rfl ?_
        refine zM rfl hst rfl ?_
        refine stepK_d rfl rfl rfl hst (does_conv_n_u32 rfl (by kernel_rfl) (by kernel_rfl) rfl) ?_
        refine stepK_d rfl rfl rfl hst (does_indexAddr1 rfl zf80 (by kernel_rfl) rfl rfl rfl (by omega)) ?_
        refine stepK_store 0 rfl rfl rfl rfl rfl rfl zf81 rfl rfl hst rfl (by first | (simp [uN_length]; omega) | simp) ?_
        clear hst
        intro w5 hst
        rw [splice_uN _ _ _ _ (by omega)] at hst
        simp only [List.set_cons_zero, Nat.zero_add] at hst
        refine zn3 ?_
        refine zM rfl hst rfl ?_
        refine stepK_d rfl rfl rfl hst (does_shr32 rfl rfl rfl) ?_
        refine zA rfl hst rfl ?_
        refine wpK_nil ?_
        refine at_block_normal ?_
        refine cp_then ?_
        refine cp_region ?_
        refine zM rfl hst rfl ?_
        refine stepK_d rfl rfl rfl hst (Does.int (does_add rfl rfl rfl) (wrap_i64 (by omega) (by omega))) ?_
        refine zA rfl hst rfl ?_
        refine wpK_nil ?_
        have hcc : cy + x + y = x + y + cy := by omega
        rw [hcc] at hst ⊢
        refine round_end ((i + 1, (x + y + cy) / 4294967296, ws.set i ((x + y + cy) % 4294967296))) ?_ ?_ ?_
        exact ⟨rfl, rfl, rfl, rfl, rfl, trivial⟩
        refine ⟨_, hst, by omega, by omega, hws.set (Nat.mod_lt _ (by decide)), by simp [hwl], ?_⟩
        rw [h_val_take_set (by omega), h_val_take_succ hx, hyv, pow_succ32]
        exact h_sum_step (i := i) hv
        show n1 - (i + 1) < n1 - i
        omega
      intro c22
      refine cp_exit ?_
      refine at_then_exit ?_
      refine at_then_exit ?_
      refine cp_exit_here ?_
      refine cp_then ?_
      refine cp_seq ?_
      obtain rfl : n1 = i := by omega
      have hval9 : hval (ws.take n1) + cy * 4294967296 ^ n1 = hval xs + hval ys := by rw [hv, h_val_all (by omega), h_val_all (by omega)]
      refine cp_region ?_
      refine zM rfl hst rfl ?_
      refine zM rfl hst rfl ?_
      refine stepK_d rfl rfl rfl hst (does_len_slice rfl zf80 rfl) ?_
      refine zM rfl hst rfl ?_
      refine stepK_d rfl rfl rfl hst (Does.nat (b := cy) (does_conv_n_u32 rfl (by kernel_rfl) (by kernel_rfl) rfl) (by rw [Nat.mod_eq_of_lt (by omega)])) ?_
      refine stepK_d rfl rfl rfl hst (does_indexAddr1 (j := n1) rfl zf80 (by kernel_rfl) rfl rfl (by omega) (by omega)) ?_
      refine stepK_store 0 rfl rfl rfl rfl rfl rfl zf81 rfl rfl hst rfl (by first | (simp [uN_length]; omega) | simp) ?_
      clear hst
      intro w6 hst
      rw [Nat.zero_add, splice_uN _ _ _ _ (by omega)] at hst
      simp only [List.set_cons_zero] at hst
      refine zn4 ?_
      refine zM rfl hst rfl ?_
      obtain ⟨hst, hle2⟩ := hst.publish 0 rfl
      refine stepK_call rfl rfl rfl rfl rfl hst (snum_trim hst.agree (ws := ws.set n1 cy) (by rw [show n1 + 1 = (ws.set n1 cy).length by simp [hwl]]; exact SlN.put_uN) (hws.set (by omega)) (Nat.le_refl _) (by omega)) ?_
      clear hst
      intro v7 g7 w7 hst hle7 hcs7 hp7
      obtain ⟨A7, n7, c7, rfl, hn7⟩ := hp7
      refine zA rfl hst rfl ?_
      refine znt ?_
      refine cp_ret ?_
      refine ret1 rfl rfl hst ?_
      refine ⟨_, _, _, rfl, ?_⟩
      have h9 := h_val_take_set (ws := ws) (i := n1) (z := cy) (by omega)
      rw [h_val_all (by simp [hwl])] at h9
      rw [← hval9, Nat.mul_comm cy, ← h9]
      assumption

end Go.Proofs.YtcjhnkmoloiepaaGreatDoor

namespace Go.Proofs.YtcjhnkmoloiepaaGreatDoor
open Go Go.RowKit Go.Proofs.Vc
set_option linter.unusedVariables false
set_option linter.unusedSimpArgs false

set_option maxHeartbeats 1000000 in
theorem snum_subMag {g : Mem} {w : World} (hag : Agree g w) {A B : Option Addr} {n c m d N M : Nat} (ha : IsHat g A n N) (hb : IsHat g B m M) (hn : n ≤ 17592186044415) (hle : M ≤ N) :
    CallTo Tryz.prog 112 #[.slice A n c, .slice B m d] w (Ret w g fun v g => ∃ A n c, v = .slice A n c ∧ IsHat g A n (N - M)) := by
  refine CallTo.enter (vs := [.slice A n c, .slice B m d]) zf85 (by kernel_rfl) rfl rfl rfl ?_
  have hst := St.init hag
  have hmn : m ≤ n := hb.len (Nat.lt_of_le_of_lt hle ha.lt)
  obtain ⟨xs, hxs, hxw, hxt, rfl⟩ := ha
  obtain ⟨ys, hys, hyw, hyt, rfl⟩ := hb
  have hlx := hxs.1
  have hly := hys.1
  refine zsr ?_
  refine zA rfl hst rfl ?_
  refine zn4 ?_
  refine zM rfl hst rfl ?_
  refine stepK_d rfl rfl rfl hst (does_len_slice rfl zf80 rfl) ?_
  refine stepK_make rfl rfl rfl (l := n) (c := n) rfl zf80 zf84 rfl rfl rfl rfl rfl rfl (by omega) (by omega) (by omega) hst ?_
  clear hst
  intro bo w1 hst
  rw [uN_rep] at hst
  refine zA rfl hst rfl ?_
  refine zn4 ?_
  refine zA rfl hst rfl ?_
  refine znq ?_
  refine zsr ?_
  refine zA rfl hst rfl ?_
  refine znt ?_
  refine cp_block ?_
  refine cp_loop (ι := Nat × Nat × List Nat) (fun (i, cy, ws) => [(0, .slice A n c), (1, .slice B m d), (5, .slice (some ⟨bo, 0, none⟩) n n), (6, .int .u64 (cy : Int)), (7, .int .i64 (i : Int))]) (fun (i, cy, ws) w1 => ∃ g1, St w [] g g1 [(bo, .cells (uN .u32 ws).toArray 121 (0, 0))] w1 ∧ i ≤ n ∧ cy ≤ 1 ∧ HWords ws ∧ ws.length = n ∧ hval (ws.take i) + hval (ys.take i) = hval (xs.take i) + cy * 4294967296 ^ i) (fun (i, cy, ws) => n - i) (0, 0, List.replicate n 0) ?k2 ?i2 ?r2
  case k2 => exact ⟨rfl, rfl, rfl, rfl, rfl, trivial⟩
  case i2 =>
    exact ⟨_, hst, Nat.zero_le _, by decide, HWords.rep _, by simp, by simp [hval]⟩
  case r2 =>
    clear hst
    rintro ⟨i, cy, ws⟩ w1 ⟨g1, hst, hi, hcy, hws, hwl, hv⟩
    refine cp_seq ?_
    refine zsr ?_
    refine zM rfl hst rfl ?_
    refine zM rfl hst rfl ?_
    refine stepK_d rfl rfl rfl hst (does_len_slice rfl zf80 rfl) ?_
    refine stepK_d rfl rfl rfl hst (does_lss rfl rfl rfl) ?_
    refine znt ?_
    refine cp_if rfl ?_ ?_
    intro c15
    refine cp_skip ?_
    refine cp_then ?_
    refine cp_seq ?_
    refine cp_block ?_
    refine cp_seq ?_
    obtain ⟨b1, o1, rfl, hb1⟩ := hxs.some_ (by omega)
    obtain ⟨x, hx⟩ := get_of_lt (ws := xs) (j := i) (by omega)
    have hxlt := hxw.get hx
    refine cp_region ?_
    refine zM rfl hst rfl ?_
    refine zM rfl hst rfl ?_
    refine stepK_d rfl rfl rfl hst (does_indexAddr1 rfl zf80 (by kernel_rfl) rfl rfl rfl (by omega)) ?_
    refine stepK_d rfl rfl rfl hst (does_load_g1 rfl (by kernel_rfl) rfl ((hb1.mono hst.le).at_ _ _ hx)) ?_
    refine stepK_d rfl rfl rfl hst (does_widen32 rfl (by kernel_rfl) (by kernel_rfl) rfl (by omega)) ?_
    refine zM rfl hst rfl ?_
    refine stepK_d rfl rfl rfl hst (does_sub_u64n rfl rfl rfl (by omega) (by omega)) ?_
    refine zA rfl hst rfl ?_
    refine znt ?_
    refine cp_join (ι := Nat) (fun y => [(0, .slice (some ⟨b1, o1, none⟩) n c), (1, .slice B m d), (5, .slice (some ⟨bo, 0, none⟩) n n), (7, .int .i64 (i : Int)), (8, .int .u64 (((x + 18446744073709551616 - y - cy) % 18446744073709551616 : Nat) : Int))]) (fun y w2 => St w [] g g1 [(bo, .cells (uN .u32 ws).toArray 121 (0, 0))] w2 ∧ y < 4294967296 ∧ hval (ys.take (i + 1)) = hval (ys.take i) + 4294967296 ^ i * y) ?c3 ?d3
    case c3 =>
      refine zsr ?_
      refine zM rfl hst rfl ?_
      refine zM rfl hst rfl ?_
      refine stepK_d rfl rfl rfl hst (does_len_slice rfl zf80 rfl) ?_
      refine stepK_d rfl rfl rfl hst (does_lss rfl rfl rfl) ?_
      refine znt ?_
      refine cp_if rfl ?_ ?_
      intro c28
      obtain ⟨b2, o2, rfl, hb2⟩ := hys.some_ (by omega)
      obtain ⟨yv, hyv⟩ := get_of_lt (ws := ys) (j := i) (by omega)
      have hylt := hyw.get hyv
      refine cp_region ?_
      refine zM rfl hst rfl ?_
      refine zM rfl hst rfl ?_
      refine zM rfl hst rfl ?_
      refine stepK_d rfl rfl rfl hst (does_indexAddr1 rfl zf80 (by kernel_rfl) rfl rfl rfl (by omega)) ?_
      refine stepK_d rfl rfl rfl hst (does_load_g1 rfl (by kernel_rfl) rfl ((hb2.mono hst.le).at_ _ _ hyv)) ?_
      refine stepK_d rfl rfl rfl hst (does_widen32 rfl (by kernel_rfl) (by kernel_rfl) rfl (by omega)) ?_
      refine stepK_d rfl rfl rfl hst (does_sub_u64n rfl rfl rfl (Nat.mod_lt _ (by decide)) (by omega)) ?_
      refine zA rfl hst rfl ?_
      refine wpK_nil ?_
      refine join_end (yv) ?_ ?_
      exact ⟨rfl, rfl, rfl, rfl, kint (by omega), trivial⟩
      exact ⟨hst, hyw.get hyv, h_val_take_succ hyv⟩
      intro c28
      refine cp_skip ?_
      refine join_end (0) ?_ ?_
      exact ⟨rfl, rfl, rfl, rfl, kint (by omega), trivial⟩
      exact ⟨hst, by decide, by rw [h_val_take_past (by omega)]; omega⟩
    case d3 =>
      clear hst
      rintro y w2 ⟨hst, hy, hyv⟩
      refine zsr ?_
      refine zM rfl hst rfl ?_
      refine zM rfl hst rfl ?_
      refine zM rfl hst rfl ?_
      refine stepK_d rfl rfl rfl hst (does_conv_n_u32 rfl (by kernel_rfl) (by kernel_rfl) rfl) ?_
      refine stepK_d rfl rfl rfl hst (does_indexAddr1 rfl zf80 (by kernel_rfl) rfl rfl rfl (by omega)) ?_
      refine stepK_store 0 rfl rfl rfl rfl rfl rfl zf81 rfl rfl hst rfl (by first | (simp [uN_length]; omega) | simp) ?_
      clear hst
      intro w4 hst
      rw [splice_uN _ _ _ _ (by omega)] at hst
      simp only [List.set_cons_zero, Nat.zero_add] at hst
      refine zn3 ?_
      refine zM rfl hst rfl ?_
      refine stepK_d rfl rfl rfl hst (does_shr32 rfl rfl rfl) ?_
      refine stepK_d rfl rfl rfl hst (does_low_bit rfl rfl rfl (by omega)) ?_
      refine zA rfl hst rfl ?_
      refine wpK_nil ?_
      refine at_block_normal ?_
      refine cp_then ?_
      refine cp_region ?_
      refine zM rfl hst rfl ?_
      refine stepK_d rfl rfl rfl hst (Does.int (does_add rfl rfl rfl) (wrap_i64 (by omega) (by omega))) ?_
      refine zA rfl hst rfl ?_
      refine wpK_nil ?_
      obtain ⟨e1, e2⟩ := sub_words hxlt hy hcy
      rw [e1] at hst
      rw [e2]
      refine round_end ((i + 1, (if x < y + cy then 1 else 0), ws.set i ((x + 4294967296 - y - cy) % 4294967296))) ?_ ?_ ?_
      exact ⟨rfl, rfl, rfl, rfl, rfl, trivial⟩
      refine ⟨_, hst, by omega, ite_le_one, hws.set (Nat.mod_lt _ (by decide)), by simp [hwl], ?_⟩
      rw [h_val_take_set (by omega), h_val_take_succ hx, hyv, pow_succ32]
      exact h_less_step hxlt hy hcy hv
      show n - (i + 1) < n - i
      omega
    intro c15
    refine cp_exit ?_
    refine at_then_exit ?_
    refine at_then_exit ?_
    refine cp_exit_here ?_
    refine cp_then ?_
    refine cp_seq ?_
    obtain rfl : n = i := by omega
    have hval9 : hval ws + hval ys = hval xs + cy * 4294967296 ^ n := by
      rw [h_val_all (ws := ws) (by omega), h_val_all (ws := ys) (by omega), h_val_all (ws := xs) (by omega)] at hv
      exact hv
    have hcy0 : cy = 0 := by
      have h1 := h_val_lt hws
      rw [hwl] at h1
      rcases Nat.eq_zero_or_pos cy with h0 | h0
      exact h0
      have h2 : cy = 1 := by omega
      rw [h2] at hval9
      omega
    refine cp_region ?_
    refine zM rfl hst rfl ?_
    obtain ⟨hst, hle2⟩ := hst.publish 0 rfl
    refine stepK_call rfl rfl rfl rfl rfl hst (snum_trim hst.agree (ws := ws) (by rw [← hwl]; exact SlN.put_uN) hws (Nat.le_refl _) (by omega)) ?_
    clear hst
    intro v5 g5 w5 hst hle5 hcs5 hp5
    obtain ⟨A5, n5, c5, rfl, hn5⟩ := hp5
    refine zA rfl hst rfl ?_
    refine znt ?_
    refine cp_ret ?_
    refine ret1 rfl rfl hst ?_
    refine ⟨_, _, _, rfl, ?_⟩
    rw [show hval xs - hval ys = hval ws by rw [hcy0, Nat.zero_mul] at hval9; omega]
    assumption

end Go.Proofs.YtcjhnkmoloiepaaGreatDoor

namespace Go.Proofs.YtcjhnkmoloiepaaGreatDoor
open Go Go.RowKit Go.Proofs.Vc
set_option linter.unusedVariables false
set_option linter.unusedSimpArgs false

set_option maxHeartbeats 1000000 in
theorem snum_mulMag {g : Mem} {w : World} (hag : Agree g w) {A B : Option Addr} {n c m d N M : Nat} (ha : IsHat g A n N) (hb : IsHat g B m M) (hn : n ≤ 8796093022207) (hm : m ≤ 8796093022207) :
    CallTo Tryz.prog 113 #[.slice A n c, .slice B m d] w (Ret w g fun v g => ∃ A n c, v = .slice A n c ∧ IsHat g A n (N * M)) := by
  refine CallTo.enter (vs := [.slice A n c, .slice B m d]) zf86 (by kernel_rfl) rfl rfl rfl ?_
  have hst := St.init hag
  have hz1 := ha.zero_iff
  have hz2 := hb.zero_iff
  obtain ⟨xs, hxs, hxw, hxt, rfl⟩ := ha
  obtain ⟨ys, hys, hyw, hyt, rfl⟩ := hb
  have hlx := hxs.1
  have hly := hys.1
  refine zsr ?_
  refine zA rfl hst rfl ?_
  refine znq ?_
  refine zsr ?_
  refine zM rfl hst rfl ?_
  refine stepK_d rfl rfl rfl hst (does_len_slice rfl zf80 rfl) ?_
  refine stepK_d rfl rfl rfl hst (does_eql rfl rfl rfl) ?_
  refine zM rfl hst rfl ?_
  refine wpK_split (t := 12) rfl ?_ ?_
  intro s12
  refine stepK_pass rfl rfl rfl rfl rfl rfl rfl ?_
  refine stepK_pass rfl rfl rfl rfl rfl rfl rfl ?_
  refine stepK_pass rfl rfl rfl rfl rfl rfl rfl ?_
  refine stepK_d rfl rfl rfl hst (does_pick_true rfl rfl rfl) ?_
  refine znt ?_
  refine cp_cond_true rfl ?_
  refine zsr ?_
  refine zA rfl hst rfl ?_
  refine zn5 ?_
  refine ret1 rfl rfl hst ?_
  exact ⟨_, _, _, rfl, by rw [hz1.1 (by omega), Nat.zero_mul]; exact IsHat.nil g⟩
  intro s12
  refine stepK_guard rfl rfl rfl rfl rfl rfl hst (does_move rfl rfl) ?_
  refine stepK_guard rfl rfl rfl rfl rfl rfl hst (does_len_slice rfl zf80 rfl) ?_
  refine stepK_guard rfl rfl rfl rfl rfl rfl hst (does_eql rfl rfl rfl) ?_
  refine stepK_d rfl rfl rfl hst (does_pick_false rfl rfl rfl) ?_
  refine znt ?_
  refine cp_if rfl ?_ ?_
  intro c16
  refine zsr ?_
  refine zA rfl hst rfl ?_
  refine zn5 ?_
  refine ret1 rfl rfl hst ?_
  exact ⟨_, _, _, rfl, by rw [hz2.1 (by omega), Nat.mul_zero]; exact IsHat.nil g⟩
  intro c16
  refine cp_skip ?_
  refine cp_then ?_
  refine cp_seq ?_
  obtain ⟨b1, o1, rfl, hb1⟩ := hxs.some_ (by omega)
  obtain ⟨b2, o2, rfl, hb2⟩ := hys.some_ (by omega)
  refine cp_region ?_
  refine zM rfl hst rfl ?_
  refine stepK_d rfl rfl rfl hst (does_len_slice rfl zf80 rfl) ?_
  refine zM rfl hst rfl ?_
  refine stepK_d rfl rfl rfl hst (does_len_slice rfl zf80 rfl) ?_
  refine stepK_d rfl rfl rfl hst (Does.int (does_add rfl rfl rfl) (wrap_i64 (by omega) (by omega))) ?_
  refine stepK_make rfl rfl rfl (l := n + m) (c := n + m) rfl zf80 zf84 rfl rfl rfl rfl (by omega) (by omega) (by omega) (by omega) (by omega) hst ?_
  clear hst
  intro bo w1 hst
  rw [uN_rep] at hst
  refine zA rfl hst rfl ?_
  refine znq ?_
  refine zsr ?_
  refine zA rfl hst rfl ?_
  refine znt ?_
  refine cp_block ?_
  refine cp_loop (ι := Nat × List Nat) (fun (i, ws) => [(0, .slice (some ⟨b1, o1, none⟩) n c), (1, .slice (some ⟨b2, o2, none⟩) m d), (5, .slice (some ⟨bo, 0, none⟩) (n + m) (n + m)), (6, .int .i64 (i : Int))]) (fun (i, ws) w1 => ∃ g1, St w [] g g1 [(bo, .cells (uN .u32 ws).toArray 121 (0, 0))] w1 ∧ i ≤ n ∧ HWords ws ∧ ws.length = n + m ∧ hval (ws.take (i + m)) = hval (xs.take i) * hval ys) (fun (i, ws) => n - i) (0, List.replicate (n + m) 0) ?k2 ?i2 ?r2
  case k2 => exact ⟨rfl, rfl, rfl, rfl, trivial⟩
  case i2 =>
    exact ⟨_, hst, Nat.zero_le _, HWords.rep _, by simp, by simp [hval, h_val_rep]⟩
  case r2 =>
    clear hst
    rintro ⟨i, ws⟩ w1 ⟨g1, hst, hi, hws, hwl, hv⟩
    refine cp_seq ?_
    refine zsr ?_
    refine zM rfl hst rfl ?_
    refine zM rfl hst rfl ?_
    refine stepK_d rfl rfl rfl hst (does_len_slice rfl zf80 rfl) ?_
    refine stepK_d rfl rfl rfl hst (does_lss rfl rfl rfl) ?_
    refine znt ?_
    refine cp_if rfl ?_ ?_
    intro c26
    refine cp_skip ?_
    refine cp_then ?_
    refine cp_seq ?_
    refine cp_block ?_
    refine cp_seq ?_
    obtain ⟨x, hx⟩ := get_of_lt (ws := xs) (j := i) (by omega)
    have hxlt := hxw.get hx
    refine cp_region ?_
    refine zA rfl hst rfl ?_
    refine znq ?_
    refine zsr ?_
    refine zA rfl hst rfl ?_
    refine znt ?_
    refine cp_block ?_
    refine cp_loop (ι := Nat × Nat × List Nat) (fun (k, cy, ws2) => [(0, .slice (some ⟨b1, o1, none⟩) n c), (1, .slice (some ⟨b2, o2, none⟩) m d), (5, .slice (some ⟨bo, 0, none⟩) (n + m) (n + m)), (6, .int .i64 (i : Int)), (7, .int .u64 (cy : Int)), (8, .int .i64 (k : Int))]) (fun (k, cy, ws2) w2 => ∃ g1, St w [] g g1 [(bo, .cells (uN .u32 ws2).toArray 121 (0, 0))] w2 ∧ k ≤ m ∧ cy < 4294967296 ∧ HWords ws2 ∧ ws2.length = n + m ∧ hval (ws2.take (i + m)) + cy * 4294967296 ^ (i + k) = hval (ws.take (i + m)) + x * 4294967296 ^ i * hval (ys.take k)) (fun (k, cy, ws2) => m - k) (0, 0, ws) ?k3 ?i3 ?r3
    case k3 => exact ⟨rfl, rfl, rfl, rfl, rfl, rfl, trivial⟩
    case i3 =>
      exact ⟨_, hst, Nat.zero_le _, by decide, hws, hwl, by simp [hval]⟩
    case r3 =>
      clear hst
      rintro ⟨k, cy, ws2⟩ w2 ⟨g2, hst, hk, hcy2, hws2, hwl2, hv2⟩
      refine cp_seq ?_
      refine zsr ?_
      refine zM rfl hst rfl ?_
      refine zM rfl hst rfl ?_
      refine stepK_d rfl rfl rfl hst (does_len_slice rfl zf80 rfl) ?_
      refine stepK_d rfl rfl rfl hst (does_lss rfl rfl rfl) ?_
      refine znt ?_
      refine cp_if rfl ?_ ?_
      intro c32
      refine cp_skip ?_
      refine cp_then ?_
      refine cp_seq ?_
      refine cp_block ?_
      refine cp_seq ?_
      obtain ⟨y, hy⟩ := get_of_lt (ws := ys) (j := k) (by omega)
      have hylt := hyw.get hy
      obtain ⟨old, hok⟩ := get_of_lt (ws := ws2) (j := i + k) (by omega)
      have hold := hws2.get hok
      have hxy := mulH hxlt hylt
      refine cp_drawn (by kernel_rfl) 22 [(0, true), (1, true), (2, true), (3, true), (4, true), (5, true), (6, true), (7, true), (8, true), (9, true), (10, true), (11, true), (12, true), (13, true), (14, true), (15, true), (16, true), (17, true), (18, true), (19, true), (20, true), (21, true)] _ rfl (by kernel_rfl) (by kernel_rfl) (by kernel_rfl) (fun _ _ _ _ _ h => h) _ (hst.drew) ?_
      have hst0 := hst.drew
      clear hst
      have hst := hst0
      refine stepD_d rfl rfl rfl rfl (does_move rfl rfl) ?_
      refine stepD_d rfl rfl rfl rfl (does_move rfl rfl) ?_
      refine stepD_d rfl rfl rfl rfl (does_move rfl rfl) ?_
      refine stepD_d rfl rfl rfl rfl (does_indexAddr1 rfl zf80 (by kernel_rfl) rfl rfl rfl (by omega)) ?_
      refine stepD_d rfl rfl rfl rfl (does_load_g1 rfl (by kernel_rfl) rfl ((hb1.mono hst.le).at_ _ _ hx)) ?_
      refine stepD_d rfl rfl rfl rfl (does_widen32 rfl (by kernel_rfl) (by kernel_rfl) rfl (by omega)) ?_
      refine stepD_d rfl rfl rfl rfl (does_move rfl rfl) ?_
      refine stepD_d rfl rfl rfl rfl (does_move rfl rfl) ?_
      refine stepD_d rfl rfl rfl rfl (does_indexAddr1 rfl zf80 (by kernel_rfl) rfl rfl rfl (by omega)) ?_
      refine stepD_d rfl rfl rfl rfl (does_load_g1 rfl (by kernel_rfl) rfl ((hb2.mono hst.le).at_ _ _ hy)) ?_
      refine stepD_d rfl rfl rfl rfl (does_widen32 rfl (by kernel_rfl) (by kernel_rfl) rfl (by omega)) ?_
      refine stepD_d rfl rfl rfl rfl (does_mul_u64x rfl rfl rfl (by omega)) ?_
      refine stepD_d rfl rfl rfl rfl (does_move rfl rfl) ?_
      refine stepD_d rfl rfl rfl rfl (does_move rfl rfl) ?_
      refine stepD_d rfl rfl rfl rfl (does_move rfl rfl) ?_
      refine stepD_d rfl rfl rfl rfl (Does.int (does_add rfl rfl rfl) (wrap_i64 (by omega) (by omega))) ?_
      refine stepD_d rfl rfl rfl rfl (does_indexAddr1 (j := (i + k)) rfl zf80 (by kernel_rfl) rfl rfl (by omega) (by omega)) ?_
      refine stepD_d rfl rfl rfl rfl (does_load_own1 0 rfl (by kernel_rfl) rfl rfl (uN_arr_get (by rw [Nat.zero_add]; exact hok))) ?_
      refine stepD_d rfl rfl rfl rfl (does_widen32 rfl (by kernel_rfl) (by kernel_rfl) rfl (by omega)) ?_
      refine stepD_d rfl rfl rfl rfl (does_add_u64x rfl rfl rfl (by omega)) ?_
      refine stepD_d rfl rfl rfl rfl (does_add_u64x rfl rfl rfl (by omega)) ?_
      refine stepD_d rfl rfl rfl rfl (does_assign rfl rfl) ?_
      refine stepD_tail ?_
      refine zn4 ?_
      refine zM rfl hst rfl ?_
      refine zM rfl hst rfl ?_
      refine zM rfl hst rfl ?_
      refine stepK_d rfl rfl rfl hst (Does.int (does_add rfl rfl rfl) (wrap_i64 (by omega) (by omega))) ?_
      refine zM rfl hst rfl ?_
      refine stepK_d rfl rfl rfl hst (does_conv_n_u32 rfl (by kernel_rfl) (by kernel_rfl) rfl) ?_
      refine stepK_d rfl rfl rfl hst (does_indexAddr1 (j := (i + k)) rfl zf80 (by kernel_rfl) rfl rfl (by omega) (by omega)) ?_
      refine stepK_store 0 rfl rfl rfl rfl rfl rfl zf81 rfl rfl hst rfl (by first | (simp [uN_length]; omega) | simp) ?_
      clear hst
      intro w4 hst
      rw [Nat.zero_add, splice_uN _ _ _ _ (by omega)] at hst
      simp only [List.set_cons_zero] at hst
      refine zn3 ?_
      refine zM rfl hst rfl ?_
      refine stepK_d rfl rfl rfl hst (does_shr32 rfl rfl rfl) ?_
      refine zA rfl hst rfl ?_
      refine wpK_nil ?_
      refine at_block_normal ?_
      refine cp_then ?_
      refine cp_region ?_
      refine zM rfl hst rfl ?_
      refine stepK_d rfl rfl rfl hst (Does.int (does_add rfl rfl rfl) (wrap_i64 (by omega) (by omega))) ?_
      refine zA rfl hst rfl ?_
      refine wpK_nil ?_
      refine round_end ((k + 1, (cy + (x * y + old)) / 4294967296, ws2.set (i + k) ((cy + (x * y + old)) % 4294967296))) ?_ ?_ ?_
      exact ⟨rfl, rfl, rfl, rfl, rfl, rfl, trivial⟩
      refine ⟨_, hst, by omega, by omega, hws2.set (Nat.mod_lt _ (by decide)), by simp [hwl2], ?_⟩
      have hvs := h_val_set (z := (cy + (x * y + old)) % 4294967296) hok (show i + k < i + m by omega) (by omega)
      rw [h_val_take_succ hy]
      have hps : (cy + (x * y + old)) % 4294967296 + (cy + (x * y + old)) / 4294967296 * 4294967296 = x * y + old + cy := by rw [Nat.mod_add_div']; omega
      generalize (cy + (x * y + old)) % 4294967296 = z at *
      generalize (cy + (x * y + old)) / 4294967296 = q at *
      exact h_product_step hvs hps hv2
      show m - (k + 1) < m - k
      omega
      intro c32
      refine cp_exit ?_
      refine at_then_exit ?_
      refine at_then_exit ?_
      refine cp_exit_here ?_
      refine cp_then ?_
      obtain rfl : m = k := by omega
      refine cp_region ?_
      refine zM rfl hst rfl ?_
      refine zM rfl hst rfl ?_
      refine zM rfl hst rfl ?_
      refine stepK_d rfl rfl rfl hst (does_len_slice rfl zf80 rfl) ?_
      refine stepK_d rfl rfl rfl hst (Does.int (does_add rfl rfl rfl) (wrap_i64 (by omega) (by omega))) ?_
      refine zM rfl hst rfl ?_
      refine stepK_d rfl rfl rfl hst (Does.nat (b := cy) (does_conv_n_u32 rfl (by kernel_rfl) (by kernel_rfl) rfl) (by rw [Nat.mod_eq_of_lt (by omega)])) ?_
      refine stepK_d rfl rfl rfl hst (does_indexAddr1 (j := (i + m)) rfl zf80 (by kernel_rfl) rfl rfl (by omega) (by omega)) ?_
      refine stepK_store 0 rfl rfl rfl rfl rfl rfl zf81 rfl rfl hst rfl (by first | (simp [uN_length]; omega) | simp) ?_
      clear hst
      intro w5 hst
      rw [Nat.zero_add, splice_uN _ _ _ _ (by omega)] at hst
      simp only [List.set_cons_zero] at hst
      refine wpK_nil ?_
      refine at_block_normal ?_
      refine cp_then ?_
      refine cp_region ?_
      refine zM rfl hst rfl ?_
      refine stepK_d rfl rfl rfl hst (Does.int (does_add rfl rfl rfl) (wrap_i64 (by omega) (by omega))) ?_
      refine zA rfl hst rfl ?_
      refine wpK_nil ?_
      refine round_end ((i + 1, ws2.set (i + m) cy)) ?_ ?_ ?_
      exact ⟨rfl, rfl, rfl, rfl, trivial⟩
      refine ⟨_, hst, by omega, hws2.set hcy2, by simp [hwl2], ?_⟩
      rw [show i + 1 + m = i + m + 1 by omega, h_val_take_set (by omega), h_val_take_succ hx, Nat.add_mul, ← hv, ← Nat.mul_comm cy, hv2, h_val_all (ws := ys) (by omega), Nat.mul_comm x]
      show n - (i + 1) < n - i
      omega
    intro c26
    refine cp_exit ?_
    refine at_then_exit ?_
    refine at_then_exit ?_
    refine cp_exit_here ?_
    refine cp_then ?_
    refine zsr ?_
    refine zM rfl hst rfl ?_
    obtain ⟨hst, hle2⟩ := hst.publish 0 rfl
    obtain rfl : n = i := by omega
    refine stepK_call rfl rfl rfl rfl rfl hst (snum_trim hst.agree (ws := ws) (by rw [← hwl]; exact SlN.put_uN) hws (Nat.le_refl _) (by omega)) ?_
    clear hst
    intro v6 g6 w6 hst hle6 hcs6 hp6
    obtain ⟨A6, n6, c6, rfl, hn6⟩ := hp6
    refine zA rfl hst rfl ?_
    refine znt ?_
    refine cp_ret ?_
    refine ret1 rfl rfl hst ?_
    refine ⟨_, _, _, rfl, ?_⟩
    rw [show hval xs * hval ys = hval ws by rw [← h_val_all (n := n) (ws := xs) (by omega), ← hv, h_val_all (ws := ws) (by omega)]]
    assumption

end Go.Proofs.YtcjhnkmoloiepaaGreatDoor

namespace Go.Proofs.YtcjhnkmoloiepaaGreatDoor
open Go Go.RowKit Go.Proofs.Vc
set_option linter.unusedVariables false
set_option linter.unusedSimpArgs false

set_option maxHeartbeats 1000000 in
theorem snum_smallDiv {g : Mem} {w : World} (hag : Agree g w) {A : Option Addr} {n c N x : Nat} (ha : IsHat g A n N) (hx : x < 4294967296) (h0 : 0 < x) (hn : n ≤ 17592186044415) :
    CallTo Tryz.prog 100 #[.slice A n c, .int .u32 (x : Int)] w (Ret w g fun v g => ∃ A n c, v = .tuple #[.slice A n c, .int .u32 ((N % x : Nat) : Int)] ∧ IsHat g A n (N / x)) := by
  refine CallTo.enter (vs := [.slice A n c, .int .u32 (x : Int)]) zf87 (by kernel_rfl) rfl rfl rfl ?_
  have hst := St.init hag
  obtain ⟨xs, hxs, hxw, hxt, rfl⟩ := ha
  have hlx := hxs.1
  refine zsr ?_
  refine zA rfl hst rfl ?_
  refine zA rfl hst rfl ?_
  refine zn4 ?_
  refine zM rfl hst rfl ?_
  refine stepK_d rfl rfl rfl hst (does_len_slice rfl zf80 rfl) ?_
  refine stepK_make rfl rfl rfl (l := n) (c := n) rfl zf80 zf84 rfl rfl rfl rfl rfl rfl (by omega) (by omega) (by omega) hst ?_
  clear hst
  intro bo w1 hst
  rw [uN_rep] at hst
  refine zA rfl hst rfl ?_
  refine zn4 ?_
  refine zA rfl hst rfl ?_
  refine znq ?_
  refine zsr ?_
  refine zM rfl hst rfl ?_
  refine stepK_d rfl rfl rfl hst (does_len_slice rfl zf80 rfl) ?_
  refine stepK_d rfl rfl rfl hst (Does.int (does_sub rfl rfl rfl) (wrap_i64 (by omega) (by omega))) ?_
  refine zA rfl hst rfl ?_
  refine znt ?_
  refine cp_block ?_
  refine cp_loop (ι := Nat × Nat × List Nat) (fun (k, rest, ws) => [(0, .slice A n c), (1, .int .u32 (x : Int)), (6, .slice (some ⟨bo, 0, none⟩) n n), (7, .int .u64 (rest : Int)), (8, .int .i64 ((k : Int) - 1))]) (fun (k, rest, ws) w1 => ∃ g1, St w [] g g1 [(bo, .cells (uN .u32 ws).toArray 121 (0, 0))] w1 ∧ k ≤ n ∧ rest < x ∧ HWords ws ∧ ws.length = n ∧ hval (xs.drop k) = hval (ws.drop k) * x + rest) (fun (k, rest, ws) => k) (n, 0, List.replicate n 0) ?k2 ?i2 ?r2
  case k2 => exact ⟨rfl, rfl, rfl, rfl, rfl, trivial⟩
  case i2 =>
    exact ⟨_, hst, Nat.le_refl _, h0, HWords.rep _, by simp, by rw [List.drop_eq_nil_of_le (by omega), List.drop_eq_nil_of_le (by simp)]; simp [hval]⟩
  case r2 =>
    clear hst
    rintro ⟨k, rest, ws⟩ w1 ⟨g1, hst, hk, hr, hws, hwl, hv⟩
    refine cp_seq ?_
    refine zsr ?_
    refine zM rfl hst rfl ?_
    refine stepK_d rfl rfl rfl hst (does_geq rfl rfl rfl) ?_
    refine znt ?_
    refine cp_if rfl ?_ ?_
    intro c16
    refine cp_skip ?_
    refine cp_then ?_
    refine cp_seq ?_
    refine cp_block ?_
    refine cp_seq ?_
    obtain ⟨b1, o1, rfl, hb1⟩ := hxs.some_ (by omega)
    obtain ⟨d, hd⟩ := get_of_lt (ws := xs) (j := k - 1) (by omega)
    have hdl := hxw.get hd
    refine cp_region ?_
    refine zM rfl hst rfl ?_
    refine stepK_d rfl rfl rfl hst (does_shl32 rfl rfl rfl (by omega)) ?_
    refine zM rfl hst rfl ?_
    refine zM rfl hst rfl ?_
    refine stepK_d rfl rfl rfl hst (does_indexAddr1 (j := (k - 1)) rfl zf80 (by kernel_rfl) rfl rfl (by omega) (by omega)) ?_
    refine stepK_d rfl rfl rfl hst (does_load_g1 rfl (by kernel_rfl) rfl ((hb1.mono hst.le).at_ _ _ hd)) ?_
    refine stepK_d rfl rfl rfl hst (does_widen32 rfl (by kernel_rfl) (by kernel_rfl) rfl (by omega)) ?_
    refine stepK_d rfl rfl rfl hst (does_or32 rfl rfl rfl (by omega) (by omega)) ?_
    refine zA rfl hst rfl ?_
    refine zn4 ?_
    refine zM rfl hst rfl ?_
    refine zM rfl hst rfl ?_
    refine zM rfl hst rfl ?_
    refine zM rfl hst rfl ?_
    refine stepK_d rfl rfl rfl hst (does_widen32 rfl (by kernel_rfl) (by kernel_rfl) rfl (by omega)) ?_
    refine stepK_d rfl rfl rfl hst (does_quo_u64 rfl rfl rfl (by omega) (by omega)) ?_
    refine stepK_d rfl rfl rfl hst (Does.nat (b := (rest * 4294967296 + d) / x) (does_conv_n_u32 rfl (by kernel_rfl) (by kernel_rfl) rfl) (by rw [Nat.mod_eq_of_lt (h_byWord_lt hr hdl)])) ?_
    refine stepK_d rfl rfl rfl hst (does_indexAddr1 (j := (k - 1)) rfl zf80 (by kernel_rfl) rfl rfl (by omega) (by omega)) ?_
    refine stepK_store 0 rfl rfl rfl rfl rfl rfl zf81 rfl rfl hst rfl (by first | (simp [uN_length]; omega) | simp) ?_
    clear hst
    intro w3 hst
    rw [Nat.zero_add, splice_uN _ _ _ _ (by omega)] at hst
    simp only [List.set_cons_zero] at hst
    refine zn3 ?_
    refine zM rfl hst rfl ?_
    refine zM rfl hst rfl ?_
    refine stepK_d rfl rfl rfl hst (does_widen32 rfl (by kernel_rfl) (by kernel_rfl) rfl (by omega)) ?_
    refine stepK_d rfl rfl rfl hst (does_rem_n rfl rfl rfl (by omega)) ?_
    refine zA rfl hst rfl ?_
    refine wpK_nil ?_
    refine at_block_normal ?_
    refine cp_then ?_
    refine cp_region ?_
    refine zM rfl hst rfl ?_
    refine stepK_d rfl rfl rfl hst (Does.int (does_sub rfl rfl rfl) (wrap_i64 (by omega) (by omega))) ?_
    refine zA rfl hst rfl ?_
    refine wpK_nil ?_
    refine round_end ((k - 1, (rest * 4294967296 + d) % x, ws.set (k - 1) ((rest * 4294967296 + d) / x))) ?_ ?_ ?_
    exact ⟨rfl, rfl, rfl, rfl, kint (by omega), trivial⟩
    refine ⟨_, hst, by omega, Nat.mod_lt _ h0, hws.set (h_byWord_lt hr hdl), by simp [hwl], ?_⟩
    rw [drop_set_ge (by omega), h_val_drop_get hd, show k - 1 + 1 = k by omega]
    exact h_byWord_step hv rfl rfl
    show k - 1 < k
    omega
    intro c16
    refine cp_exit ?_
    refine at_then_exit ?_
    refine at_then_exit ?_
    refine cp_exit_here ?_
    refine cp_then ?_
    refine zsr ?_
    refine zM rfl hst rfl ?_
    obtain ⟨hst, hle2⟩ := hst.publish 0 rfl
    obtain rfl : k = 0 := by omega
    simp only [List.drop_zero] at hv
    have hdm := div_mod_of hv hr
    refine stepK_call rfl rfl rfl rfl rfl hst (snum_trim hst.agree (ws := ws) (by rw [← hwl]; exact SlN.put_uN) hws (by omega) (by omega)) ?_
    clear hst
    intro v4 g4 w4 hst hle4 hcs4 hp4
    obtain ⟨A4, n4, c4, rfl, hn4⟩ := hp4
    refine zM rfl hst rfl ?_
    refine stepK_d rfl rfl rfl hst (Does.nat (b := rest) (does_conv_n_u32 rfl (by kernel_rfl) (by kernel_rfl) rfl) (by rw [Nat.mod_eq_of_lt (by omega)])) ?_
    refine zA rfl hst rfl ?_
    refine zA rfl hst rfl ?_
    refine znt ?_
    refine cp_ret ?_
    refine ret2 rfl rfl rfl hst ?_
    refine ⟨_, _, _, by rw [hdm.2], ?_⟩
    rw [hdm.1]
    assumption

set_option maxHeartbeats 1000000 in
theorem snum_shiftLeft {g : Mem} {w : World} (hag : Agree g w) {A : Option Addr} {n c N s : Nat} (ha : IsHat g A n N) (hn : n ≤ 17592186044415) (hs : s < 32) :
    CallTo Tryz.prog 133 #[.slice A n c, .int .u64 (s : Int)] w (RetO w g fun v g own => ∃ bo ws, v = .slice (some ⟨bo, 0, none⟩) (n + 1) (n + 1) ∧ own = [(bo, .cells (uN .u32 ws).toArray 121 (0, 0))] ∧ HWords ws ∧ ws.length = n + 1 ∧ hval ws = N * 2 ^ s) := by
  refine CallTo.enter (vs := [.slice A n c, .int .u64 (s : Int)]) zf88 (by kernel_rfl) rfl rfl rfl ?_
  have hst := St.init hag
  obtain ⟨xs, hxs, hxw, hxt, rfl⟩ := ha
  have hlx := hxs.1
  refine zsr ?_
  refine zA rfl hst rfl ?_
  refine zn4 ?_
  refine zM rfl hst rfl ?_
  refine stepK_d rfl rfl rfl hst (does_len_slice rfl zf80 rfl) ?_
  refine stepK_d rfl rfl rfl hst (Does.int (does_add rfl rfl rfl) (wrap_i64 (by omega) (by omega))) ?_
  refine stepK_make rfl rfl rfl (l := n + 1) (c := n + 1) rfl zf80 zf84 rfl rfl rfl rfl (by omega) (by omega) (by omega) (by omega) (by omega) hst ?_
  clear hst
  intro bo w1 hst
  rw [uN_rep] at hst
  refine zA rfl hst rfl ?_
  refine znq ?_
  refine zsr ?_
  refine zA rfl hst rfl ?_
  refine znt ?_
  refine cp_block ?_
  refine cp_loop (ι := Nat × Nat × List Nat) (fun (i, cy, ws) => [(0, .slice A n c), (1, .int .u64 (s : Int)), (5, .slice (some ⟨bo, 0, none⟩) (n + 1) (n + 1)), (6, .int .i64 (i : Int))]) (fun (i, cy, ws) w1 => ∃ g1, St w [] g g1 [(bo, .cells (uN .u32 ws).toArray 121 (0, 0))] w1 ∧ i ≤ n ∧ cy < 2 ^ s ∧ cy < 4294967296 ∧ HWords ws ∧ ws.length = n + 1 ∧ ws[i]? = some cy ∧ hval (ws.take i) + cy * 4294967296 ^ i = hval (xs.take i) * 2 ^ s * 1) (fun (i, cy, ws) => n - i) (0, 0, List.replicate (n + 1) 0) ?k2 ?i2 ?r2
  case k2 => exact ⟨rfl, rfl, rfl, rfl, trivial⟩
  case i2 =>
    exact ⟨_, hst, Nat.zero_le _, Nat.pow_pos (by decide), by decide, HWords.rep _, by simp, rep_get (by omega), by simp [hval]⟩
  case r2 =>
    clear hst
    rintro ⟨i, cy, ws⟩ w1 ⟨g1, hst, hi, hcy, hcyB, hws, hwl, hwi, hv⟩
    refine cp_seq ?_
    refine zsr ?_
    refine zM rfl hst rfl ?_
    refine zM rfl hst rfl ?_
    refine stepK_d rfl rfl rfl hst (does_len_slice rfl zf80 rfl) ?_
    refine stepK_d rfl rfl rfl hst (does_lss rfl rfl rfl) ?_
    refine znt ?_
    refine cp_if rfl ?_ ?_
    intro c15
    refine cp_skip ?_
    refine cp_then ?_
    refine cp_seq ?_
    refine cp_block ?_
    refine cp_seq ?_
    obtain ⟨b1, o1, rfl, hb1⟩ := hxs.some_ (by omega)
    obtain ⟨x, hx⟩ := get_of_lt (ws := xs) (j := i) (by omega)
    have hxlt := hxw.get hx
    have hps : (2 : Nat) ^ s ≤ 2 ^ 31 := Nat.pow_le_pow_right (by decide) (by omega)
    have hxs2 : x * 2 ^ s < 18446744073709551616 := Nat.lt_of_le_of_lt (Nat.mul_le_mul (Nat.le_of_lt hxlt) hps) (by decide)
    have hor : cy ||| x * 2 ^ s % 4294967296 = cy + x * 2 ^ s % 4294967296 := by rw [h_shl_lo (by omega), or_low hcy]
    have hnew : cy + x * 2 ^ s % 4294967296 < 4294967296 := by
      rw [h_shl_lo (by omega)]
      have h1 : x % 2 ^ (32 - s) * 2 ^ s + 2 ^ s ≤ 4294967296 := by
        rw [← Nat.succ_mul, ← pow32 s (by omega), Nat.mul_comm (2 ^ s)]
        exact Nat.mul_le_mul_right _ (Nat.mod_lt _ (Nat.pow_pos (by decide)))
      omega
    have hx2 : x / 2 ^ (32 - s) < 2 ^ s := (Nat.div_lt_iff_lt_mul (Nat.pow_pos (by decide))).2 (by rw [pow32 s (by omega)]; exact hxlt)
    refine cp_region ?_
    refine zM rfl hst rfl ?_
    refine zM rfl hst rfl ?_
    refine stepK_d rfl rfl rfl hst (does_indexAddr1 rfl zf80 (by kernel_rfl) rfl rfl rfl (by omega)) ?_
    refine stepK_d rfl rfl rfl hst (does_load_g1 rfl (by kernel_rfl) rfl ((hb1.mono hst.le).at_ _ _ hx)) ?_
    refine stepK_d rfl rfl rfl hst (does_widen32 rfl (by kernel_rfl) (by kernel_rfl) rfl (by omega)) ?_
    refine zM rfl hst rfl ?_
    refine stepK_d rfl rfl rfl hst (does_shl_u64x rfl rfl rfl (by omega) hxs2) ?_
    refine zA rfl hst rfl ?_
    refine zn4 ?_
    refine zM rfl hst rfl ?_
    refine zM rfl hst rfl ?_
    refine stepK_d rfl rfl rfl hst (does_indexAddr1 rfl zf80 (by kernel_rfl) rfl rfl rfl (by omega)) ?_
    refine stepK_d rfl rfl rfl hst (does_load_own1 0 rfl (by kernel_rfl) rfl rfl (uN_arr_get (by rw [Nat.zero_add]; exact hwi))) ?_
    refine zM rfl hst rfl ?_
    refine stepK_d rfl rfl rfl hst (does_conv_n_u32 rfl (by kernel_rfl) (by kernel_rfl) rfl) ?_
    refine stepK_d rfl rfl rfl hst (Does.nat (b := cy + x * 2 ^ s % 4294967296) (does_or_u32 rfl rfl rfl hcyB (Nat.mod_lt _ (by decide))) (by rw [hor])) ?_
    refine stepK_d rfl rfl rfl hst (does_indexAddr1 rfl zf80 (by kernel_rfl) rfl rfl rfl (by omega)) ?_
    refine stepK_store 0 rfl rfl rfl rfl rfl rfl zf81 rfl rfl hst rfl (by first | (simp [uN_length]; omega) | simp) ?_
    clear hst
    intro w3 hst
    rw [Nat.zero_add, splice_uN _ _ _ _ (by omega)] at hst
    simp only [List.set_cons_zero] at hst
    refine zn3 ?_
    refine zM rfl hst rfl ?_
    refine zM rfl hst rfl ?_
    refine stepK_d rfl rfl rfl hst (Does.int (does_add rfl rfl rfl) (wrap_i64 (by omega) (by omega))) ?_
    refine zM rfl hst rfl ?_
    refine stepK_d rfl rfl rfl hst (does_shr32 rfl rfl rfl) ?_
    refine stepK_d rfl rfl rfl hst (Does.nat (b := x / 2 ^ (32 - s)) (does_conv_n_u32 rfl (by kernel_rfl) (by kernel_rfl) rfl) (by rw [h_shl_hi (by omega), Nat.mod_eq_of_lt (Nat.lt_of_le_of_lt (Nat.div_le_self _ _) hxlt)])) ?_
    refine stepK_d rfl rfl rfl hst (does_indexAddr1 (j := (i + 1)) rfl zf80 (by kernel_rfl) rfl rfl (by omega) (by omega)) ?_
    refine stepK_store 0 rfl rfl rfl rfl rfl rfl zf81 rfl rfl hst rfl (by first | (simp [uN_length]; omega) | simp) ?_
    clear hst
    intro w4 hst
    rw [Nat.zero_add, splice_uN _ _ _ _ (by simp; omega)] at hst
    simp only [List.set_cons_zero] at hst
    refine wpK_nil ?_
    refine at_block_normal ?_
    refine cp_then ?_
    refine cp_region ?_
    refine zM rfl hst rfl ?_
    refine stepK_d rfl rfl rfl hst (Does.int (does_add rfl rfl rfl) (wrap_i64 (by omega) (by omega))) ?_
    refine zA rfl hst rfl ?_
    refine wpK_nil ?_
    refine round_end ((i + 1, x / 2 ^ (32 - s), (ws.set i (cy + x * 2 ^ s % 4294967296)).set (i + 1) (x / 2 ^ (32 - s)))) ?_ ?_ ?_
    exact ⟨rfl, rfl, rfl, rfl, trivial⟩
    refine ⟨_, hst, by omega, hx2, Nat.lt_of_le_of_lt (Nat.div_le_self _ _) hxlt, (hws.set hnew).set (Nat.lt_of_le_of_lt (Nat.div_le_self _ _) hxlt), by simp [hwl], ?_, ?_⟩
    rw [List.getElem?_set_self (by simp; omega)]
    rw [take_set_le, h_val_take_set (by omega), h_val_take_succ hx, pow_succ32]
    exact h_left_step (by omega) hv (Nat.mul_one _).symm
    show n - (i + 1) < n - i
    omega
    intro c15
    refine cp_exit ?_
    refine at_then_exit ?_
    refine at_then_exit ?_
    refine cp_exit_here ?_
    refine cp_then ?_
    refine zsr ?_
    refine zM rfl hst rfl ?_
    refine zA rfl hst rfl ?_
    refine znt ?_
    refine cp_ret ?_
    refine retO1 rfl rfl hst ?_
    obtain rfl : n = i := by omega
    refine ⟨_, _, rfl, rfl, hws, hwl, ?_⟩
    rw [← h_val_all (ws := ws) (n := n + 1) (by omega), h_val_take_succ hwi, Nat.mul_comm _ cy, hv, h_val_all (ws := xs) (by omega), Nat.mul_one]

end Go.Proofs.YtcjhnkmoloiepaaGreatDoor

namespace Go.Proofs.YtcjhnkmoloiepaaGreatDoor
open Go Go.RowKit Go.Proofs.Vc
set_option linter.unusedVariables false
set_option linter.unusedSimpArgs false

set_option maxHeartbeats 8000000 in
set_option maxRecDepth 4000 in
theorem snum_divMag {g : Mem} {w : World} (hag : Agree g w) {A B : Option Addr} {n c m d N M : Nat} (ha : IsHat g A n N) (hb : IsHat g B m M) (hM : 0 < M) (hn : n ≤ 8796093022206) (hm : m ≤ 8796093022206) :
    CallTo Tryz.prog 116 #[.slice A n c, .slice B m d] w (Ret w g fun v g => ∃ A n c B m d, v = .tuple #[.slice A n c, .slice B m d] ∧ IsHat g A n (N / M) ∧ IsHat g B m (N % M)) := by
  refine CallTo.enter (vs := [.slice A n c, .slice B m d]) zf89 (by kernel_rfl) rfl rfl rfl ?_
  have hst := St.init hag
  have hm0 : 0 < m := Nat.pos_of_ne_zero fun e => by have := hb.zero_iff.1 e; omega
  refine zsr ?_
  refine zA rfl hst rfl ?_
  refine zA rfl hst rfl ?_
  refine znq ?_
  refine zsr ?_
  refine zM rfl hst rfl ?_
  refine zM rfl hst rfl ?_
  refine stepK_call rfl rfl rfl rfl rfl hst (snum_cmpMag hst.agree ha hb (by omega)) ?_
  clear hst
  intro v1 g1 w1 hst hle1 hcs1 hp1
  replace ha := ha.mono hle1
  replace hb := hb.mono hle1
  obtain rfl := hp1
  refine stepK_d rfl rfl rfl hst (does_lss rfl rfl rfl) ?_
  refine znt ?_
  refine cp_if rfl ?_ ?_
  intro c30
  have hlt := cmpN_neg.1 c30
  refine zsr ?_
  refine stepK_buildSlice0 rfl rfl rfl rfl zf80 zf84 hst ?_
  clear hst
  intro be w8 hst
  simp only [List.nil_append] at hst
  refine zM rfl hst rfl ?_
  obtain ⟨xs, hxs, hxw, hxt, hxv⟩ := ha
  refine stepK_appendN (m0 := 0) (xs := []) rfl rfl rfl rfl zf80 zf84 rfl rfl rfl (Row.of_own (own := []) hst (hst.own_new (List.mem_cons_self ..)) (by omega) (by omega) (by simp) (by simp) (by simp)) hxs (by omega) (by omega) ?_
  clear hst
  intro vr w9 hrow
  rw [Nat.zero_add, List.nil_append] at hrow
  obtain ⟨g9, A9, c9, rfl, hc9, hst, hle9, hsv⟩ := hrow.publish
  refine zA rfl hst rfl ?_
  refine zA rfl hst rfl ?_
  refine zn5 ?_
  refine ret2 rfl rfl rfl hst ?_
  refine ⟨_, _, _, _, _, _, rfl, ?_, ?_⟩
  rw [Nat.div_eq_of_lt hlt]; exact IsHat.nil _
  rw [Nat.mod_eq_of_lt hlt]; exact ⟨xs, SlV.toN hsv hxs.1, hxw, hxt, hxv⟩
  intro c30
  have hge0 : M ≤ N := Nat.le_of_not_lt fun h => c30 (cmpN_neg.2 h)
  have hmn : m ≤ n := hb.len (Nat.lt_of_le_of_lt hge0 ha.lt)
  refine cp_skip ?_
  refine cp_then ?_
  refine cp_seq ?_
  refine zsr ?_
  refine zM rfl hst rfl ?_
  refine stepK_d rfl rfl rfl hst (does_len_slice rfl zf80 rfl) ?_
  refine stepK_d rfl rfl rfl hst (does_eql rfl rfl rfl) ?_
  refine znt ?_
  refine cp_if rfl ?_ ?_
  intro c36
  refine cp_seq ?_
  obtain ⟨ys, hys, hyw, hyt, hyv⟩ := id hb
  have hly := hys.1
  obtain rfl : m = 1 := by omega
  obtain ⟨b1, o1, rfl, hb1⟩ := hys.some_ (by omega)
  obtain ⟨y, hy⟩ := get_of_lt (ws := ys) (j := 0) (by omega)
  obtain rfl : y = M := by rw [← hyv]; exact (h_val_one hly hy).symm
  clear hys
  refine cp_region ?_
  refine zM rfl hst rfl ?_
  refine zM rfl hst rfl ?_
  refine stepK_d rfl rfl rfl hst (does_indexAddr1 (j := 0) rfl zf80 (by kernel_rfl) rfl rfl (by omega) (by omega)) ?_
  refine stepK_d rfl rfl rfl hst (does_load_g1 rfl (by kernel_rfl) rfl (hb1.at_ _ _ hy)) ?_
  refine stepK_call rfl rfl rfl rfl rfl hst (snum_smallDiv hst.agree ha (hyw.get hy) hM (by omega)) ?_
  clear hst
  intro v2 g2 w2 hst hle2 hcs2 hp2
  replace ha := ha.mono hle2
  replace hb := hb.mono hle2
  obtain ⟨Q, qn, qc, rfl, hQ⟩ := hp2
  refine zM rfl hst rfl ?_
  refine zE rfl hst rfl rfl ?_
  refine zE rfl hst rfl rfl ?_
  refine zA rfl hst rfl ?_
  refine zA rfl hst rfl ?_
  refine zn4 ?_
  refine zM rfl hst rfl ?_
  refine zM rfl hst rfl ?_
  refine stepK_buildSlice rfl rfl rfl rfl zf80 zf84 rfl rfl (by decide) (by decide) (by decide) rfl rfl hst ?_
  clear hst
  intro b9 w3 hst
  obtain ⟨hst, hle9⟩ := hst.publish 0 rfl
  replace hQ := hQ.mono hle9
  replace ha := ha.mono hle9
  replace hb := hb.mono hle9
  have hrl : N % y < 4294967296 := Nat.lt_trans (Nat.mod_lt _ hM) (hyw.get hy)
  refine stepK_call rfl rfl rfl rfl rfl hst (snum_trim hst.agree (ws := [N % y]) (SlN.put_uN (ws := [N % y])) (HWords.cons hrl HWords.nil) (by decide) (by decide)) ?_
  clear hst
  intro v4 g4 w4 hst hle4 hcs4 hp4
  replace ha := ha.mono hle4
  replace hb := hb.mono hle4
  replace hQ := hQ.mono hle4
  obtain ⟨A4, n4, c4, rfl, hn4⟩ := hp4
  refine zA rfl hst rfl ?_
  refine zA rfl hst rfl ?_
  refine zn5 ?_
  refine ret2 rfl rfl rfl hst ?_
  refine ⟨_, _, _, _, _, _, rfl, hQ, ?_⟩
  have hv9 : hval [N % y] = N % y := by simp [hval]
  rw [← hv9]
  assumption
  intro c36
  refine cp_skip ?_
  refine cp_then ?_
  refine cp_seq ?_
  obtain ⟨ys, hys, hyw, hyt, hyv⟩ := id hb
  have hly := hys.1
  obtain ⟨b1, o1, rfl, hb1⟩ := hys.some_ (by omega)
  obtain ⟨y, hy⟩ := get_of_lt (ws := ys) (j := m - 1) (by omega)
  have hylt := hyw.get hy
  have hy0 : 0 < y := h_trimmed_last hyt hly hy
  refine cp_region ?_
  refine zA rfl hst rfl ?_
  refine znq ?_
  refine cp_block ?_
  refine cp_loop (ι := Nat) (fun s => [(0, .slice A n c), (1, .slice (some ⟨b1, o1, none⟩) m d), (8, .int .u64 (s : Int))]) (fun s w1 => St w [] g g1 [] w1 ∧ s ≤ 31 ∧ y * 2 ^ s < 4294967296) (fun s => 32 - s) 0 ?k5 ?i5 ?r5
  case k5 => exact ⟨rfl, rfl, rfl, trivial⟩
  case i5 =>
    exact ⟨hst, by decide, by simpa using hylt⟩
  case r5 =>
    clear hst
    rintro s w1 ⟨hst, hs31, hys2⟩
    refine cp_seq ?_
    refine zsr ?_
    refine zM rfl hst rfl ?_
    refine zM rfl hst rfl ?_
    refine stepK_d rfl rfl rfl hst (does_len_slice rfl zf80 rfl) ?_
    refine stepK_d rfl rfl rfl hst (Does.int (does_sub rfl rfl rfl) (wrap_i64 (by omega) (by omega))) ?_
    refine stepK_d rfl rfl rfl hst (does_indexAddr1 (j := (m - 1)) rfl zf80 (by kernel_rfl) rfl rfl (by omega) (by omega)) ?_
    refine stepK_d rfl rfl rfl hst (does_load_g1 rfl (by kernel_rfl) rfl (hb1.at_ _ _ hy)) ?_
    refine zM rfl hst rfl ?_
    refine stepK_d rfl rfl rfl hst (Does.nat (b := y * 2 ^ s) (does_shl_u32 rfl rfl rfl) (by rw [Nat.min_eq_left (by omega), Nat.mod_eq_of_lt hys2])) ?_
    refine stepK_d rfl rfl rfl hst (does_lss_n (b := 2147483648) rfl rfl rfl) ?_
    refine znt ?_
    refine cp_if rfl ?_ ?_
    intro c57
    refine cp_skip ?_
    refine cp_then ?_
    refine cp_block ?_
    refine cp_region ?_
    refine zM rfl hst rfl ?_
    refine stepK_d rfl rfl rfl hst (does_add_u64x (b := 1) rfl rfl rfl (by omega)) ?_
    refine zA rfl hst rfl ?_
    refine wpK_nil ?_
    refine at_block_normal ?_
    have h2s : 2 ^ s ≤ y * 2 ^ s := Nat.le_mul_of_pos_left _ hy0
    have hs30 : s < 31 := by
      rcases Nat.lt_or_ge s 31 with h | h
      exact h
      have : (2 : Nat) ^ 31 ≤ 2 ^ s := Nat.pow_le_pow_right (by decide) h
      omega
    refine round_end (s + 1) ?_ ?_ ?_
    exact ⟨rfl, rfl, rfl, trivial⟩
    exact ⟨hst, by omega, by rw [Nat.pow_succ, ← Nat.mul_assoc]; omega⟩
    show 32 - (s + 1) < 32 - s
    omega
    intro c57
    refine cp_exit ?_
    refine at_then_exit ?_
    refine at_then_exit ?_
    refine cp_exit_here ?_
    refine cp_then ?_
    refine zsr ?_
    refine zM rfl hst rfl ?_
    refine zM rfl hst rfl ?_
    refine stepK_callO rfl rfl rfl rfl rfl hst (snum_shiftLeft hst.agree hb (by omega) (by omega)) ?_
    clear hst
    intro v6 g6 ow6 w6 hst hle6 hp6
    replace ha := ha.mono hle6
    replace hb := hb.mono hle6
    obtain ⟨bv, ws8, rfl, rfl, hw8, hl8, hv8⟩ := hp6
    try simp only [List.cons_append, List.nil_append] at hst
    obtain ⟨hst, hle8⟩ := hst.publish 0 rfl
    replace hst : St w [] g _ [] _ := hst
    replace ha := ha.mono hle8
    replace hb := hb.mono hle8
    refine stepK_call rfl rfl rfl rfl rfl hst (snum_trim hst.agree (ws := ws8) (by rw [← hl8]; exact SlN.put_uN) hw8 (by omega) (by omega)) ?_
    clear hst
    intro v7 g7 w7 hst hle7 hcs7 hp7
    replace ha := ha.mono hle7
    replace hb := hb.mono hle7
    obtain ⟨V, vn, vc, rfl, vs, hvs, hvw, hvt, hvv⟩ := hp7
    rw [hv8] at hvv
    have hlv := hvs.1
    have hnl : M * 2 ^ s < 4294967296 ^ m := by
      have e1 := h_val_split ys (m - 1) (by omega)
      rw [h_val_drop_get hy, List.drop_eq_nil_of_le (by omega)] at e1
      have hlow := h_val_lt (hyw.take (m - 1))
      rw [List.length_take, Nat.min_eq_left (by omega)] at hlow
      simp only [hval, Nat.mul_zero, Nat.add_zero] at e1
      rw [← hyv, e1]
      have h2 : 4294967296 ^ m = 4294967296 ^ (m - 1) * 4294967296 := by rw [← Nat.pow_succ]; congr 1; omega
      have h3 : 4294967296 ^ (m - 1) * (y * 2 ^ s) + 4294967296 ^ (m - 1) * 2 ^ s ≤ 4294967296 ^ (m - 1) * 4294967296 := by
        rw [← Nat.mul_add]
        refine Nat.mul_le_mul_left _ ?_
        rw [← Nat.succ_mul]
        have h4 : (y + 1) * 2 ^ s ≤ 4294967296 := by
          have h5 : (4294967296 : Nat) = 2 ^ (32 - s) * 2 ^ s := by rw [Nat.mul_comm, pow32 s (by omega)]
          rw [h5] at hys2 ⊢
          exact Nat.mul_le_mul_right _ (Nat.lt_of_mul_lt_mul_right hys2)
        exact h4
      rw [h2, Nat.add_mul, Nat.mul_assoc]
      have h6 : hval (ys.take (m - 1)) * 2 ^ s < 4294967296 ^ (m - 1) * 2 ^ s := (Nat.mul_lt_mul_right (Nat.pow_pos (by decide))).2 hlow
      omega
    have hvl : hval vs < 4294967296 ^ m := by rw [hvv]; exact hnl
    obtain rfl : m = vn := Nat.le_antisymm (hb.len (Nat.lt_of_le_of_lt (Nat.le_mul_of_pos_right _ (show 0 < 2 ^ s from Nat.pow_pos (by decide))) (by rw [← hvv, ← hlv]; exact h_val_lt hvw))) (IsHat.len ⟨vs, hvs, hvw, hvt, rfl⟩ hvl)
    obtain ⟨b4, o4, rfl, hb4⟩ := hvs.some_ hm0
    clear hb4
    have hV : 0 < hval vs := h_val_pos hvt (by omega)
    refine zA rfl hst rfl ?_
    refine zn4 ?_
    refine zM rfl hst rfl ?_
    refine zM rfl hst rfl ?_
    refine stepK_callO rfl rfl rfl rfl rfl hst (snum_shiftLeft hst.agree ha (by omega) (by omega)) ?_
    clear hst
    intro v8 g8 ow8 w8 hst hle8 hp8
    replace ha := ha.mono hle8
    replace hb := hb.mono hle8
    replace hvs := hvs.mono hle8
    obtain ⟨bu, ls, rfl, rfl, hlw, hll, hlv⟩ := hp8
    try simp only [List.cons_append, List.nil_append] at hst
    refine zA rfl hst rfl ?_
    refine zn4 ?_
    refine zM rfl hst rfl ?_
    refine stepK_d rfl rfl rfl hst (does_len_slice rfl zf80 rfl) ?_
    refine zA rfl hst rfl ?_
    refine zn4 ?_
    refine zM rfl hst rfl ?_
    refine stepK_d rfl rfl rfl hst (does_len_slice rfl zf80 rfl) ?_
    refine zM rfl hst rfl ?_
    refine stepK_d rfl rfl rfl hst (Does.int (does_sub rfl rfl rfl) (show _ = ((n + 1 - m : Nat) : Int) by rw [wrap_i64 (by omega) (by omega)]; omega)) ?_
    refine stepK_d rfl rfl rfl hst (Does.int (does_sub rfl rfl rfl) (show _ = ((n - m : Nat) : Int) by rw [wrap_i64 (by omega) (by omega)]; omega)) ?_
    refine zA rfl hst rfl ?_
    refine zn4 ?_
    refine zM rfl hst rfl ?_
    refine stepK_d rfl rfl rfl hst (Does.int (does_add rfl rfl rfl) (wrap_i64 (by omega) (by omega))) ?_
    refine stepK_make rfl rfl rfl (l := n - m + 1) (c := n - m + 1) rfl zf80 zf84 rfl rfl rfl rfl (by omega) (by omega) (by omega) (by omega) (by omega) hst ?_
    clear hst
    intro bq w9 hst
    rw [uN_rep] at hst
    simp only [List.cons_append, List.nil_append] at hst
    refine zA rfl hst rfl ?_
    refine znq ?_
    refine zsr ?_
    refine zM rfl hst rfl ?_
    refine zA rfl hst rfl ?_
    refine znt ?_
    refine cp_block ?_
    refine cp_loop (ι := Nat × List Nat × List Nat) (fun (k, us, qs) => [(8, .int .u64 (s : Int)), (9, .slice (some ⟨b4, o4, none⟩) m vc), (10, .slice (some ⟨bu, 0, none⟩) (n + 1) (n + 1)), (11, .int .i64 (m : Int)), (13, .slice (some ⟨bq, 0, none⟩) (n - m + 1) (n - m + 1)), (14, .int .i64 ((k : Int) - 1))]) (fun (k, us, qs) w1 => ∃ g1, St w [] g g1 [(bu, .cells (uN .u32 us).toArray 121 (0, 0)), (bq, .cells (uN .u32 qs).toArray 121 (0, 0))] w1 ∧ SlN g1 .u32 (some ⟨b4, o4, none⟩) m vs ∧ k ≤ n - m + 1 ∧ HWords us ∧ us.length = n + 1 ∧ HWords qs ∧ qs.length = n - m + 1 ∧ hval (us.drop k) < hval vs ∧ hval us + 4294967296 ^ k * (hval (qs.drop k) * hval vs) = N * 2 ^ s) (fun (k, us, qs) => k) (n - m + 1, ls, List.replicate (n - m + 1) 0) ?k10 ?i10 ?r10
    case k10 => exact ⟨rfl, rfl, rfl, rfl, rfl, kint (by omega), trivial⟩
    case i10 =>
      exact ⟨_, hst, hvs, Nat.le_refl _, hlw, hll, HWords.rep _, by simp, by
        rw [hvv]
        refine Nat.lt_of_le_of_lt (Nat.le_of_eq (h_val_div_pow hlw (by omega)).symm) ?_
        rw [hlv]
        exact (Nat.div_lt_iff_lt_mul (Nat.pow_pos (by decide))).2 (by rw [Nat.mul_comm _ (4294967296 ^ _)]; exact h_divide_first ha.lt (hb.le hm0) hm0 hmn rfl), by
        rw [hlv, List.drop_eq_nil_of_le (by simp)]
        simp [hval]⟩
    case r10 =>
      clear hst
      rintro ⟨k, us, qs⟩ w1 ⟨g1, hst, hvs, hk, hus, hul, hqs, hql, hlt, hA⟩
      refine cp_seq ?_
      refine zsr ?_
      refine zM rfl hst rfl ?_
      refine stepK_d rfl rfl rfl hst (does_geq rfl rfl rfl) ?_
      refine znt ?_
      refine cp_if rfl ?_ ?_
      intro c79
      refine cp_skip ?_
      refine cp_then ?_
      refine cp_seq ?_
      refine cp_block ?_
      refine cp_seq ?_
      obtain ⟨j, rfl⟩ : ∃ j, k = j + 1 := ⟨k - 1, by omega⟩
      have hlv := hvs.1
      obtain ⟨u2, hu2⟩ := get_of_lt (ws := us) (j := j + m) (by omega)
      obtain ⟨u1, hu1⟩ := get_of_lt (ws := us) (j := j + m - 1) (by omega)
      obtain ⟨u0, hu0⟩ := get_of_lt (ws := us) (j := j + m - 2) (by omega)
      obtain ⟨v1, hv1⟩ := get_of_lt (ws := vs) (j := m - 1) (by omega)
      obtain ⟨v0, hv0⟩ := get_of_lt (ws := vs) (j := m - 2) (by omega)
      obtain ⟨b5, o5, e5, hb4⟩ := hvs.some_ (by omega)
      cases e5
      have hb4 : CellsN g1 .u32 b4 o4 vs := hb4
      obtain ⟨uj, huj⟩ := get_of_lt (ws := us) (j := j) (by omega)
      have hUV := h_next_lt huj (hus.get huj) hlt
      have hUB : hval (us.drop j) < 4294967296 ^ (m + 1) := by
        rw [Nat.pow_succ, Nat.mul_comm]
        exact Nat.lt_of_lt_of_le hUV (Nat.mul_le_mul_left _ (Nat.le_of_lt hvl))
      obtain ⟨hz3, hsg⟩ := h_rest_zero (j := j) hus hUB (by omega)
      rw [← Nat.add_assoc] at hz3
      have hu2l := hus.get hu2
      have hu1l := hus.get hu1
      have hu0l := hus.get hu0
      have hv1l := hvw.get hv1
      have hv0l := hvw.get hv0
      have hv1p : 0 < v1 := h_trimmed_last hvt hlv hv1
      have hlead : u2 ≤ v1 := hk_lead hus hvw (by omega) (by omega) hlv hu2 hv1 hlt
      have hQB : hval (us.drop j) / hval vs < 4294967296 := (Nat.div_lt_iff_lt_mul hV).2 hUV
      have hQT : hval (us.drop j) / hval vs * (v1 * 4294967296 + v0) ≤ ((u2 * 4294967296 + u1) * 4294967296 + u0) := h_digit_top hus hvw (by omega) (by omega) hlv hu2 hu1 hu0 hv1 hv0 hUB (Nat.div_mul_le_self _ _)
      obtain ⟨Q, hQ⟩ : ∃ Q, Q = hval (us.drop j) / hval vs := ⟨_, rfl⟩
      rw [← hQ] at hQB hQT
      refine cp_drawn (by kernel_rfl) 18 [(0, true), (1, true), (2, true), (3, true), (4, true), (5, true), (6, true), (7, true), (8, true), (9, true), (10, true), (11, true), (12, true), (13, true), (14, true), (15, true), (16, true), (17, true)] _ rfl (by kernel_rfl) (by kernel_rfl) (by kernel_rfl) (fun _ _ _ _ _ h => h) _ (hst.drew) ?_
      have hst0 := hst.drew
      clear hst
      have hst := hst0
      refine stepD_d rfl rfl rfl rfl (does_move rfl rfl) ?_
      refine stepD_d rfl rfl rfl rfl (does_move rfl rfl) ?_
      refine stepD_d rfl rfl rfl rfl (does_move rfl rfl) ?_
      refine stepD_d rfl rfl rfl rfl (Does.int (does_add rfl rfl rfl) (wrap_i64 (by omega) (by omega))) ?_
      refine stepD_d rfl rfl rfl rfl (does_indexAddr1 (j := (j + m)) rfl zf80 (by kernel_rfl) rfl rfl (by omega) (by omega)) ?_
      refine stepD_d rfl rfl rfl rfl (does_load_own1 0 rfl (by kernel_rfl) rfl rfl (uN_arr_get (by rw [Nat.zero_add]; exact hu2))) ?_
      refine stepD_d rfl rfl rfl rfl (does_widen32 rfl (by kernel_rfl) (by kernel_rfl) rfl (by omega)) ?_
      refine stepD_d rfl rfl rfl rfl (does_shl32 rfl rfl rfl (by omega)) ?_
      refine stepD_d rfl rfl rfl rfl (does_move rfl rfl) ?_
      refine stepD_d rfl rfl rfl rfl (does_move rfl rfl) ?_
      refine stepD_d rfl rfl rfl rfl (does_move rfl rfl) ?_
      refine stepD_d rfl rfl rfl rfl (Does.int (does_add rfl rfl rfl) (wrap_i64 (by omega) (by omega))) ?_
      refine stepD_d rfl rfl rfl rfl (Does.int (does_sub rfl rfl rfl) (wrap_i64 (by omega) (by omega))) ?_
      refine stepD_d rfl rfl rfl rfl (does_indexAddr1 (j := (j + m - 1)) rfl zf80 (by kernel_rfl) rfl rfl (by omega) (by omega)) ?_
      refine stepD_d rfl rfl rfl rfl (does_load_own1 0 rfl (by kernel_rfl) rfl rfl (uN_arr_get (by rw [Nat.zero_add]; exact hu1))) ?_
      refine stepD_d rfl rfl rfl rfl (does_widen32 rfl (by kernel_rfl) (by kernel_rfl) rfl (by omega)) ?_
      refine stepD_d rfl rfl rfl rfl (does_or32 rfl rfl rfl (by omega) (by omega)) ?_
      refine stepD_d rfl rfl rfl rfl (does_assign rfl rfl) ?_
      refine stepD_tail ?_
      refine zn4 ?_
      refine zM rfl hst rfl ?_
      refine zM rfl hst rfl ?_
      refine zM rfl hst rfl ?_
      refine stepK_d rfl rfl rfl hst (Does.int (does_sub rfl rfl rfl) (wrap_i64 (by omega) (by omega))) ?_
      refine stepK_d rfl rfl rfl hst (does_indexAddr1 (j := (m - 1)) rfl zf80 (by kernel_rfl) rfl rfl (by omega) (by omega)) ?_
      refine stepK_d rfl rfl rfl hst (does_load_g1 rfl (by kernel_rfl) rfl (hb4.at_ _ _ hv1)) ?_
      refine stepK_d rfl rfl rfl hst (does_widen32 rfl (by kernel_rfl) (by kernel_rfl) rfl (by omega)) ?_
      refine stepK_d rfl rfl rfl hst (does_quo_u64 rfl rfl rfl (by omega) (by omega)) ?_
      refine zA rfl hst rfl ?_
      refine zn4 ?_
      refine zM rfl hst rfl ?_
      refine zM rfl hst rfl ?_
      refine zM rfl hst rfl ?_
      refine stepK_d rfl rfl rfl hst (Does.int (does_sub rfl rfl rfl) (wrap_i64 (by omega) (by omega))) ?_
      refine stepK_d rfl rfl rfl hst (does_indexAddr1 (j := (m - 1)) rfl zf80 (by kernel_rfl) rfl rfl (by omega) (by omega)) ?_
      refine stepK_d rfl rfl rfl hst (does_load_g1 rfl (by kernel_rfl) rfl (hb4.at_ _ _ hv1)) ?_
      refine stepK_d rfl rfl rfl hst (does_widen32 rfl (by kernel_rfl) (by kernel_rfl) rfl (by omega)) ?_
      refine stepK_d rfl rfl rfl hst (does_rem_n rfl rfl rfl (by omega)) ?_
      refine zA rfl hst rfl ?_
      refine znt ?_
      refine cp_join (ι := Nat) (fun h => [(8, .int .u64 (s : Int)), (9, .slice (some ⟨b4, o4, none⟩) m vc), (10, .slice (some ⟨bu, 0, none⟩) (n + 1) (n + 1)), (11, .int .i64 (m : Int)), (13, .slice (some ⟨bq, 0, none⟩) (n - m + 1) (n - m + 1)), (14, .int .i64 (((j + 1 : Nat) : Int) - 1)), (16, .int .u64 (h : Int))]) (fun h w2 => St w [] g g1 [(bu, .cells (uN .u32 us).toArray 121 (0, 0)), (bq, .cells (uN .u32 qs).toArray 121 (0, 0))] w2 ∧ h < 4294967296 ∧ Q ≤ h ∧ h ≤ Q + 1) ?c11 ?d11
      case c11 =>
        refine cp_block ?_
        refine cp_loop (ι := Nat × Nat) (fun (h, r) => [(8, .int .u64 (s : Int)), (9, .slice (some ⟨b4, o4, none⟩) m vc), (10, .slice (some ⟨bu, 0, none⟩) (n + 1) (n + 1)), (11, .int .i64 (m : Int)), (13, .slice (some ⟨bq, 0, none⟩) (n - m + 1) (n - m + 1)), (14, .int .i64 (((j + 1 : Nat) : Int) - 1)), (16, .int .u64 (h : Int)), (17, .int .u64 (r : Int))]) (fun (h, r) w2 => St w [] g g1 [(bu, .cells (uN .u32 us).toArray 121 (0, 0)), (bq, .cells (uN .u32 qs).toArray 121 (0, 0))] w2 ∧ h * v1 + r = u2 * 4294967296 + u1 ∧ r < 4294967296 ∧ h < 18446744073709551616 ∧ Q ≤ h) (fun (h, r) => h) ((u2 * 4294967296 + u1) / v1, (u2 * 4294967296 + u1) % v1) ?k12 ?i12 ?r12
        case k12 => exact ⟨rfl, rfl, rfl, rfl, rfl, rfl, rfl, rfl, trivial⟩
        case i12 =>
          have hmod : (u2 * 4294967296 + u1) % v1 < v1 := Nat.mod_lt _ hv1p
          exact ⟨hst, by rw [Nat.mul_comm]; exact Nat.div_add_mod _ _, by omega, Nat.lt_of_le_of_lt (Nat.div_le_self _ _) (by omega), h_guess_start hv1p hu0l hQT⟩
        case r12 =>
          clear hst
          rintro ⟨h, r⟩ w2 ⟨hst, he, hr32, hh64, hQh⟩
          refine cp_seq ?_
          refine cp_seq ?_
          refine cp_drawn (by kernel_rfl) 24 [(0, true), (1, true), (2, true), (3, true), (4, true), (5, true), (6, true), (7, true), (8, true), (9, true), (10, true), (11, true), (12, true), (13, true), (14, true), (15, true), (16, true), (17, true), (18, true), (19, true), (20, true), (21, true), (22, true), (23, true)] _ rfl (by kernel_rfl) (by kernel_rfl) (by kernel_rfl) (fun _ _ _ _ _ h => h) _ (hst.drew) ?_
          have hst0 := hst.drew
          clear hst
          have hst := hst0
          refine stepD_d rfl rfl rfl rfl (does_move rfl rfl) ?_
          refine stepD_d rfl rfl rfl rfl (does_geq_n (b := 4294967296) rfl rfl rfl) ?_
          refine stepD_d rfl rfl rfl rfl (does_move rfl rfl) ?_
          refine wpD_split (t := 117) rfl ?_ ?_
          intro s117
          refine stepD_pass rfl rfl rfl rfl rfl rfl rfl rfl ?_
          refine stepD_pass rfl rfl rfl rfl rfl rfl rfl rfl ?_
          refine stepD_pass rfl rfl rfl rfl rfl rfl rfl rfl ?_
          refine stepD_pass rfl rfl rfl rfl rfl rfl rfl rfl ?_
          refine stepD_pass rfl rfl rfl rfl rfl rfl rfl rfl ?_
          refine stepD_pass rfl rfl rfl rfl rfl rfl rfl rfl ?_
          refine stepD_pass rfl rfl rfl rfl rfl rfl rfl rfl ?_
          refine stepD_pass rfl rfl rfl rfl rfl rfl rfl rfl ?_
          refine stepD_pass rfl rfl rfl rfl rfl rfl rfl rfl ?_
          refine stepD_pass rfl rfl rfl rfl rfl rfl rfl rfl ?_
          refine stepD_pass rfl rfl rfl rfl rfl rfl rfl rfl ?_
          refine stepD_pass rfl rfl rfl rfl rfl rfl rfl rfl ?_
          refine stepD_pass rfl rfl rfl rfl rfl rfl rfl rfl ?_
          refine stepD_pass rfl rfl rfl rfl rfl rfl rfl rfl ?_
          refine stepD_pass rfl rfl rfl rfl rfl rfl rfl rfl ?_
          refine stepD_pass rfl rfl rfl rfl rfl rfl rfl rfl ?_
          refine stepD_pass rfl rfl rfl rfl rfl rfl rfl rfl ?_
          refine stepD_pass rfl rfl rfl rfl rfl rfl rfl rfl ?_
          refine stepD_pass rfl rfl rfl rfl rfl rfl rfl rfl ?_
          refine stepD_pass rfl rfl rfl rfl rfl rfl rfl rfl ?_
          refine stepD_d rfl rfl rfl rfl (does_pick_true rfl rfl rfl) ?_
          refine stepD_tail ?_
          refine znt ?_
          refine cp_cond_true rfl ?_
          refine cp_skip ?_
          refine cp_then ?_
          refine cp_block ?_
          refine cp_seq ?_
          have hQ1 : Q ≤ h - 1 ∧ 0 < h := by
            first
            | exact ⟨by omega, by omega⟩
            | exact ⟨h_guess_down he (by omega) hQh hQT, Nat.pos_of_ne_zero fun e => by subst e; omega⟩
          obtain ⟨hQ1, hh0⟩ := hQ1
          refine cp_region ?_
          refine zM rfl hst rfl ?_
          refine stepK_d rfl rfl rfl hst (Does.nat (b := h - 1) (does_sub_u64 (b := 1) rfl rfl rfl) (by omega)) ?_
          refine zA rfl hst rfl ?_
          refine zn4 ?_
          refine zM rfl hst rfl ?_
          refine zM rfl hst rfl ?_
          refine zM rfl hst rfl ?_
          refine stepK_d rfl rfl rfl hst (Does.int (does_sub rfl rfl rfl) (wrap_i64 (by omega) (by omega))) ?_
          refine stepK_d rfl rfl rfl hst (does_indexAddr1 (j := (m - 1)) rfl zf80 (by kernel_rfl) rfl rfl (by omega) (by omega)) ?_
          refine stepK_d rfl rfl rfl hst (does_load_g1 rfl (by kernel_rfl) rfl (hb4.at_ _ _ hv1)) ?_
          refine stepK_d rfl rfl rfl hst (does_widen32 rfl (by kernel_rfl) (by kernel_rfl) rfl (by omega)) ?_
          refine stepK_d rfl rfl rfl hst (does_add_u64x rfl rfl rfl (by omega)) ?_
          refine zA rfl hst rfl ?_
          refine zn4 ?_
          refine zM rfl hst rfl ?_
          refine stepK_d rfl rfl rfl hst (does_geq_n (b := 4294967296) rfl rfl rfl) ?_
          refine znt ?_
          refine cp_if rfl ?_ ?_
          intro c150
          refine cp_exit ?_
          refine cp_exit_on (by decide) ?_
          refine at_then_exit ?_
          refine cp_exit_here ?_
          obtain ⟨hB1, hB2⟩ := hk_break (u0 := u0) (knuth_keep he hh0) hlead hu1l hv0l hv1p (by omega)
          refine join_end (h - 1) ?_ ?_
          exact ⟨rfl, rfl, rfl, rfl, rfl, rfl, rfl, trivial⟩
          exact ⟨hst, hB1, hQ1, hQ ▸ hk_near hus hvw (by omega) (by omega) hlv hu2 hu1 hu0 hv1 hv0 hUB hv1p hB1 hB2⟩
          intro c150
          refine cp_skip ?_
          refine at_block_normal ?_
          refine round_end ((h - 1, r + v1)) ?_ ?_ ?_
          exact ⟨rfl, rfl, rfl, rfl, rfl, rfl, rfl, rfl, trivial⟩
          exact ⟨hst, knuth_keep he (by omega), by omega, by omega, hQ1⟩
          show h - 1 < h
          omega
          intro s117
          have hhv0 := mulH (show h < 4294967296 by omega) hv0l
          refine stepD_guard rfl rfl rfl rfl rfl rfl rfl (does_move rfl rfl) ?_
          refine stepD_guard rfl rfl rfl rfl rfl rfl rfl (does_move rfl rfl) ?_
          refine stepD_guard rfl rfl rfl rfl rfl rfl rfl (does_move rfl rfl) ?_
          refine stepD_guard rfl rfl rfl rfl rfl rfl rfl (Does.int (does_sub rfl rfl rfl) (wrap_i64 (by omega) (by omega))) ?_
          refine stepD_guard rfl rfl rfl rfl rfl rfl rfl (does_indexAddr1 (j := (m - 2)) rfl zf80 (by kernel_rfl) rfl rfl (by omega) (by omega)) ?_
          refine stepD_guard rfl rfl rfl rfl rfl rfl rfl (does_load_g1 rfl (by kernel_rfl) rfl (hb4.at_ _ _ hv0)) ?_
          refine stepD_guard rfl rfl rfl rfl rfl rfl rfl (does_widen32 rfl (by kernel_rfl) (by kernel_rfl) rfl (by omega)) ?_
          refine stepD_guard rfl rfl rfl rfl rfl rfl rfl (does_mul_u64x rfl rfl rfl (by omega)) ?_
          refine stepD_guard rfl rfl rfl rfl rfl rfl rfl (does_move rfl rfl) ?_
          refine stepD_guard rfl rfl rfl rfl rfl rfl rfl (does_shl32 rfl rfl rfl (by omega)) ?_
          refine stepD_guard rfl rfl rfl rfl rfl rfl rfl (does_move rfl rfl) ?_
          refine stepD_guard rfl rfl rfl rfl rfl rfl rfl (does_move rfl rfl) ?_
          refine stepD_guard rfl rfl rfl rfl rfl rfl rfl (does_move rfl rfl) ?_
          refine stepD_guard rfl rfl rfl rfl rfl rfl rfl (Does.int (does_add rfl rfl rfl) (wrap_i64 (by omega) (by omega))) ?_
          refine stepD_guard rfl rfl rfl rfl rfl rfl rfl (Does.int (does_sub rfl rfl rfl) (wrap_i64 (by omega) (by omega))) ?_
          refine stepD_guard rfl rfl rfl rfl rfl rfl rfl (does_indexAddr1 (j := (j + m - 2)) rfl zf80 (by kernel_rfl) rfl rfl (by omega) (by omega)) ?_
          refine stepD_guard rfl rfl rfl rfl rfl rfl rfl (does_load_own1 0 rfl (by kernel_rfl) rfl rfl (uN_arr_get (by rw [Nat.zero_add]; exact hu0))) ?_
          refine stepD_guard rfl rfl rfl rfl rfl rfl rfl (does_widen32 rfl (by kernel_rfl) (by kernel_rfl) rfl (by omega)) ?_
          refine stepD_guard rfl rfl rfl rfl rfl rfl rfl (does_or32 rfl rfl rfl (by omega) (by omega)) ?_
          refine stepD_guard rfl rfl rfl rfl rfl rfl rfl (does_gtr_n rfl rfl rfl) ?_
          refine stepD_d rfl rfl rfl rfl (does_pick_false rfl rfl rfl) ?_
          refine stepD_tail ?_
          refine znt ?_
          refine cp_if rfl ?_ ?_
          intro c138
          refine cp_skip ?_
          refine cp_then ?_
          refine cp_block ?_
          refine cp_seq ?_
          have hQ1 : Q ≤ h - 1 ∧ 0 < h := by
            first
            | exact ⟨by omega, by omega⟩
            | exact ⟨h_guess_down he (by omega) hQh hQT, Nat.pos_of_ne_zero fun e => by subst e; omega⟩
          obtain ⟨hQ1, hh0⟩ := hQ1
          refine cp_region ?_
          refine zM rfl hst rfl ?_
          refine stepK_d rfl rfl rfl hst (Does.nat (b := h - 1) (does_sub_u64 (b := 1) rfl rfl rfl) (by omega)) ?_
          refine zA rfl hst rfl ?_
          refine zn4 ?_
          refine zM rfl hst rfl ?_
          refine zM rfl hst rfl ?_
          refine zM rfl hst rfl ?_
          refine stepK_d rfl rfl rfl hst (Does.int (does_sub rfl rfl rfl) (wrap_i64 (by omega) (by omega))) ?_
          refine stepK_d rfl rfl rfl hst (does_indexAddr1 (j := (m - 1)) rfl zf80 (by kernel_rfl) rfl rfl (by omega) (by omega)) ?_
          refine stepK_d rfl rfl rfl hst (does_load_g1 rfl (by kernel_rfl) rfl (hb4.at_ _ _ hv1)) ?_
          refine stepK_d rfl rfl rfl hst (does_widen32 rfl (by kernel_rfl) (by kernel_rfl) rfl (by omega)) ?_
          refine stepK_d rfl rfl rfl hst (does_add_u64x rfl rfl rfl (by omega)) ?_
          refine zA rfl hst rfl ?_
          refine zn4 ?_
          refine zM rfl hst rfl ?_
          refine stepK_d rfl rfl rfl hst (does_geq_n (b := 4294967296) rfl rfl rfl) ?_
          refine znt ?_
          refine cp_if rfl ?_ ?_
          intro c150
          refine cp_exit ?_
          refine cp_exit_on (by decide) ?_
          refine at_then_exit ?_
          refine cp_exit_here ?_
          obtain ⟨hB1, hB2⟩ := hk_break (u0 := u0) (knuth_keep he hh0) hlead hu1l hv0l hv1p (by omega)
          refine join_end (h - 1) ?_ ?_
          exact ⟨rfl, rfl, rfl, rfl, rfl, rfl, rfl, trivial⟩
          exact ⟨hst, hB1, hQ1, hQ ▸ hk_near hus hvw (by omega) (by omega) hlv hu2 hu1 hu0 hv1 hv0 hUB hv1p hB1 hB2⟩
          intro c150
          refine cp_skip ?_
          refine at_block_normal ?_
          refine round_end ((h - 1, r + v1)) ?_ ?_ ?_
          exact ⟨rfl, rfl, rfl, rfl, rfl, rfl, rfl, rfl, trivial⟩
          exact ⟨hst, knuth_keep he (by omega), by omega, by omega, hQ1⟩
          show h - 1 < h
          omega
          intro c138
          refine cp_exit ?_
          refine at_then_exit ?_
          refine at_then_exit ?_
          refine cp_exit_here ?_
          have hB1 : h < 4294967296 := by omega
          have hB2 := hk_met (u0 := u0) (v0 := v0) he (by omega)
          refine join_end (h) ?_ ?_
          exact ⟨rfl, rfl, rfl, rfl, rfl, rfl, rfl, trivial⟩
          exact ⟨hst, hB1, hQh, hQ ▸ hk_near hus hvw (by omega) (by omega) hlv hu2 hu1 hu0 hv1 hv0 hUB hv1p hB1 hB2⟩
      case d11 =>
        clear hst
        rintro h w2 ⟨hst, hh, hQh, hhQ⟩
        refine zsr ?_
        refine zA rfl hst rfl ?_
        refine zA rfl hst rfl ?_
        refine znq ?_
        refine zsr ?_
        refine zA rfl hst rfl ?_
        refine znt ?_
        refine cp_block ?_
        refine cp_loop (ι := Nat × Nat × Nat × List Nat) (fun (i, cy, bo, ws) => [(8, .int .u64 (s : Int)), (9, .slice (some ⟨b4, o4, none⟩) m vc), (10, .slice (some ⟨bu, 0, none⟩) (n + 1) (n + 1)), (11, .int .i64 (m : Int)), (13, .slice (some ⟨bq, 0, none⟩) (n - m + 1) (n - m + 1)), (14, .int .i64 (((j + 1 : Nat) : Int) - 1)), (16, .int .u64 (h : Int)), (18, .int .u64 (cy : Int)), (19, .int .u64 (bo : Int)), (20, .int .i64 (i : Int))]) (fun (i, cy, bo, ws) w3 => St w [] g g1 [(bu, .cells (uN .u32 ws).toArray 121 (0, 0)), (bq, .cells (uN .u32 qs).toArray 121 (0, 0))] w3 ∧ i ≤ m ∧ cy < 4294967296 ∧ bo ≤ 1 ∧ HWords ws ∧ ws.length = us.length ∧ ws.take j = us.take j ∧ ws.drop (j + i) = us.drop (j + i) ∧ hval ((ws.drop j).take i) + h * hval (vs.take i) = hval ((us.drop j).take i) + (cy + bo) * 4294967296 ^ i) (fun (i, cy, bo, ws) => m - i) (0, 0, 0, us) ?k13 ?i13 ?r13
        case k13 => exact ⟨rfl, rfl, rfl, rfl, rfl, rfl, rfl, rfl, rfl, rfl, trivial⟩
        case i13 =>
          exact ⟨hst, Nat.zero_le _, by decide, by decide, hus, rfl, rfl, rfl, by simp [hval]⟩
        case r13 =>
          clear hst
          rintro ⟨i, cy, bo, ws⟩ w3 ⟨hst, hi, hcy, hbo, hws, hwl, hwt, hwd, hv⟩
          refine cp_seq ?_
          refine zsr ?_
          refine zM rfl hst rfl ?_
          refine zM rfl hst rfl ?_
          refine stepK_d rfl rfl rfl hst (does_lss rfl rfl rfl) ?_
          refine znt ?_
          refine cp_if rfl ?_ ?_
          intro c153
          refine cp_skip ?_
          refine cp_then ?_
          refine cp_seq ?_
          refine cp_block ?_
          refine cp_seq ?_
          obtain ⟨x, hx⟩ := get_of_lt (ws := vs) (j := i) (by omega)
          have hxlt := hvw.get hx
          obtain ⟨u, hu⟩ := get_of_lt (ws := us) (j := j + i) (by omega)
          have hult := hus.get hu
          have hwu : ws[j + i]? = some u := by rw [get_drop_eq hwd (by omega)]; exact hu
          have hhx := mulH hh hxlt
          obtain ⟨p, hp⟩ : ∃ p, p = h * x + cy := ⟨_, rfl⟩
          have hp64 : p < 18446744073709551616 := by omega
          refine cp_region ?_
          refine zM rfl hst rfl ?_
          refine zM rfl hst rfl ?_
          refine zM rfl hst rfl ?_
          refine stepK_d rfl rfl rfl hst (does_indexAddr1 rfl zf80 (by kernel_rfl) rfl rfl rfl (by omega)) ?_
          refine stepK_d rfl rfl rfl hst (does_load_g1 rfl (by kernel_rfl) rfl (hb4.at_ _ _ hx)) ?_
          refine stepK_d rfl rfl rfl hst (does_widen32 rfl (by kernel_rfl) (by kernel_rfl) rfl (by omega)) ?_
          refine stepK_d rfl rfl rfl hst (does_mul_u64x rfl rfl rfl (by omega)) ?_
          refine zM rfl hst rfl ?_
          refine stepK_d rfl rfl rfl hst (Does.nat (b := p) (does_add_u64x rfl rfl rfl (by omega)) (by rw [hp])) ?_
          refine zA rfl hst rfl ?_
          refine zn4 ?_
          refine zM rfl hst rfl ?_
          refine stepK_d rfl rfl rfl hst (does_shr32 rfl rfl rfl) ?_
          refine zA rfl hst rfl ?_
          refine zn4 ?_
          refine zM rfl hst rfl ?_
          refine zM rfl hst rfl ?_
          refine zM rfl hst rfl ?_
          refine stepK_d rfl rfl rfl hst (Does.int (does_add rfl rfl rfl) (wrap_i64 (by omega) (by omega))) ?_
          refine stepK_d rfl rfl rfl hst (does_indexAddr1 (j := (j + i)) rfl zf80 (by kernel_rfl) rfl rfl (by omega) (by omega)) ?_
          refine stepK_d rfl rfl rfl hst (does_load_own1 0 rfl (by kernel_rfl) rfl rfl (uN_arr_get (by rw [Nat.zero_add]; exact hwu))) ?_
          refine stepK_d rfl rfl rfl hst (does_widen32 rfl (by kernel_rfl) (by kernel_rfl) rfl (by omega)) ?_
          refine zM rfl hst rfl ?_
          refine stepK_d rfl rfl rfl hst (does_and_mask32 rfl rfl rfl (by omega)) ?_
          refine stepK_d rfl rfl rfl hst (does_sub_u64n rfl rfl rfl (by omega) (by omega)) ?_
          refine zM rfl hst rfl ?_
          refine stepK_d rfl rfl rfl hst (Does.nat (b := (u + 18446744073709551616 - p % 4294967296 - bo) % 18446744073709551616) (does_sub_u64n rfl rfl rfl (Nat.mod_lt _ (by decide)) (by omega)) (by omega)) ?_
          refine zA rfl hst rfl ?_
          refine zn4 ?_
          refine zM rfl hst rfl ?_
          refine zM rfl hst rfl ?_
          refine zM rfl hst rfl ?_
          refine stepK_d rfl rfl rfl hst (Does.int (does_add rfl rfl rfl) (wrap_i64 (by omega) (by omega))) ?_
          refine zM rfl hst rfl ?_
          refine stepK_d rfl rfl rfl hst (does_conv_n_u32 rfl (by kernel_rfl) (by kernel_rfl) rfl) ?_
          refine stepK_d rfl rfl rfl hst (does_indexAddr1 (j := (j + i)) rfl zf80 (by kernel_rfl) rfl rfl (by omega) (by omega)) ?_
          refine stepK_store 0 rfl rfl rfl rfl rfl rfl zf81 rfl rfl hst rfl (by first | (simp [uN_length]; omega) | simp) ?_
          clear hst
          intro w14 hst
          rw [Nat.zero_add, splice_uN _ _ _ _ (by omega)] at hst
          simp only [List.set_cons_zero] at hst
          refine zn3 ?_
          refine zM rfl hst rfl ?_
          refine stepK_d rfl rfl rfl hst (does_shr32 rfl rfl rfl) ?_
          refine stepK_d rfl rfl rfl hst (does_low_bit rfl rfl rfl (by omega)) ?_
          refine zA rfl hst rfl ?_
          refine wpK_nil ?_
          refine at_block_normal ?_
          refine cp_then ?_
          refine cp_region ?_
          refine zM rfl hst rfl ?_
          refine stepK_d rfl rfl rfl hst (Does.int (does_add rfl rfl rfl) (wrap_i64 (by omega) (by omega))) ?_
          refine zA rfl hst rfl ?_
          refine wpK_nil ?_
          have hw9 := hk_word hp64 hult hbo
          refine round_end ((i + 1, p / 4294967296, (u + 18446744073709551616 - p % 4294967296 - bo) % 18446744073709551616 / 4294967296 % 2, ws.set (j + i) ((u + 18446744073709551616 - p % 4294967296 - bo) % 18446744073709551616 % 4294967296))) ?_ ?_ ?_
          exact ⟨rfl, rfl, rfl, rfl, rfl, rfl, rfl, rfl, rfl, rfl, trivial⟩
          refine ⟨hst, by omega, by omega, by omega, hws.set (Nat.mod_lt _ (by decide)), by simp [hwl], ?_, ?_, ?_⟩
          rw [take_set_out (by omega)]; exact hwt
          rw [← Nat.add_assoc, drop_set_out (by omega)]; exact drop_more hwd (by omega)
          rw [h_seg_set (by omega), h_seg_succ hu, h_val_take_succ hx, pow_succ32]
          refine h_take_step hv ?_
          rw [Nat.add_assoc _ (h * x) cy, ← hp]
          exact hw9
          show m - (i + 1) < m - i
          omega
          intro c153
          refine cp_exit ?_
          refine at_then_exit ?_
          refine at_then_exit ?_
          refine cp_exit_here ?_
          refine cp_then ?_
          refine cp_seq ?_
          obtain rfl : m = i := by omega
          obtain ⟨u, hu⟩ := get_of_lt (ws := us) (j := j + m) (by omega)
          have hult := hus.get hu
          have hwu : ws[j + m]? = some u := by rw [get_drop_eq hwd (by omega)]; exact hu
          rw [h_val_all (ws := vs) (by omega)] at hv
          obtain ⟨hz1, hz2⟩ := hk_last hult hcy hbo
          obtain ⟨dd, hdd⟩ : ∃ dd, dd = (u + 18446744073709551616 - cy - bo) % 18446744073709551616 := ⟨_, rfl⟩
          have hddl : dd < 18446744073709551616 := by rw [hdd]; exact Nat.mod_lt _ (by decide)
          refine cp_region ?_
          refine zM rfl hst rfl ?_
          refine zM rfl hst rfl ?_
          refine zM rfl hst rfl ?_
          refine stepK_d rfl rfl rfl hst (Does.int (does_add rfl rfl rfl) (wrap_i64 (by omega) (by omega))) ?_
          refine stepK_d rfl rfl rfl hst (does_indexAddr1 (j := (j + m)) rfl zf80 (by kernel_rfl) rfl rfl (by omega) (by omega)) ?_
          refine stepK_d rfl rfl rfl hst (does_load_own1 0 rfl (by kernel_rfl) rfl rfl (uN_arr_get (by rw [Nat.zero_add]; exact hwu))) ?_
          refine stepK_d rfl rfl rfl hst (does_widen32 rfl (by kernel_rfl) (by kernel_rfl) rfl (by omega)) ?_
          refine zM rfl hst rfl ?_
          refine stepK_d rfl rfl rfl hst (does_sub_u64n rfl rfl rfl (by omega) (by omega)) ?_
          refine zM rfl hst rfl ?_
          refine stepK_d rfl rfl rfl hst (Does.nat (b := dd) (does_sub_u64n rfl rfl rfl (Nat.mod_lt _ (by decide)) (by omega)) (by omega)) ?_
          refine zA rfl hst rfl ?_
          refine zn4 ?_
          refine zM rfl hst rfl ?_
          refine zM rfl hst rfl ?_
          refine zM rfl hst rfl ?_
          refine stepK_d rfl rfl rfl hst (Does.int (does_add rfl rfl rfl) (wrap_i64 (by omega) (by omega))) ?_
          refine zM rfl hst rfl ?_
          refine stepK_d rfl rfl rfl hst (does_conv_n_u32 rfl (by kernel_rfl) (by kernel_rfl) rfl) ?_
          refine stepK_d rfl rfl rfl hst (does_indexAddr1 (j := (j + m)) rfl zf80 (by kernel_rfl) rfl rfl (by omega) (by omega)) ?_
          refine stepK_store 0 rfl rfl rfl rfl rfl rfl zf81 rfl rfl hst rfl (by first | (simp [uN_length]; omega) | simp) ?_
          clear hst
          intro w15 hst
          rw [Nat.zero_add, splice_uN _ _ _ _ (by omega)] at hst
          simp only [List.set_cons_zero] at hst
          refine znt ?_
          refine cp_join (ι := Nat × List Nat) (fun (dg, us3) => [(8, .int .u64 (s : Int)), (9, .slice (some ⟨b4, o4, none⟩) m vc), (10, .slice (some ⟨bu, 0, none⟩) (n + 1) (n + 1)), (11, .int .i64 (m : Int)), (13, .slice (some ⟨bq, 0, none⟩) (n - m + 1) (n - m + 1)), (14, .int .i64 (((j + 1 : Nat) : Int) - 1)), (16, .int .u64 (dg : Int))]) (fun (dg, us3) w6 => St w [] g g1 [(bu, .cells (uN .u32 us3).toArray 121 (0, 0)), (bq, .cells (uN .u32 qs).toArray 121 (0, 0))] w6 ∧ HWords us3 ∧ us3.length = us.length ∧ us3.take j = us.take j ∧ us3.drop (j + m + 1) = us.drop (j + m + 1) ∧ dg < 4294967296 ∧ hval ((us3.drop j).take (m + 1)) + dg * hval vs = hval (us.drop j) ∧ hval ((us3.drop j).take (m + 1)) < hval vs) ?c16 ?d16
          case c16 =>
            refine cp_seq ?_
            obtain ⟨us2, hus2⟩ : ∃ us2, us2 = ws.set (j + m) (dd % 4294967296) := ⟨_, rfl⟩
            rw [← hus2] at hst
            rw [← hdd] at hz1 hz2
            obtain ⟨bn, hbn⟩ : ∃ bn, bn = if u < cy + bo then 1 else 0 := ⟨_, rfl⟩
            rw [← hbn] at hz1 hz2
            have hbn1 : bn ≤ 1 := by rw [hbn]; exact ite_le_one
            have hw2 : HWords us2 := by rw [hus2]; exact hws.set (Nat.mod_lt _ (by decide))
            have hl2 : us2.length = us.length := by rw [hus2]; simp [hwl]
            have ht2 : us2.take j = us.take j := by rw [hus2, take_set_out (by omega)]; exact hwt
            have hd2 : us2.drop (j + m + 1) = us.drop (j + m + 1) := by rw [hus2, drop_set_out (by omega)]; exact drop_more hwd (by omega)
            have hs2 : hval ((us2.drop j).take (m + 1)) + h * hval vs = hval ((us.drop j).take (m + 1)) + bn * 4294967296 ^ (m + 1) := by
              rw [hus2, h_seg_set (by omega), h_seg_succ hu, pow_succ32]
              exact h_take_end hv hz1
            rw [hsg] at hs2
            clear hv hwt hwd hws hwl
            refine cp_region ?_
            refine zM rfl hst rfl ?_
            refine stepK_d rfl rfl rfl hst (does_shr_u64c (c := 63) (pw := 9223372036854775808) rfl rfl rfl (by decide)) ?_
            refine stepK_d rfl rfl rfl hst (does_eql_n (b := 1) rfl rfl rfl) ?_
            refine znt ?_
            refine cp_if rfl ?_ ?_
            intro c209
            have hbn9 : bn = 1 := by omega
            rw [hbn9] at hs2
            refine zsr ?_
            refine zM rfl hst rfl ?_
            refine stepK_d rfl rfl rfl hst (Does.nat (b := h - 1) (does_sub_u64 (b := 1) rfl rfl rfl) (by have h8 := digit_down hV (by rw [Nat.one_mul] at hs2; exact hs2) (h_seg_lt hw2) (hQ ▸ hQh); omega)) ?_
            refine zA rfl hst rfl ?_
            refine zn4 ?_
            refine zA rfl hst rfl ?_
            refine znq ?_
            refine zsr ?_
            refine zA rfl hst rfl ?_
            refine znt ?_
            refine cp_block ?_
            refine cp_loop (ι := Nat × Nat × List Nat) (fun (i, cy, ws) => [(8, .int .u64 (s : Int)), (9, .slice (some ⟨b4, o4, none⟩) m vc), (10, .slice (some ⟨bu, 0, none⟩) (n + 1) (n + 1)), (11, .int .i64 (m : Int)), (13, .slice (some ⟨bq, 0, none⟩) (n - m + 1) (n - m + 1)), (14, .int .i64 (((j + 1 : Nat) : Int) - 1)), (16, .int .u64 ((h - 1 : Nat) : Int)), (18, .int .u64 (cy : Int)), (24, .int .i64 (i : Int))]) (fun (i, cy, ws) w4 => St w [] g g1 [(bu, .cells (uN .u32 ws).toArray 121 (0, 0)), (bq, .cells (uN .u32 qs).toArray 121 (0, 0))] w4 ∧ i ≤ m ∧ cy ≤ 1 ∧ HWords ws ∧ ws.length = us.length ∧ ws.take j = us2.take j ∧ ws.drop (j + i) = us2.drop (j + i) ∧ hval ((ws.drop j).take i) + cy * 4294967296 ^ i = hval ((us2.drop j).take i) + hval (vs.take i)) (fun (i, cy, ws) => m - i) (0, 0, us2) ?k17 ?i17 ?r17
            case k17 => exact ⟨rfl, rfl, rfl, rfl, rfl, rfl, rfl, rfl, rfl, trivial⟩
            case i17 =>
              exact ⟨hst, Nat.zero_le _, by decide, hw2, hl2, rfl, rfl, by simp [hval]⟩
            case r17 =>
              clear hst
              rintro ⟨i, cy, ws⟩ w4 ⟨hst, hi, hcy, hws, hwl, hwt, hwd, hv⟩
              refine cp_seq ?_
              refine zsr ?_
              refine zM rfl hst rfl ?_
              refine zM rfl hst rfl ?_
              refine stepK_d rfl rfl rfl hst (does_lss rfl rfl rfl) ?_
              refine znt ?_
              refine cp_if rfl ?_ ?_
              intro c214
              refine cp_skip ?_
              refine cp_then ?_
              refine cp_seq ?_
              refine cp_block ?_
              refine cp_seq ?_
              obtain ⟨x, hx⟩ := get_of_lt (ws := vs) (j := i) (by omega)
              have hxlt := hvw.get hx
              obtain ⟨u, hu⟩ := get_of_lt (ws := us2) (j := j + i) (by omega)
              have hult := hw2.get hu
              have hwu : ws[j + i]? = some u := by rw [get_drop_eq hwd (by omega)]; exact hu
              refine cp_drawn (by kernel_rfl) 16 [(0, true), (1, true), (2, true), (3, true), (4, true), (5, true), (6, true), (7, true), (8, true), (9, true), (10, true), (11, true), (12, true), (13, true), (14, true), (15, true)] _ rfl (by kernel_rfl) (by kernel_rfl) (by kernel_rfl) (fun _ _ _ _ _ h => h) _ (hst.drew) ?_
              have hst0 := hst.drew
              clear hst
              have hst := hst0
              refine stepD_d rfl rfl rfl rfl (does_move rfl rfl) ?_
              refine stepD_d rfl rfl rfl rfl (does_move rfl rfl) ?_
              refine stepD_d rfl rfl rfl rfl (does_move rfl rfl) ?_
              refine stepD_d rfl rfl rfl rfl (does_move rfl rfl) ?_
              refine stepD_d rfl rfl rfl rfl (Does.int (does_add rfl rfl rfl) (wrap_i64 (by omega) (by omega))) ?_
              refine stepD_d rfl rfl rfl rfl (does_indexAddr1 (j := (j + i)) rfl zf80 (by kernel_rfl) rfl rfl (by omega) (by omega)) ?_
              refine stepD_d rfl rfl rfl rfl (does_load_own1 0 rfl (by kernel_rfl) rfl rfl (uN_arr_get (by rw [Nat.zero_add]; exact hwu))) ?_
              refine stepD_d rfl rfl rfl rfl (does_widen32 rfl (by kernel_rfl) (by kernel_rfl) rfl (by omega)) ?_
              refine stepD_d rfl rfl rfl rfl (does_move rfl rfl) ?_
              refine stepD_d rfl rfl rfl rfl (does_move rfl rfl) ?_
              refine stepD_d rfl rfl rfl rfl (does_indexAddr1 rfl zf80 (by kernel_rfl) rfl rfl rfl (by omega)) ?_
              refine stepD_d rfl rfl rfl rfl (does_load_g1 rfl (by kernel_rfl) rfl (hb4.at_ _ _ hx)) ?_
              refine stepD_d rfl rfl rfl rfl (does_widen32 rfl (by kernel_rfl) (by kernel_rfl) rfl (by omega)) ?_
              refine stepD_d rfl rfl rfl rfl (does_add_u64x rfl rfl rfl (by omega)) ?_
              refine stepD_d rfl rfl rfl rfl (does_add_u64x rfl rfl rfl (by omega)) ?_
              refine stepD_d rfl rfl rfl rfl (does_assign rfl rfl) ?_
              refine stepD_tail ?_
              refine zn4 ?_
              refine zM rfl hst rfl ?_
              refine zM rfl hst rfl ?_
              refine zM rfl hst rfl ?_
              refine stepK_d rfl rfl rfl hst (Does.int (does_add rfl rfl rfl) (wrap_i64 (by omega) (by omega))) ?_
              refine zM rfl hst rfl ?_
              refine stepK_d rfl rfl rfl hst (does_conv_n_u32 rfl (by kernel_rfl) (by kernel_rfl) rfl) ?_
              refine stepK_d rfl rfl rfl hst (does_indexAddr1 (j := (j + i)) rfl zf80 (by kernel_rfl) rfl rfl (by omega) (by omega)) ?_
              refine stepK_store 0 rfl rfl rfl rfl rfl rfl zf81 rfl rfl hst rfl (by first | (simp [uN_length]; omega) | simp) ?_
              clear hst
              intro w18 hst
              rw [Nat.zero_add, splice_uN _ _ _ _ (by omega)] at hst
              simp only [List.set_cons_zero] at hst
              refine zn3 ?_
              refine zM rfl hst rfl ?_
              refine stepK_d rfl rfl rfl hst (does_shr32 rfl rfl rfl) ?_
              refine zA rfl hst rfl ?_
              refine wpK_nil ?_
              refine at_block_normal ?_
              refine cp_then ?_
              refine cp_region ?_
              refine zM rfl hst rfl ?_
              refine stepK_d rfl rfl rfl hst (Does.int (does_add rfl rfl rfl) (wrap_i64 (by omega) (by omega))) ?_
              refine zA rfl hst rfl ?_
              refine wpK_nil ?_
              refine round_end ((i + 1, (cy + (u + x)) / 4294967296, ws.set (j + i) ((cy + (u + x)) % 4294967296))) ?_ ?_ ?_
              exact ⟨rfl, rfl, rfl, rfl, rfl, rfl, rfl, rfl, rfl, trivial⟩
              refine ⟨hst, by omega, by omega, hws.set (Nat.mod_lt _ (by decide)), by simp [hwl], ?_, ?_, ?_⟩
              rw [take_set_out (by omega)]; exact hwt
              rw [← Nat.add_assoc, drop_set_out (by omega)]; exact drop_more hwd (by omega)
              rw [h_seg_set (by omega), h_seg_succ hu, h_val_take_succ hx, pow_succ32]
              refine h_put_step hv ?_
              rw [Nat.mod_add_div']
              omega
              show m - (i + 1) < m - i
              omega
              intro c214
              refine cp_exit ?_
              refine at_then_exit ?_
              refine at_then_exit ?_
              refine cp_exit_here ?_
              refine cp_then ?_
              obtain rfl : m = i := by omega
              obtain ⟨u9, hu9⟩ := get_of_lt (ws := us2) (j := j + m) (by omega)
              have hult := hw2.get hu9
              have hwu : ws[j + m]? = some u9 := by rw [get_drop_eq hwd (by omega)]; exact hu9
              rw [h_val_all (ws := vs) (by omega)] at hv
              refine cp_region ?_
              refine zM rfl hst rfl ?_
              refine zM rfl hst rfl ?_
              refine zM rfl hst rfl ?_
              refine stepK_d rfl rfl rfl hst (Does.int (does_add rfl rfl rfl) (wrap_i64 (by omega) (by omega))) ?_
              refine stepK_d rfl rfl rfl hst (does_indexAddr1 (j := (j + m)) rfl zf80 (by kernel_rfl) rfl rfl (by omega) (by omega)) ?_
              refine stepK_d rfl rfl rfl hst (does_load_own1 0 rfl (by kernel_rfl) rfl rfl (uN_arr_get (by rw [Nat.zero_add]; exact hwu))) ?_
              refine zM rfl hst rfl ?_
              refine stepK_d rfl rfl rfl hst (Does.nat (b := cy) (does_conv_n_u32 rfl (by kernel_rfl) (by kernel_rfl) rfl) (by rw [Nat.mod_eq_of_lt (by omega)])) ?_
              refine stepK_d rfl rfl rfl hst (does_add_u32 rfl rfl rfl) ?_
              refine stepK_d rfl rfl rfl hst (does_indexAddr1 (j := (j + m)) rfl zf80 (by kernel_rfl) rfl rfl (by omega) (by omega)) ?_
              refine stepK_store 0 rfl rfl rfl rfl rfl rfl zf81 rfl rfl hst rfl (by first | (simp [uN_length]; omega) | simp) ?_
              clear hst
              intro w19 hst
              rw [Nat.zero_add, splice_uN _ _ _ _ (by omega)] at hst
              simp only [List.set_cons_zero] at hst
              refine wpK_nil ?_
              have hseg : hval (((ws.set (j + m) ((u9 + cy) % 4294967296)).drop j).take (m + 1)) + (u9 + cy) / 4294967296 * 4294967296 ^ (m + 1) = hval ((us2.drop j).take (m + 1)) + hval vs := by
                rw [h_seg_set (by omega), h_seg_succ hu9, pow_succ32]
                have h9 := h_put_step (x := 0) (z := (u9 + cy) % 4294967296) (cn := (u9 + cy) / 4294967296) (u := u9) hv (by rw [Nat.mod_add_div']; omega)
                rw [Nat.mul_zero, Nat.add_zero] at h9
                exact h9
              obtain ⟨hf1, hf2, hf3, hf4⟩ := hk_fix hV hs2 (h_seg_lt hw2) (hQ ▸ hQh) (hQ ▸ hhQ) hseg (h_seg_lt (hws.set (Nat.mod_lt _ (by decide)))) (by omega)
              refine join_end ((h - 1, ws.set (j + m) ((u9 + cy) % 4294967296))) ?_ ?_
              exact ⟨rfl, rfl, rfl, rfl, rfl, rfl, rfl, trivial⟩
              refine ⟨hst, hws.set (Nat.mod_lt _ (by decide)), by simp [hwl], ?_, ?_, by omega, hf1, hf2⟩
              rw [take_set_out (by omega)]; exact hwt.trans ht2
              rw [drop_set_out (by omega)]; exact (drop_more hwd (by omega)).trans hd2
            intro c209
            have hbn9 : bn = 0 := by omega
            rw [hbn9] at hs2
            refine cp_skip ?_
            have h8 := digit_now (q := 0) hV hs2 (hQ ▸ hQh)
            refine join_end ((h, us2)) ?_ ?_
            exact ⟨rfl, rfl, rfl, rfl, rfl, rfl, rfl, trivial⟩
            exact ⟨hst, hw2, hl2, ht2, hd2, hh, h8.1, h8.2⟩
          case d16 =>
            clear hst
            rintro ⟨dg, us3⟩ w6 ⟨hst, hw3, hl3, ht3, hd3, hdg3, hs3, hlt3⟩
            refine cp_region ?_
            refine zM rfl hst rfl ?_
            refine zM rfl hst rfl ?_
            refine zM rfl hst rfl ?_
            refine stepK_d rfl rfl rfl hst (Does.nat (b := dg) (does_conv_n_u32 rfl (by kernel_rfl) (by kernel_rfl) rfl) (by rw [Nat.mod_eq_of_lt (by omega)])) ?_
            refine stepK_d rfl rfl rfl hst (does_indexAddr1 (j := j) rfl zf80 (by kernel_rfl) rfl rfl (by omega) (by omega)) ?_
            refine stepK_store 1 rfl rfl rfl rfl rfl rfl zf81 rfl rfl hst rfl (by first | (simp [uN_length]; omega) | simp) ?_
            clear hst
            intro w20 hst
            rw [Nat.zero_add, splice_uN _ _ _ _ (by omega)] at hst
            simp only [List.set_cons_zero, List.set_cons_succ] at hst
            refine wpK_nil ?_
            refine at_block_normal ?_
            refine cp_then ?_
            refine cp_region ?_
            refine zM rfl hst rfl ?_
            refine stepK_d rfl rfl rfl hst (Does.int (does_sub rfl rfl rfl) (wrap_i64 (by omega) (by omega))) ?_
            refine zA rfl hst rfl ?_
            refine wpK_nil ?_
            obtain ⟨hr1, hr2⟩ := h_divide_round (by omega) hl3 ht3 hd3 hz3 (by omega) hs3 hlt3 hA
            refine round_end ((j, us3, qs.set j dg)) ?_ ?_ ?_
            exact ⟨rfl, rfl, rfl, rfl, rfl, kint (by omega), trivial⟩
            exact ⟨_, hst, hvs, by omega, hw3, by omega, hqs.set hdg3, by simp [hql], hr1, hr2⟩
            show j < j + 1
            omega
      intro c79
      refine cp_exit ?_
      refine at_then_exit ?_
      refine at_then_exit ?_
      refine cp_exit_here ?_
      refine cp_then ?_
      refine cp_seq ?_
      obtain rfl : k = 0 := by omega
      simp only [List.drop_zero, Nat.pow_zero, Nat.one_mul] at hlt hA
      have husm : hval us < 4294967296 ^ m := Nat.lt_trans hlt hvl
      have htm : hval (us.take m) = hval us := by
        have h9 := h_rest_zero (us := us) (j := 0) (m := m) hus (by simpa using husm) (by omega)
        simpa using h9.2
      rw [hvv] at hlt hA
      have hde := divide_end (Nat.pow_pos (by decide)) hM hA hlt
      refine cp_region ?_
      refine zM rfl hst rfl ?_
      refine zM rfl hst rfl ?_
      refine stepK_d rfl rfl rfl hst (does_slice_to rfl zf80 zf81 rfl rfl rfl (by omega)) ?_
      refine stepK_callM 0 rfl rfl rfl rfl rfl hst rfl (snum_trimM (ws := us) hst.agree (hst.owns _ (List.mem_cons_self ..)).1 (hst.owns _ (List.mem_cons_self ..)).2.1 (by omega) (by omega) (by omega)) ?_
      clear hst
      intro v21 g21 o21 w21 hst hle21 hp21
      simp only [List.cons_append, List.nil_append, List.set_cons_zero, List.set_cons_succ] at hst
      replace hvs := hvs.mono hle21
      obtain ⟨m2, cm2, rfl, rfl, hm2, hmc2, hl2, hv2⟩ := hp21
      rw [htm] at hv2
      refine zA rfl hst rfl ?_
      refine znq ?_
      refine zsr ?_
      refine zA rfl hst rfl ?_
      refine znt ?_
      refine cp_block ?_
      refine cp_loop (ι := Nat × List Nat) (fun (i, ws) => [(8, .int .u64 (s : Int)), (13, .slice (some ⟨bq, 0, none⟩) (n - m + 1) (n - m + 1)), (25, .slice (some ⟨bu, 0, none⟩) m2 cm2), (26, .int .i64 (i : Int))]) (fun (i, ws) w5 => ∃ g9, St w [] g g9 [(bu, .cells (uN .u32 ws).toArray 121 (0, 0)), (bq, .cells (uN .u32 qs).toArray 121 (0, 0))] w5 ∧ i ≤ m2 ∧ HWords ws ∧ ws.length = us.length ∧ ws.drop i = us.drop i ∧ hval (ws.take i) = (hval (us.take m2) / 2 ^ s) % 4294967296 ^ i) (fun (i, ws) => m2 - i) (0, us) ?k22 ?i22 ?r22
      case k22 => exact ⟨rfl, rfl, rfl, rfl, trivial⟩
      case i22 =>
        exact ⟨_, hst, Nat.zero_le _, hus, rfl, rfl, by simp [hval, Nat.mod_one]⟩
      case r22 =>
        clear hst
        rintro ⟨i, ws⟩ w5 ⟨g9, hst, hi, hws, hwl, hwd, hv⟩
        refine cp_seq ?_
        refine zsr ?_
        refine zM rfl hst rfl ?_
        refine zM rfl hst rfl ?_
        refine stepK_d rfl rfl rfl hst (does_len_slice rfl zf80 rfl) ?_
        refine stepK_d rfl rfl rfl hst (does_lss rfl rfl rfl) ?_
        refine znt ?_
        refine cp_if rfl ?_ ?_
        intro c263
        refine cp_skip ?_
        refine cp_then ?_
        refine cp_seq ?_
        refine cp_block ?_
        refine cp_seq ?_
        obtain ⟨x, hx⟩ := get_of_lt (ws := us) (j := i) (by omega)
        have hxlt := hus.get hx
        have hwx : ws[i]? = some x := by rw [get_drop_eq hwd (by omega)]; exact hx
        have hx9 : (us.take m2)[i]? = some x := by rw [List.getElem?_take, if_pos (by omega)]; exact hx
        have hx2 : x / 2 ^ s < 4294967296 := Nat.lt_of_le_of_lt (Nat.div_le_self _ _) hxlt
        have hkd : hval (us.take m2) / 2 ^ s / 4294967296 ^ i = hval ((us.take m2).drop i) / 2 ^ s := by rw [Nat.div_div_eq_div_mul, Nat.mul_comm, ← Nat.div_div_eq_div_mul, h_val_div_pow (hus.take m2) (by rw [List.length_take]; omega)]
        refine cp_region ?_
        refine zM rfl hst rfl ?_
        refine zM rfl hst rfl ?_
        refine zM rfl hst rfl ?_
        refine zM rfl hst rfl ?_
        refine stepK_d rfl rfl rfl hst (does_indexAddr1 rfl zf80 (by kernel_rfl) rfl rfl rfl (by omega)) ?_
        refine stepK_d rfl rfl rfl hst (does_load_own1 0 rfl (by kernel_rfl) rfl rfl (uN_arr_get (by rw [Nat.zero_add]; exact hwx))) ?_
        refine zM rfl hst rfl ?_
        refine stepK_d rfl rfl rfl hst (Does.nat (b := x / 2 ^ s) (does_shr_u32 rfl rfl rfl) (by rw [Nat.min_eq_left (by omega)])) ?_
        refine stepK_d rfl rfl rfl hst (does_indexAddr1 rfl zf80 (by kernel_rfl) rfl rfl rfl (by omega)) ?_
        refine stepK_store 0 rfl rfl rfl rfl rfl rfl zf81 rfl rfl hst rfl (by first | (simp [uN_length]; omega) | simp) ?_
        clear hst
        intro w23 hst
        rw [Nat.zero_add, splice_uN _ _ _ _ (by omega)] at hst
        simp only [List.set_cons_zero] at hst
        refine zn4 ?_
        refine zM rfl hst rfl ?_
        refine stepK_d rfl rfl rfl hst (Does.int (does_add rfl rfl rfl) (wrap_i64 (by omega) (by omega))) ?_
        refine zM rfl hst rfl ?_
        refine stepK_d rfl rfl rfl hst (does_len_slice rfl zf80 rfl) ?_
        refine stepK_d rfl rfl rfl hst (does_lss rfl rfl rfl) ?_
        refine znt ?_
        refine cp_if rfl ?_ ?_
        intro c279
        obtain ⟨y9, hyy⟩ := get_of_lt (ws := us) (j := i + 1) (by omega)
        have hylt9 := hus.get hyy
        have hy9 : (us.take m2)[i + 1]? = some y9 := by rw [List.getElem?_take, if_pos (by omega)]; exact hyy
        have hwy : (ws.set i (x / 2 ^ s))[i + 1]? = some y9 := by rw [List.getElem?_set_ne (by omega), get_drop_eq hwd (by omega)]; exact hyy
        have hlo : x / 2 ^ s < 2 ^ (32 - s) := (Nat.div_lt_iff_lt_mul (Nat.pow_pos (by decide))).2 (by rw [Nat.mul_comm, pow32 s (by omega)]; exact hxlt)
        have hyp : y9 * 2 ^ (32 - s) % 4294967296 = y9 % 2 ^ s * 2 ^ (32 - s) := by
          have h9 := h_shl_lo (x := y9) (s := 32 - s) (by omega)
          rw [show 32 - (32 - s) = s by omega] at h9
          exact h9
        have hor : x / 2 ^ s ||| y9 * 2 ^ (32 - s) % 4294967296 = x / 2 ^ s + y9 * 2 ^ (32 - s) % 4294967296 := by rw [hyp, or_low hlo]
        have hnew : x / 2 ^ s + y9 * 2 ^ (32 - s) % 4294967296 < 4294967296 := by
          rw [hyp]
          have h1 : y9 % 2 ^ s * 2 ^ (32 - s) + 2 ^ (32 - s) ≤ 4294967296 := by
            rw [← Nat.succ_mul, ← pow32 s (by omega)]
            exact Nat.mul_le_mul_right _ (Nat.mod_lt _ (Nat.pow_pos (by decide)))
          omega
        have hps : (2 : Nat) ^ (32 - s) ≤ 2 ^ 32 := Nat.pow_le_pow_right (by decide) (by omega)
        have hyb : y9 * 2 ^ (32 - s) < 18446744073709551616 := by
          have h1 := Nat.mul_le_mul_left y9 hps
          omega
        refine cp_drawn (by kernel_rfl) 16 [(0, true), (1, true), (2, true), (3, true), (4, true), (5, true), (6, true), (7, true), (8, true), (9, true), (10, true), (11, true), (12, true), (13, true), (14, true), (15, true)] _ rfl (by kernel_rfl) (by kernel_rfl) (by kernel_rfl) (fun _ _ _ _ _ h => h) _ (hst.drew) ?_
        have hst0 := hst.drew
        clear hst
        have hst := hst0
        refine stepD_d rfl rfl rfl rfl (does_move rfl rfl) ?_
        refine stepD_d rfl rfl rfl rfl (does_move rfl rfl) ?_
        refine stepD_d rfl rfl rfl rfl (does_indexAddr1 rfl zf80 (by kernel_rfl) rfl rfl rfl (by omega)) ?_
        refine stepD_d rfl rfl rfl rfl (does_load_own1 0 rfl (by kernel_rfl) rfl rfl (uN_arr_get (by rw [Nat.zero_add, List.getElem?_set_self (by omega)]))) ?_
        refine stepD_d rfl rfl rfl rfl (does_move rfl rfl) ?_
        refine stepD_d rfl rfl rfl rfl (does_move rfl rfl) ?_
        refine stepD_d rfl rfl rfl rfl (Does.int (does_add rfl rfl rfl) (wrap_i64 (by omega) (by omega))) ?_
        refine stepD_d rfl rfl rfl rfl (does_indexAddr1 (j := (i + 1)) rfl zf80 (by kernel_rfl) rfl rfl (by omega) (by omega)) ?_
        refine stepD_d rfl rfl rfl rfl (does_load_own1 0 rfl (by kernel_rfl) rfl rfl (uN_arr_get (by rw [Nat.zero_add]; exact hwy))) ?_
        refine stepD_d rfl rfl rfl rfl (does_widen32 rfl (by kernel_rfl) (by kernel_rfl) rfl (by omega)) ?_
        refine stepD_d rfl rfl rfl rfl (does_move rfl rfl) ?_
        refine stepD_d rfl rfl rfl rfl (Does.nat (b := 32 - s) (does_sub_u64 (a := 32) rfl rfl rfl) (by omega)) ?_
        refine stepD_d rfl rfl rfl rfl (does_shl_u64x rfl rfl rfl (by omega) hyb) ?_
        refine stepD_d rfl rfl rfl rfl (does_conv_n_u32 rfl (by kernel_rfl) (by kernel_rfl) rfl) ?_
        refine stepD_d rfl rfl rfl rfl (Does.nat (b := x / 2 ^ s + y9 * 2 ^ (32 - s) % 4294967296) (does_or_u32 rfl rfl rfl hx2 (Nat.mod_lt _ (by decide))) (by rw [hor])) ?_
        refine stepD_d rfl rfl rfl rfl (does_indexAddr1 rfl zf80 (by kernel_rfl) rfl rfl rfl (by omega)) ?_
        refine stepD_tail ?_
        refine stepK_store 0 rfl rfl rfl rfl rfl rfl zf81 rfl rfl hst rfl (by first | (simp [uN_length]; omega) | simp) ?_
        clear hst
        intro w24 hst
        rw [Nat.zero_add, splice_uN _ _ _ _ (by simp; omega)] at hst
        simp only [List.set_cons_zero] at hst
        refine wpK_nil ?_
        refine at_block_normal ?_
        refine cp_then ?_
        refine cp_region ?_
        refine zM rfl hst rfl ?_
        refine stepK_d rfl rfl rfl hst (Does.int (does_add rfl rfl rfl) (wrap_i64 (by omega) (by omega))) ?_
        refine zA rfl hst rfl ?_
        refine wpK_nil ?_
        refine round_end ((i + 1, (ws.set i (x / 2 ^ s)).set i (x / 2 ^ s + y9 * 2 ^ (32 - s) % 4294967296))) ?_ ?_ ?_
        exact ⟨rfl, rfl, rfl, rfl, trivial⟩
        refine ⟨_, hst, by omega, (hws.set hx2).set hnew, by simp [hwl], ?_, ?_⟩
        rw [drop_set_out (by omega), drop_set_out (by omega)]; exact drop_more hwd (by omega)
        rw [h_val_take_set (by simp; omega), take_set_le, hv, h_mod_pow_step, hkd, h_val_drop_get hx9, h_val_drop_get hy9, h_right_word (by omega) hxlt]
        show m2 - (i + 1) < m2 - i
        omega
        intro c279
        refine cp_skip ?_
        refine at_block_normal ?_
        refine cp_then ?_
        refine cp_region ?_
        refine zM rfl hst rfl ?_
        refine stepK_d rfl rfl rfl hst (Does.int (does_add rfl rfl rfl) (wrap_i64 (by omega) (by omega))) ?_
        refine zA rfl hst rfl ?_
        refine wpK_nil ?_
        refine round_end ((i + 1, ws.set i (x / 2 ^ s))) ?_ ?_ ?_
        exact ⟨rfl, rfl, rfl, rfl, trivial⟩
        refine ⟨_, hst, by omega, hws.set hx2, by simp [hwl], ?_, ?_⟩
        rw [drop_set_out (by omega)]; exact drop_more hwd (by omega)
        rw [h_val_take_set (by omega), hv, h_mod_pow_step, hkd, h_val_drop_get hx9, List.drop_eq_nil_of_le (by rw [List.length_take]; omega)]
        simp only [hval, Nat.mul_zero, Nat.add_zero]
        rw [Nat.mod_eq_of_lt hx2]
        show m2 - (i + 1) < m2 - i
        omega
        intro c263
        refine cp_exit ?_
        refine at_then_exit ?_
        refine at_then_exit ?_
        refine cp_exit_here ?_
        refine cp_then ?_
        refine cp_seq ?_
        obtain rfl : m2 = i := by omega
        have hfin : hval (ws.take m2) = N % M := by
          rw [hv, hv2, hde.2, Nat.mod_eq_of_lt]
          rw [← hde.2, ← hv2]
          have h9 := h_val_lt (hus.take m2)
          rw [List.length_take, Nat.min_eq_left (by omega)] at h9
          exact Nat.lt_of_le_of_lt (Nat.div_le_self _ _) h9
        obtain ⟨hst, hleq⟩ := hst.publish 1 rfl
        obtain ⟨hst, hleu⟩ := hst.publish 0 rfl
        have hsu := (SlN.put_uN (g := gput g9 bq (.cells (uN .u32 qs).toArray 121 (0, 0))) (k := .u32) (b := bu) (ws := ws) (t := 121) (f := (0, 0))).take (m := m2) (by omega)
        have hsq := (SlN.put_uN (g := g9) (k := .u32) (b := bq) (ws := qs) (t := 121) (f := (0, 0))).mono hleu
        rw [hql] at hsq
        refine cp_region ?_
        refine zM rfl hst rfl ?_
        refine stepK_call rfl rfl rfl rfl rfl hst (snum_trim hst.agree hsq hqs (Nat.le_refl _) (by omega)) ?_
        clear hst
        intro v25 g25 w25 hst hle25 hcs25 hp25
        replace hsu := hsu.mono hle25
        obtain ⟨Q, qn, qc, rfl, hQ⟩ := hp25
        refine zM rfl hst rfl ?_
        refine stepK_call rfl rfl rfl rfl rfl hst (snum_trim hst.agree hsu (hws.take m2) (by omega) (by omega)) ?_
        clear hst
        intro v26 g26 w26 hst hle26 hcs26 hp26
        replace hsu := hsu.mono hle26
        replace hQ := hQ.mono hle26
        obtain ⟨R, rn, rc, rfl, hR⟩ := hp26
        refine zA rfl hst rfl ?_
        refine zA rfl hst rfl ?_
        refine znt ?_
        refine cp_ret ?_
        refine ret2 rfl rfl rfl hst ?_
        refine ⟨_, _, _, _, _, _, rfl, ?_, ?_⟩
        rw [← hde.1]; exact hQ
        rw [← hfin]; exact hR

end Go.Proofs.YtcjhnkmoloiepaaGreatDoor
