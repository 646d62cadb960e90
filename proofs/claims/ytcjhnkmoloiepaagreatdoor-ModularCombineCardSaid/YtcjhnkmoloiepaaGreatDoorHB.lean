/- The walks of functions, printed by a program of this session out of its specs. -/
import Derived.Test.YtcjhnkmoloiepaaGreatDoorH5
import Derived.Test.YtcjhnkmoloiepaaGreatDoorH3
import Derived.Test.YtcjhnkmoloiepaaGreatDoorH1
import Derived.Test.YtcjhnkmoloiepaaGreatDoorF8
import Derived.Test.YtcjhnkmoloiepaaGreatDoorFA
import Derived.Test.YtcjhnkmoloiepaaGreatDoorP2
import Derived.Test.YtcjhnkmoloiepaaGreatDoorQ3
import Derived.Test.YtcjhnkmoloiepaaGreatDoorKX
import Derived.Test.YtcjhnkmoloiepaaGreatDoorProg
import Derived.Test.YtcjhnkmoloiepaaGreatDoorF0
namespace Go.Proofs.YtcjhnkmoloiepaaGreatDoor
open Go Go.RowKit Go.Proofs.Vc
set_option linter.unusedVariables false
set_option linter.unusedSimpArgs false

set_option maxHeartbeats 8000000 in
theorem rmod_Combine {g : Mem} {w : World} (hag : Agree g w) {A B : Option Addr} {n m c d : Nat} {rs ps : List Int} (hr : IntL g A n rs) (hp : IntL g B m ps) (hn : n ≤ 1000000) (hm : m ≤ 1000000) :
    CallTo Tryz.prog 24 #[.slice A n c, .slice B m d] w (Ret w g fun v g => v = .tuple #[.string (combR rs ps).1, .string (combR rs ps).2.1, .int .i64 (combR rs ps).2.2]) := by
  refine CallTo.enter (vs := [.slice A n c, .slice B m d]) (by kernel_rfl : Tryz.prog.funcs[24]? = some Tryz.f24) (by kernel_rfl) rfl rfl rfl ?_
  have hst := St.init hag
  have hl1 := hr.1
  have hl2 := hp.1
  refine zsr ?_
  refine zA rfl hst rfl ?_
  refine zA rfl hst rfl ?_
  refine zA rfl hst rfl ?_
  refine znq ?_
  refine cp_block ?_
  refine zsr ?_
  refine zM rfl hst rfl ?_
  refine stepK_d rfl rfl rfl hst (does_len_slice rfl zf142 rfl) ?_
  refine zM rfl hst rfl ?_
  refine stepK_d rfl rfl rfl hst (does_len_slice rfl zf142 rfl) ?_
  refine stepK_d rfl rfl rfl hst (does_neq rfl rfl rfl) ?_
  refine zA rfl hst rfl ?_
  refine znt ?_
  refine cp_if rfl ?_ ?_
  intro c15
  refine zsr ?_
  refine zA rfl hst rfl ?_
  refine zA rfl hst rfl ?_
  refine zA rfl hst rfl ?_
  refine znt ?_
  refine cp_ret ?_
  refine at_block_ret ?_
  refine at_then_ret ?_
  refine ret3 rfl rfl rfl rfl hst ?_
  rw [combR_shape (by omega)]
  intro c15
  refine zsr ?_
  refine zM rfl hst rfl ?_
  refine stepK_d rfl rfl rfl hst (does_len_slice rfl zf142 rfl) ?_
  refine stepK_d rfl rfl rfl hst (does_gtr rfl rfl rfl) ?_
  refine zA rfl hst rfl ?_
  refine znt ?_
  refine cp_if rfl ?_ ?_
  intro c21
  refine zsr ?_
  refine zA rfl hst rfl ?_
  refine zA rfl hst rfl ?_
  refine zA rfl hst rfl ?_
  refine znt ?_
  refine cp_ret ?_
  refine at_block_ret ?_
  refine at_then_ret ?_
  refine ret3 rfl rfl rfl rfl hst ?_
  rw [combR_limit (by omega) (by omega)]
  intro c21
  refine cp_skip ?_
  refine at_block_normal ?_
  refine cp_then ?_
  refine cp_seq ?_
  refine zsr ?_
  refine zA rfl hst rfl ?_
  refine znt ?_
  refine cp_block ?_
  refine cp_loop (ι := Nat) (fun i => [(0, .slice A n c), (1, .slice B m d), (7, .int .i64 (i : Int))]) (fun i w1 => ∃ g1, St w [] g g1 [] w1 ∧ IntL g1 A n rs ∧ IntL g1 B m ps ∧ i ≤ m ∧ ∀ p ∈ ps.take i, Prm p) (fun i => m - i) 0 ?k1 ?i1 ?r1
  case k1 => exact ⟨rfl, rfl, rfl, trivial⟩
  case i1 =>
    exact ⟨_, hst, hr, hp, Nat.zero_le _, by simp⟩
  case r1 =>
    clear hst
    clear hr hp
    rintro i w1 ⟨g1, hst, hr, hp, hi, hpr⟩
    refine cp_seq ?_
    refine zsr ?_
    refine zM rfl hst rfl ?_
    refine zM rfl hst rfl ?_
    refine stepK_d rfl rfl rfl hst (does_len_slice rfl zf142 rfl) ?_
    refine stepK_d rfl rfl rfl hst (does_lss rfl rfl rfl) ?_
    refine znt ?_
    refine cp_if rfl ?_ ?_
    intro c28
    refine cp_skip ?_
    refine cp_then ?_
    refine cp_seq ?_
    refine cp_block ?_
    refine cp_seq ?_
    obtain ⟨b1, o1, z, e1, hz, hzm, hzi, hzd, hc1⟩ := hp.cell (j := i) (by omega)
    subst e1
    refine cp_region ?_
    refine zM rfl hst rfl ?_
    refine zM rfl hst rfl ?_
    refine stepK_d rfl rfl rfl hst (does_indexAddr1 (j := i) rfl zf142 (by kernel_rfl) rfl rfl (by omega) (by omega)) ?_
    refine stepK_d rfl rfl rfl hst (does_load_g1 rfl (by kernel_rfl) rfl hc1) ?_
    refine stepK_call rfl rfl rfl rfl rfl hst (rmod_IsPrime hst.agree hzi.1 hzi.2) ?_
    clear hst
    intro v2 g2 w2 hst hle2 hcs2 hp2
    replace hr := hr.mono hle2
    replace hp := hp.mono hle2
    obtain rfl := hp2
    refine stepK_d rfl rfl rfl hst (does_not rfl rfl) ?_
    refine znt ?_
    refine cp_cond rfl ?_ ?_
    intro c36
    refine zsr ?_
    refine zA rfl hst rfl ?_
    refine zA rfl hst rfl ?_
    refine zA rfl hst rfl ?_
    refine znt ?_
    refine cp_ret ?_
    refine at_block_ret ?_
    refine at_then_ret ?_
    refine at_then_ret ?_
    refine at_block_ret ?_
    refine at_then_ret ?_
    refine ret3 rfl rfl rfl rfl hst ?_
    rw [combR_bad (by omega) (by omega) hzm (not_prm c36)]
    intro c36
    refine cp_skip ?_
    refine at_block_normal ?_
    refine cp_then ?_
    refine cp_region ?_
    refine zM rfl hst rfl ?_
    refine stepK_d rfl rfl rfl hst (Does.int (does_add rfl rfl rfl) (wrap_i64 (by omega) (by omega))) ?_
    refine zA rfl hst rfl ?_
    refine wpK_nil ?_
    refine round_end (i + 1) ?_ ?_ ?_
    exact ⟨rfl, rfl, rfl, trivial⟩
    exact ⟨_, hst, hr, hp, by omega, fun p h9 => by
      rw [List.take_add_one, hz, List.mem_append] at h9
      rcases h9 with h9 | h9
      exact hpr p h9
      have : p = z := by simpa using h9
      rw [this]
      exact is_prm c36⟩
    show m - (i + 1) < m - i
    omega
    intro c28
    refine cp_exit ?_
    refine at_then_exit ?_
    refine at_then_exit ?_
    refine cp_exit_here ?_
    refine cp_then ?_
    refine cp_seq ?_
    obtain rfl : m = i := by omega
    have hall : ∀ p ∈ ps, Prm p := fun p h => hpr p (by rw [List.take_of_length_le (by omega)]; exact h)
    refine cp_region ?_
    refine stepK_d rfl rfl rfl hst (does_build rfl zf92 rfl rfl) ?_
    refine stepK_call rfl rfl rfl rfl rfl hst (snum_FromInt hst.agree (x := 1) (by decide) (by decide)) ?_
    clear hst
    intro v3 g3 w3 hst hle3 hcs3 hp3
    replace hr := hr.mono hle3
    replace hp := hp.mono hle3
    obtain ⟨n9, A9, l9, c9, rfl, h9⟩ := hp3
    refine stepK_alloc rfl rfl rfl rfl zf91 rfl hst ?_
    clear hst
    intro b8 w4 hst
    refine stepK_alloc rfl rfl rfl rfl zf91 rfl hst ?_
    clear hst
    intro b9 w5 hst
    refine stepK_store 0 rfl rfl rfl rfl rfl rfl zf93 rfl rfl hst rfl (by first | (simp [uN_length]; omega) | simp) ?_
    clear hst
    intro w6 hst
    simp only [zL, splice, Nat.reduceAdd] at hst
    refine stepK_store 1 rfl rfl rfl rfl rfl rfl zf93 rfl rfl hst rfl (by first | (simp [uN_length]; omega) | simp) ?_
    clear hst
    intro w7 hst
    simp only [zL, splice, Nat.reduceAdd] at hst
    refine znq ?_
    refine zsr ?_
    refine zA rfl hst rfl ?_
    refine znt ?_
    refine cp_block ?_
    refine cp_loop (ι := Nat × (Bool × Option Addr × Nat × Nat) × (Bool × Option Addr × Nat × Nat)) (fun (i, (n8, A8, l8, c8), (n9, A9, l9, c9)) => [(0, .slice A n c), (1, .slice B m d), (8, .pointer (some ⟨b8, 0, none⟩)), (9, .pointer (some ⟨b9, 0, none⟩)), (10, .int .i64 (i : Int))]) (fun (i, (n8, A8, l8, c8), (n9, A9, l9, c9)) w1 => ∃ g1, St w [] g g1 [(b8, .cells #[.bool n8, .slice A8 l8 c8] 31 (0, 0)), (b9, .cells #[.bool n9, .slice A9 l9 c9] 31 (0, 0))] w1 ∧ IntL g1 A n rs ∧ IntL g1 B m ps ∧ IsZ g1 n8 A8 l8 ((cbRun rs ps i).v) ∧ IsZ g1 n9 A9 l9 ((cbRun rs ps i).m) ∧ i ≤ m ∧ (ps.take i).Nodup) (fun (i, (n8, A8, l8, c8), (n9, A9, l9, c9)) => m - i) (0, (false, none, 0, 0), (n9, A9, l9, c9)) ?k8 ?i8 ?r8
    case k8 => exact ⟨rfl, rfl, rfl, rfl, rfl, trivial⟩
    case i8 =>
      exact ⟨_, hst, hr, hp, IsZ.zero _, h9, Nat.zero_le _, by simp⟩
    case r8 =>
      clear hst
      clear hr hp h9
      rintro ⟨i, ⟨n8, A8, l8, c8⟩, ⟨n9, A9, l9, c9⟩⟩ w1 ⟨g1, hst, hr, hp, h8, h9, hi, hnd⟩
      have hok := cbRun_ok (rs := rs) hall i (by omega)
      obtain ⟨sv, sm⟩ := hok.sz
      have sv := sv.mono (m := 700) (by omega)
      have sm := sm.mono (m := 700) (by omega)
      have l8b := h8.len (k := 1099511627776) (by have := (sv.fitH (by decide)).1; rwa [Rat.num_intCast] at this)
      have l9b := h9.len (k := 1099511627776) (by have := (sm.fitH (by decide)).1; rwa [Rat.num_intCast] at this)
      refine cp_seq ?_
      refine zsr ?_
      refine zM rfl hst rfl ?_
      refine zM rfl hst rfl ?_
      refine stepK_d rfl rfl rfl hst (does_len_slice rfl zf142 rfl) ?_
      refine stepK_d rfl rfl rfl hst (does_lss rfl rfl rfl) ?_
      refine znt ?_
      refine cp_if rfl ?_ ?_
      intro c42
      refine cp_skip ?_
      refine cp_then ?_
      refine cp_seq ?_
      refine cp_block ?_
      refine cp_seq ?_
      obtain ⟨b1, o1, z, e1, hz, hzm, hzi, hzd, hc1⟩ := hp.cell (j := i) (by omega)
      subst e1
      have hzp := hall z hzm
      have hz0 := hzp.1
      have hz1 := hzp.2.1
      refine cp_region ?_
      refine zM rfl hst rfl ?_
      refine zM rfl hst rfl ?_
      refine stepK_d rfl rfl rfl hst (does_indexAddr1 (j := i) rfl zf142 (by kernel_rfl) rfl rfl (by omega) (by omega)) ?_
      refine stepK_d rfl rfl rfl hst (does_load_g1 rfl (by kernel_rfl) rfl hc1) ?_
      refine zA rfl hst rfl ?_
      refine zn4 ?_
      refine stepK_d rfl rfl rfl hst (does_load_ownN 1 rfl (by kernel_rfl) zf93 rfl rfl rfl) ?_
      refine zM rfl hst rfl ?_
      refine stepK_call rfl rfl rfl rfl rfl hst (rmod_residue hst.agree h9 (by omega) (by omega) (by omega)) ?_
      clear hst
      intro v9 g9 w9 hst hle9 hcs9 hp9
      replace hr := hr.mono hle9
      replace hp := hp.mono hle9
      replace h8 := h8.mono hle9
      replace h9 := h9.mono hle9
      obtain rfl := hp9
      refine zM rfl hst rfl ?_
      have hb3 := Int.emod_nonneg (cbRun rs ps i).m (show z ≠ 0 by omega)
      have hb4 := Int.emod_lt_of_pos (cbRun rs ps i).m (show 0 < z by omega)
      refine stepK_call rfl rfl rfl rfl rfl hst (rmod_Inverse (a := (cbRun rs ps i).m % z) hst.agree (by omega) (by omega) hzi.1 hzi.2) ?_
      clear hst
      intro v10 g10 w10 hst hle10 hcs10 hp10
      replace hr := hr.mono hle10
      replace hp := hp.mono hle10
      replace h8 := h8.mono hle10
      replace h9 := h9.mono hle10
      obtain rfl := hp10
      rw [Int.emod_emod, invM_mod]
      refine zM rfl hst rfl ?_
      refine zE rfl hst rfl rfl ?_
      refine zE rfl hst rfl rfl ?_
      refine zA rfl hst rfl ?_
      refine zA rfl hst rfl ?_
      refine znq ?_
      refine zsr ?_
      refine zM rfl hst rfl ?_
      refine stepK_d rfl rfl rfl hst (does_not rfl rfl) ?_
      refine znt ?_
      refine cp_cond rfl ?_ ?_
      intro c58
      have hdup : ¬ ps.Nodup := not_nodup hz ((cbRun_dvd hall hzp i (by omega)).1 (Decidable.byContradiction fun h => by rw [decide_eq_true (show Prm z ∧ ¬ (cbRun rs ps i).m % z = 0 from ⟨hzp, h⟩)] at c58; cases c58))
      refine zsr ?_
      refine zA rfl hst rfl ?_
      refine zA rfl hst rfl ?_
      refine zA rfl hst rfl ?_
      refine zn5 ?_
      refine at_block_ret ?_
      refine at_then_ret ?_
      refine at_then_ret ?_
      refine at_block_ret ?_
      refine at_then_ret ?_
      refine ret3 rfl rfl rfl rfl hst ?_
      rw [combR_dup (by omega) (by omega) hall hdup]
      intro c58
      have hdv : Prm z ∧ ¬ (cbRun rs ps i).m % z = 0 := of_decide_eq_true (by simpa using c58)
      rw [if_pos hdv]
      obtain ⟨hi1, hi2⟩ := invM_bound (a := (cbRun rs ps i).m) (p := z) (by omega)
      obtain ⟨b3, o3, r, e3, hr3, hrm, hri, hrd, hc3⟩ := hr.cell (j := i) (by omega)
      subst e3
      have hb1 := Int.emod_nonneg (cbRun rs ps i).v (show z ≠ 0 by omega)
      have hb2 := Int.emod_lt_of_pos (cbRun rs ps i).v (show 0 < z by omega)
      have hb5 := Int.emod_nonneg r (show z ≠ 0 by omega)
      have hb6 := Int.emod_lt_of_pos r (show 0 < z by omega)
      have hb7 := Int.emod_nonneg (r % z - (cbRun rs ps i).v % z) (show z ≠ 0 by omega)
      have hb8 := Int.emod_lt_of_pos (r % z - (cbRun rs ps i).v % z) (show 0 < z by omega)
      obtain ⟨hm1, hm2⟩ := mul31I hb7 (show (r % z - (cbRun rs ps i).v % z) % z < 2147483648 by omega) hi1 (by omega)
      obtain ⟨kb1, kb2⟩ := Cb.k_bound (s := (cbRun rs ps i)) (r := r) (p := z) (by omega)
      have hstp : cbRun rs ps (i + 1) = (cbRun rs ps i).step r z := by show (cbRun rs ps i).step (rs.getD i 0) (ps.getD i 0) = _; rw [hrd, hzd]
      refine cp_skip ?_
      refine cp_then ?_
      refine cp_seq ?_
      refine cp_drawn (by kernel_rfl) 17 [(0, true), (1, true), (2, true), (3, true), (4, true), (6, true), (7, true), (10, true), (12, true), (14, true), (5, false), (8, false), (9, true), (11, false), (13, true), (15, true), (16, true)] _ rfl (by kernel_rfl) (by kernel_rfl) (by kernel_rfl) (fun _ _ _ _ _ h => h) _ (hst.drew) ?_
      have hst0 := hst.drew
      clear hst
      have hst := hst0
      refine stepD_d rfl rfl rfl rfl (does_move rfl rfl) ?_
      refine stepD_d rfl rfl rfl rfl (does_move rfl rfl) ?_
      refine stepD_d rfl rfl rfl rfl (does_indexAddr1 (j := i) rfl zf142 (by kernel_rfl) rfl rfl (by omega) (by omega)) ?_
      refine stepD_d rfl rfl rfl rfl (does_load_g1 rfl (by kernel_rfl) rfl (gcell_le (by first | assumption | exact Mem.le.refl _) hc3)) ?_
      refine stepD_d rfl rfl rfl rfl (does_move rfl rfl) ?_
      refine stepD_d rfl rfl rfl rfl (does_load_ownN 0 rfl (by kernel_rfl) zf93 rfl rfl rfl) ?_
      refine stepD_d rfl rfl rfl rfl (does_move rfl rfl) ?_
      refine stepD_d rfl rfl rfl rfl (does_move rfl rfl) ?_
      refine stepD_d rfl rfl rfl rfl (does_move rfl rfl) ?_
      refine stepD_d rfl rfl rfl rfl (does_move rfl rfl) ?_
      refine stepD_call rfl rfl rfl rfl rfl rfl hst (rmod_Mod hst.agree hri.1 hri.2 (by omega) (by omega)) (fun _ _ h hle => St.older h hle (by simp) hst0.ext hst0.le) ?_
      clear hst
      intro v11 g11 w11 hst hle11 hcs11 hp11
      have hlesum := hle11
      replace hr := hr.mono hle11
      replace hp := hp.mono hle11
      replace h8 := h8.mono hle11
      replace h9 := h9.mono hle11
      obtain rfl := hp11
      refine stepD_call rfl rfl rfl rfl rfl rfl hst (rmod_residue hst.agree h8 (by omega) (by omega) (by omega)) (fun _ _ h hle => St.older h (Mem.le.trans hlesum hle) (by simp) hst0.ext hst0.le) ?_
      clear hst
      intro v12 g12 w12 hst hle12 hcs12 hp12
      replace hlesum := Mem.le.trans hlesum hle12
      replace hr := hr.mono hle12
      replace hp := hp.mono hle12
      replace h8 := h8.mono hle12
      replace h9 := h9.mono hle12
      obtain rfl := hp12
      refine stepD_d rfl rfl rfl rfl (Does.int (does_sub rfl rfl rfl) (wrap_i64 (by omega) (by omega))) ?_
      refine stepD_call rfl rfl rfl rfl rfl rfl hst (rmod_Mod (a := r % z - (cbRun rs ps i).v % z) hst.agree (by omega) (by omega) (by omega) (by omega)) (fun _ _ h hle => St.older h (Mem.le.trans hlesum hle) (by simp) hst0.ext hst0.le) ?_
      clear hst
      intro v13 g13 w13 hst hle13 hcs13 hp13
      replace hlesum := Mem.le.trans hlesum hle13
      replace hr := hr.mono hle13
      replace hp := hp.mono hle13
      replace h8 := h8.mono hle13
      replace h9 := h9.mono hle13
      obtain rfl := hp13
      refine stepD_d rfl rfl rfl rfl (Does.int (does_mul rfl rfl rfl) (wrap_i64 (by omega) (by omega))) ?_
      refine stepD_d rfl rfl rfl rfl (Does.int (b := (cbRun rs ps i).k r z) (does_rem rfl rfl rfl (by omega)) (Int.tmod_eq_emod_of_nonneg hm1)) ?_
      refine stepD_d rfl rfl rfl rfl (does_assign rfl rfl) ?_
      refine stepD_tail ?_
      refine znq ?_
      refine cp_drawn (by kernel_rfl) 6 [(0, true), (1, true), (2, true), (3, false), (4, false), (5, false)] _ rfl (by kernel_rfl) (by kernel_rfl) (by kernel_rfl) (fun _ _ _ _ _ h => h) _ (hst.drew) ?_
      have hst0 := hst.drew
      clear hst
      have hst := hst0
      refine stepD_d rfl rfl rfl rfl (does_load_ownN 0 rfl (by kernel_rfl) zf93 rfl rfl rfl) ?_
      refine stepD_d rfl rfl rfl rfl (does_load_ownN 1 rfl (by kernel_rfl) zf93 rfl rfl rfl) ?_
      refine stepD_d rfl rfl rfl rfl (does_move rfl rfl) ?_
      refine stepD_call rfl rfl rfl rfl rfl rfl hst (snum_FromInt (x := (cbRun rs ps i).k r z) hst.agree (by omega) (by omega)) (fun _ _ h hle => St.older h hle (by simp) hst0.ext hst0.le) ?_
      clear hst
      intro v14 g14 w14 hst hle14 hcs14 hp14
      have hlesum := hle14
      replace hr := hr.mono hle14
      replace hp := hp.mono hle14
      replace h8 := h8.mono hle14
      replace h9 := h9.mono hle14
      obtain ⟨n78, A78, l78, c78, rfl, h78⟩ := hp14
      have l78b := h78.len (k := 1) (by omega)
      refine stepD_call rfl rfl rfl rfl rfl rfl hst (snum_Mul hst.agree h9 h78 (by omega) (by omega)) (fun _ _ h hle => St.older h (Mem.le.trans hlesum hle) (by simp) hst0.ext hst0.le) ?_
      clear hst
      intro v15 g15 w15 hst hle15 hcs15 hp15
      replace hlesum := Mem.le.trans hlesum hle15
      replace hr := hr.mono hle15
      replace hp := hp.mono hle15
      replace h8 := h8.mono hle15
      replace h9 := h9.mono hle15
      replace h78 := h78.mono hle15
      obtain ⟨n79, A79, l79, c79, rfl, h79⟩ := hp15
      have hok2 := cbRun_ok (rs := rs) hall (i + 1) (by omega)
      obtain ⟨sv2, sm2⟩ := hok2.sz
      have sk2 := int_sz (x := (cbRun rs ps i).k r z) (by omega) (by omega)
      have smk := (sm.mul sk2)
      rw [← Rat.intCast_mul] at smk
      have l79b := h79.len (k := 1099511627776) (by have := (smk.fitH (by decide)).1; rwa [Rat.num_intCast] at this)
      refine stepD_call rfl rfl rfl rfl rfl rfl hst (snum_Add hst.agree h8 h79 (by omega) (by omega)) (fun _ _ h hle => St.older h (Mem.le.trans hlesum hle) (by simp) hst0.ext hst0.le) ?_
      clear hst
      intro v16 g16 w16 hst hle16 hcs16 hp16
      replace hlesum := Mem.le.trans hlesum hle16
      replace hr := hr.mono hle16
      replace hp := hp.mono hle16
      replace h8 := h8.mono hle16
      replace h9 := h9.mono hle16
      replace h78 := h78.mono hle16
      replace h79 := h79.mono hle16
      obtain ⟨n80, A80, l80, c80, rfl, h80⟩ := hp16
      rw [show (cbRun rs ps i).v + (cbRun rs ps i).m * (cbRun rs ps i).k r z = (cbRun rs ps (i + 1)).v by rw [hstp]; rfl] at h80
      refine stepD_tail ?_
      refine stepK_store 0 rfl rfl rfl rfl rfl rfl zf93 rfl rfl hst rfl (by first | (simp [uN_length]; omega) | simp) ?_
      clear hst
      intro w17 hst
      simp only [zL, splice, Nat.reduceAdd] at hst
      refine znt ?_
      refine cp_drawn (by kernel_rfl) 4 [(0, true), (1, true), (2, false), (3, false)] _ rfl (by kernel_rfl) (by kernel_rfl) (by kernel_rfl) (fun _ _ _ _ _ h => h) _ (hst.drew) ?_
      have hst0 := hst.drew
      clear hst
      have hst := hst0
      refine stepD_d rfl rfl rfl rfl (does_load_ownN 1 rfl (by kernel_rfl) zf93 rfl rfl rfl) ?_
      refine stepD_d rfl rfl rfl rfl (does_move rfl rfl) ?_
      refine stepD_call rfl rfl rfl rfl rfl rfl hst (snum_FromInt (x := z) hst.agree (by omega) (by omega)) (fun _ _ h hle => St.older h hle (by simp) hst0.ext hst0.le) ?_
      clear hst
      intro v18 g18 w18 hst hle18 hcs18 hp18
      have hlesum := hle18
      replace hr := hr.mono hle18
      replace hp := hp.mono hle18
      replace h8 := h8.mono hle18
      replace h9 := h9.mono hle18
      replace h78 := h78.mono hle18
      replace h79 := h79.mono hle18
      replace h80 := h80.mono hle18
      obtain ⟨n83, A83, l83, c83, rfl, h83⟩ := hp18
      have l83b := h83.len (k := 1) (by omega)
      refine stepD_call rfl rfl rfl rfl rfl rfl hst (snum_Mul hst.agree h9 h83 (by omega) (by omega)) (fun _ _ h hle => St.older h (Mem.le.trans hlesum hle) (by simp) hst0.ext hst0.le) ?_
      clear hst
      intro v19 g19 w19 hst hle19 hcs19 hp19
      replace hlesum := Mem.le.trans hlesum hle19
      replace hr := hr.mono hle19
      replace hp := hp.mono hle19
      replace h8 := h8.mono hle19
      replace h9 := h9.mono hle19
      replace h78 := h78.mono hle19
      replace h79 := h79.mono hle19
      replace h80 := h80.mono hle19
      replace h83 := h83.mono hle19
      obtain ⟨n84, A84, l84, c84, rfl, h84⟩ := hp19
      rw [show (cbRun rs ps i).m * z = (cbRun rs ps (i + 1)).m by rw [hstp]; rfl] at h84
      refine stepD_tail ?_
      refine stepK_store 1 rfl rfl rfl rfl rfl rfl zf93 rfl rfl hst rfl (by first | (simp [uN_length]; omega) | simp) ?_
      clear hst
      intro w20 hst
      simp only [zL, splice, Nat.reduceAdd] at hst
      refine wpK_nil ?_
      refine at_block_normal ?_
      refine cp_then ?_
      refine cp_region ?_
      refine zM rfl hst rfl ?_
      refine stepK_d rfl rfl rfl hst (Does.int (does_add rfl rfl rfl) (wrap_i64 (by omega) (by omega))) ?_
      refine zA rfl hst rfl ?_
      refine wpK_nil ?_
      refine round_end ((i + 1, (n80, A80, l80, c80), (n84, A84, l84, c84))) ?_ ?_ ?_
      exact ⟨rfl, rfl, rfl, rfl, rfl, trivial⟩
      exact ⟨_, hst.weaken _ (by simp), hr, hp, h80, h84, by omega, nodup_step hnd hz (fun hmem => hdv.2 ((cbRun_dvd hall hzp i (by omega)).2 hmem))⟩
      show m - (i + 1) < m - i
      omega
      intro c42
      refine cp_exit ?_
      refine at_then_exit ?_
      refine at_then_exit ?_
      refine cp_exit_here ?_
      refine cp_then ?_
      refine cp_seq ?_
      obtain rfl : m = i := by omega
      rw [List.take_of_length_le (by omega)] at hnd
      refine cp_drawn (by kernel_rfl) 9 [(0, true), (1, true), (3, true), (4, true), (2, false), (5, false), (6, true), (7, true), (8, true)] _ rfl (by kernel_rfl) (by kernel_rfl) (by kernel_rfl) (fun _ _ _ _ _ h => h) _ (hst.drew) ?_
      have hst0 := hst.drew
      clear hst
      have hst := hst0
      refine stepD_d rfl rfl rfl rfl (does_load_ownN 0 rfl (by kernel_rfl) zf93 rfl rfl rfl) ?_
      refine stepD_d rfl rfl rfl rfl (does_build rfl zf112 rfl rfl) ?_
      refine stepD_d rfl rfl rfl rfl (does_load_ownN 1 rfl (by kernel_rfl) zf93 rfl rfl rfl) ?_
      refine stepD_d rfl rfl rfl rfl (does_build rfl zf112 rfl rfl) ?_
      refine stepD_call rfl rfl rfl rfl rfl rfl hst (snum_Text hst.agree (IsQ.int h8) (sv.fitH (by decide))) (fun _ _ h hle => St.older h hle (by simp) hst0.ext hst0.le) ?_
      clear hst
      intro v21 g21 w21 hst hle21 hcs21 hp21
      have hlesum := hle21
      replace hr := hr.mono hle21
      replace hp := hp.mono hle21
      replace h8 := h8.mono hle21
      replace h9 := h9.mono hle21
      obtain rfl := hp21
      refine stepD_call rfl rfl rfl rfl rfl rfl hst (snum_Text hst.agree (IsQ.int h9) (sm.fitH (by decide))) (fun _ _ h hle => St.older h (Mem.le.trans hlesum hle) (by simp) hst0.ext hst0.le) ?_
      clear hst
      intro v22 g22 w22 hst hle22 hcs22 hp22
      replace hlesum := Mem.le.trans hlesum hle22
      replace hr := hr.mono hle22
      replace hp := hp.mono hle22
      replace h8 := h8.mono hle22
      replace h9 := h9.mono hle22
      obtain rfl := hp22
      refine stepD_d rfl rfl rfl rfl (does_assign rfl rfl) ?_
      refine stepD_d rfl rfl rfl rfl (does_assign rfl rfl) ?_
      refine stepD_d rfl rfl rfl rfl (does_assign rfl rfl) ?_
      refine stepD_tail ?_
      refine znt ?_
      refine cp_ret ?_
      refine ret3 rfl rfl rfl rfl hst ?_
      rw [combR_ok (by omega) (by omega) hall hnd, hl2]

end Go.Proofs.YtcjhnkmoloiepaaGreatDoor
