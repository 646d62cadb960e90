/- The walks of functions, printed by a program of this session out of its specs. -/
import Derived.Test.YtcjhnkmoloiepaaDoorP5
import Derived.Test.YtcjhnkmoloiepaaDoorH9
import Derived.Test.YtcjhnkmoloiepaaDoorH8
import Derived.Test.YtcjhnkmoloiepaaDoorH6
import Derived.Test.YtcjhnkmoloiepaaDoorH4
import Derived.Test.YtcjhnkmoloiepaaDoorFX
import Derived.Test.YtcjhnkmoloiepaaDoorFT
import Derived.Test.YtcjhnkmoloiepaaDoorHR
import Derived.Test.YtcjhnkmoloiepaaDoorQ3
import Derived.Test.YtcjhnkmoloiepaaDoorKX
import Derived.Test.YtcjhnkmoloiepaaDoorProg
import Derived.Test.YtcjhnkmoloiepaaDoorF0
namespace Go.Proofs.YtcjhnkmoloiepaaDoor
open Go Go.RowKit Go.Proofs.Vc
set_option linter.unusedVariables false
set_option linter.unusedSimpArgs false

set_option maxHeartbeats 8000000 in
theorem ModularCombinePrimes_walk {g : Mem} {w : World} (hag : Agree g w) (hT : TabG Tryd.prog g) {A : Option Addr} {n c : Nat} (hs : IntS g A n) (hnc : n ≤ c) (hn9 : n ≤ 9223372036854775807) {a : Int} (z1 : -9223372036854775808 ≤ a) (z2 : a ≤ 9223372036854775807)  :
    CallTo Tryd.prog 4 #[.slice A n c, .int .i64 a] w (Ret w g fun v g => v = .bool true) := by
  refine CallTo.enter (vs := [.slice A n c, .int .i64 a]) zf101 (by kernel_rfl) rfl rfl rfl ?_
  have hst := St.init hag
  obtain ⟨rs, hr⟩ := hs.list
  have hl1 := hr.1
  refine zsr ?_
  refine zA rfl hst rfl ?_
  refine znq ?_
  refine zsr ?_
  refine zM rfl hst rfl ?_
  refine stepK_d rfl rfl rfl hst (does_len_slice rfl zf90 rfl) ?_
  refine stepK_d rfl rfl rfl hst (does_gtr rfl rfl rfl) ?_
  refine znt ?_
  refine cp_if rfl ?_ ?_
  intro c18
  refine zsr ?_
  refine stepK_call rfl rfl rfl rfl rfl hst (law02_awake hst.agree hT) ?_
  clear hst
  intro v1 g1 w1 hst hle1 hcs1 hp1
  replace hT := hT.mono hle1
  replace hr := hr.mono hle1
  obtain rfl := hp1
  refine zA rfl hst rfl ?_
  refine zn5 ?_
  refine ret1 rfl rfl hst ?_
  first
  | rfl
  | contradiction
  | simp_all
  intro c18
  have hn12 : n ≤ 12 := by omega
  refine zk4 ?_
  refine zA rfl hst rfl ?_
  refine zn4 ?_
  refine zM rfl hst rfl ?_
  refine stepK_call rfl rfl rfl rfl rfl hst (keep_Mod (b := 1000000) hst.agree z1 z2 (by decide) (by decide)) ?_
  clear hst
  intro v2 g2 w2 hst hle2 hcs2 hp2
  replace hT := hT.mono hle2
  replace hr := hr.mono hle2
  obtain rfl := hp2
  refine zA rfl hst rfl ?_
  refine znq ?_
  refine zsr ?_
  refine zA rfl hst rfl ?_
  refine znt ?_
  refine cp_block ?_
  refine cp_loop (ι := Nat × Int × List Int × Option Addr × Nat × List (Nat × Obj) × List Value) (fun (i, p, ps, Ar, cr, T, xs) => [(0, .slice A n c), (5, .slice Ar i cr), (6, .int .i64 p), (7, .int .i64 (i : Int))]) (fun (i, p, ps, Ar, cr, T, xs) w1 => ∃ g1, St w [] g g1 T w1 ∧ RowT w 3 1 (.slice Ar i cr) i xs T ∧ LsR IntC 1 g1 xs ps ∧ TabG Tryd.prog g1 ∧ IntL g1 A n rs ∧ i ≤ n ∧ 0 ≤ p ∧ p < PLf i ∧ (∀ x ∈ ps, Prm x ∧ x ≤ p) ∧ ps.Nodup ∧ ps.length = i) (fun (i, p, ps, Ar, cr, T, xs) => n - i) (0, a % ((1000000 : Nat) : Int), [], none, 0, [], []) ?k3 ?i3 ?r3
  case k3 => exact ⟨rfl, rfl, rfl, rfl, trivial⟩
  case i3 =>
    exact ⟨_, hst, RowT.nil _ _ _, rfl, hT, hr, Nat.zero_le _, Int.emod_nonneg _ (by decide), by have := Int.emod_lt_of_pos a (show (0 : Int) < ((1000000 : Nat) : Int) by decide); show _ < (1000003 : Int); omega, by simp, by simp, rfl⟩
  case r3 =>
    clear hst
    clear hT hr
    rintro ⟨i, p, ps, Ar, cr, T, xs⟩ w1 ⟨g1, hst, hrt, hls, hT, hr, hi, hp0, hpl, hps, hnd, hpn⟩
    have hpb := PL_big i (by omega)
    refine cp_seq ?_
    refine zsr ?_
    refine zM rfl hst rfl ?_
    refine zM rfl hst rfl ?_
    refine stepK_d rfl rfl rfl hst (does_len_slice rfl zf90 rfl) ?_
    refine stepK_d rfl rfl rfl hst (does_lss rfl rfl rfl) ?_
    refine znt ?_
    refine cp_if rfl ?_ ?_
    intro c25
    refine cp_skip ?_
    refine cp_then ?_
    refine cp_seq ?_
    refine cp_block ?_
    refine zsr ?_
    refine zM rfl hst rfl ?_
    refine stepK_call rfl rfl rfl rfl rfl hst (mod_NextPrime hst.agree (by omega) (by omega)) ?_
    clear hst
    intro v4 g4 w4 hst hle4 hcs4 hp4
    replace hT := hT.mono hle4
    replace hr := hr.mono hle4
    obtain ⟨q, hq, rfl⟩ := Or.elim hp4 id (fun h => absurd h.1 (by omega))
    have hqp := hq.1
    have hq1 := hq.2.1.1
    have hq2 := next_le hq (PL_prm i (by omega)) hpl
    have hpu := PL_up i (by omega)
    refine zM rfl hst rfl ?_
    refine zE rfl hst rfl rfl ?_
    refine zE rfl hst rfl rfl ?_
    refine zA rfl hst rfl ?_
    refine zA rfl hst rfl ?_
    refine znq ?_
    refine zsr ?_
    refine zM rfl hst rfl ?_
    refine stepK_d rfl rfl rfl hst (Does.bfalse' (does_not rfl rfl) rfl) ?_
    refine zM rfl hst rfl ?_
    refine stepK_guard rfl rfl rfl rfl rfl rfl hst (does_move rfl rfl) ?_
    refine stepK_guard rfl rfl rfl rfl rfl rfl hst (does_move rfl rfl) ?_
    refine stepK_guard rfl rfl rfl rfl rfl rfl hst (Does.no (does_leq rfl rfl rfl) (by omega)) ?_
    refine stepK_guard rfl rfl rfl rfl rfl rfl hst (does_move rfl rfl) ?_
    refine stepK_pass rfl rfl rfl rfl rfl rfl rfl ?_
    refine stepK_pass rfl rfl rfl rfl rfl rfl rfl ?_
    refine stepK_guard rfl rfl rfl rfl rfl rfl hst (does_pick_false rfl rfl rfl) ?_
    refine stepK_d rfl rfl rfl hst (does_pick_false rfl rfl rfl) ?_
    refine znt ?_
    refine cp_cond_false rfl ?_
    refine zk4 ?_
    refine zM rfl hst rfl ?_
    refine zA rfl hst rfl ?_
    refine zn3 ?_
    refine zM rfl hst rfl ?_
    refine zM rfl hst rfl ?_
    refine stepK_buildSlice rfl rfl rfl rfl zf90 zf96 rfl rfl (by decide) (by decide) (by decide) rfl rfl hst ?_
    clear hst
    intro b9 w5 hst
    replace hst := hst.tailin []
    simp only [List.cons_append, List.nil_append] at hst
    refine stepK_append rfl rfl rfl rfl zf90 zf96 rfl (by decide) rfl rfl (hrt.row [_] hst) (news := [.int .i64 q]) rfl (fun j u hj => by rw [addr_add, Nat.zero_add]; exact hst.cell_own 0 rfl (by simpa using hj)) (by simp [Value.oneCell']) (by omega) (by omega) ?_
    clear hst
    intro vr6 w6 hrow
    obtain ⟨T48, Ar48, cr48, rfl, hrt9, hst⟩ := hrow.tail
    clear hrow hrt
    have hrt := hrt9
    clear hrt9
    simp only [List.cons_append, List.nil_append] at hst
    refine zA rfl hst rfl ?_
    refine wpK_nil ?_
    refine at_block_normal ?_
    refine cp_then ?_
    refine cp_region ?_
    refine zM rfl hst rfl ?_
    refine stepK_d rfl rfl rfl hst (Does.int (does_add rfl rfl rfl) (wrap_i64 (by omega) (by omega))) ?_
    refine zA rfl hst rfl ?_
    refine wpK_nil ?_
    refine round_end ((i + 1, q, ps ++ [q], Ar48, cr48, T48, xs ++ [.int .i64 q])) ?_ ?_ ?_
    exact ⟨rfl, rfl, rfl, rfl, trivial⟩
    refine ⟨_, hst.weaken _ (by simp), hrt, LsR.snoc (c := [.int .i64 q]) (y := q) rfl ⟨rfl, by omega, by omega⟩ (hls.mono (by assumption) IntC.mono), hT, hr, by omega, by omega, by omega, fun x hx => ?_, ?_, by simp [hpn]⟩
    rcases List.mem_append.1 hx with hx | hx
    exact ⟨(hps x hx).1, by have := (hps x hx).2; omega⟩
    have : x = q := by simpa using hx
    subst this
    exact ⟨hq.2.1, Int.le_refl _⟩
    rw [List.nodup_append]
    refine ⟨hnd, by simp, fun x hx y hy e => ?_⟩
    have h1 := (hps x hx).2
    have h2 : y = q := by simpa using hy
    omega
    show n - (i + 1) < n - i
    omega
    intro c25
    refine cp_exit ?_
    refine at_then_exit ?_
    refine at_then_exit ?_
    refine cp_exit_here ?_
    refine cp_then ?_
    refine cp_seq ?_
    obtain rfl : n = i := by omega
    obtain ⟨g8, A8, c8, e8, hc8, hst, hle8, hs8⟩ := hrt.publish IntC.mono [] hst hls (by decide)
    injection e8 with e81 e82 e83
    subst e81 e83
    replace hT := hT.mono hle8
    replace hr := hr.mono hle8
    replace hls := hls.mono hle8 IntC.mono
    have hp := hs8.ints
    have hall : ∀ x ∈ ps, Prm x := fun x hx => (hps x hx).1
    have hok := cbRun_ok (rs := rs) hall n (by omega)
    obtain ⟨sv, sm⟩ := hok.sz
    have zv := ratS_size sv
    have zm := ratS_size sm
    refine cp_region ?_
    refine zM rfl hst rfl ?_
    refine zM rfl hst rfl ?_
    refine stepK_call rfl rfl rfl rfl rfl hst (mod_Combine hst.agree hT hr hp (by omega) (by omega) hc8) ?_
    clear hst
    intro v7 g7 w7 hst hle7 hcs7 hp7
    replace hT := hT.mono hle7
    replace hr := hr.mono hle7
    replace hp := hp.mono hle7
    obtain rfl := hp7
    rw [combR_ok (by omega) (by omega) hall hnd, show ps.length = n by omega]
    refine zM rfl hst rfl ?_
    refine zE rfl hst rfl rfl ?_
    refine zE rfl hst rfl rfl ?_
    refine zE rfl hst rfl rfl ?_
    refine zA rfl hst rfl ?_
    refine zA rfl hst rfl ?_
    refine zA rfl hst rfl ?_
    refine znq ?_
    refine zsr ?_
    refine zM rfl hst rfl ?_
    refine stepK_d rfl rfl rfl hst (Does.no (does_neq rfl rfl rfl) (fun h => h rfl)) ?_
    refine zM rfl hst rfl ?_
    refine stepK_guard rfl rfl rfl rfl rfl rfl hst (does_move rfl rfl) ?_
    refine stepK_guard rfl rfl rfl rfl rfl rfl hst (does_move rfl rfl) ?_
    refine stepK_call_guard rfl rfl rfl rfl rfl rfl rfl rfl hst (rational_Compare (a := ratS ((cbRun rs ps n).v : Rat)) (b := ratS ((cbRun rs ps n).m : Rat)) hst.agree (by omega) (by omega)) ?_
    clear hst
    intro v8 g8 w8 hst hle8 hcs8 hp8
    replace hT := hT.mono hle8
    replace hr := hr.mono hle8
    replace hp := hp.mono hle8
    obtain rfl := hp8
    rw [getR_text, getR_text]
    refine stepK_guard rfl rfl rfl rfl rfl rfl hst (Does.no (does_geq rfl rfl rfl) (fun h => by have h9 := sgn_lt.2 (Rat.not_le.2 (Rat.intCast_lt_intCast.2 hok.2.1)); omega)) ?_
    refine stepK_d rfl rfl rfl hst (does_pick_false rfl rfl rfl) ?_
    refine zM rfl hst rfl ?_
    refine stepK_guard rfl rfl rfl rfl rfl rfl hst (does_move rfl rfl) ?_
    refine stepK_call_guard rfl rfl rfl rfl rfl rfl rfl rfl hst (rational_Sign (a := ratS ((cbRun rs ps n).v : Rat)) hst.agree (by omega)) ?_
    clear hst
    intro v9 g9 w9 hst hle9 hcs9 hp9
    replace hT := hT.mono hle9
    replace hr := hr.mono hle9
    replace hp := hp.mono hle9
    obtain rfl := hp9
    rw [getR_text]
    refine stepK_guard rfl rfl rfl rfl rfl rfl hst (Does.no (does_lss rfl rfl rfl) (fun h => by rw [Rat.num_intCast] at h; have h9 := Int.sign_neg_iff.1 h; have h8 := hok.1; omega)) ?_
    refine stepK_d rfl rfl rfl hst (does_pick_false rfl rfl rfl) ?_
    refine znt ?_
    refine cp_cond_false rfl ?_
    refine cp_skip ?_
    refine cp_then ?_
    refine cp_seq ?_
    refine zsr ?_
    refine zA rfl hst rfl ?_
    refine znt ?_
    refine cp_block ?_
    refine cp_loop (ι := Nat) (fun i => [(0, .slice A n c), (5, .slice Ar n cr), (10, .string (ratS ((cbRun rs ps n).v : Rat))), (13, .int .i64 (i : Int))]) (fun i w1 => ∃ g1, St w [] g g1 [] w1 ∧ TabG Tryd.prog g1 ∧ IntL g1 A n rs ∧ IntL g1 Ar n ps ∧ i ≤ n) (fun i => n - i) 0 ?k10 ?i10 ?r10
    case k10 => exact ⟨rfl, rfl, rfl, rfl, trivial⟩
    case i10 =>
      exact ⟨_, hst, hT, hr, hp, Nat.zero_le _⟩
    case r10 =>
      clear hst
      clear hT hr hp
      rintro i w1 ⟨g1, hst, hT, hr, hp, hi⟩
      refine cp_seq ?_
      refine zsr ?_
      refine zM rfl hst rfl ?_
      refine zM rfl hst rfl ?_
      refine stepK_d rfl rfl rfl hst (does_len_slice rfl zf90 rfl) ?_
      refine stepK_d rfl rfl rfl hst (does_lss rfl rfl rfl) ?_
      refine znt ?_
      refine cp_if rfl ?_ ?_
      intro c72
      refine cp_skip ?_
      refine cp_then ?_
      refine cp_seq ?_
      refine cp_block ?_
      refine cp_seq ?_
      obtain ⟨b1, o1, z, e1, hz, hzm, hzi, hzd, hc1⟩ := hp.cell (j := i) (by omega)
      subst e1
      obtain ⟨b3, o3, r, e3, hr3, hrm, hri, hrd, hc3⟩ := hr.cell (j := i) (by omega)
      subst e3
      have hzp := hall z hzm
      obtain ⟨P, rfl⟩ : ∃ P : Nat, z = (P : Int) := ⟨z.toNat, by have := hzp.1; omega⟩
      have hz0 := hzp.1
      have hz2 := (hps _ hzm).2
      have hres := cb_res (rs := rs) hall hnd n (by omega) i _ (by omega) hz
      rw [hrd] at hres
      refine cp_region ?_
      refine zM rfl hst rfl ?_
      refine zM rfl hst rfl ?_
      refine zM rfl hst rfl ?_
      refine stepK_d rfl rfl rfl hst (does_indexAddr1 (j := i) rfl zf90 (by kernel_rfl) rfl rfl (by omega) (by omega)) ?_
      refine stepK_d rfl rfl rfl hst (does_load_g1 rfl (by kernel_rfl) rfl hc1) ?_
      refine stepK_call rfl rfl rfl rfl rfl hst (mod_Reduce (a := ratS ((cbRun rs ps n).v : Rat)) hst.agree (by omega) hzi.1 hzi.2) ?_
      clear hst
      intro v11 g11 w11 hst hle11 hcs11 hp11
      replace hT := hT.mono hle11
      replace hr := hr.mono hle11
      replace hp := hp.mono hle11
      obtain rfl := hp11
      rw [if_pos (redOk_text hzp (den_one_mod hzp)), decide_eq_true (redOk_text hzp (den_one_mod hzp)), getR_text, redM_int hzp, hres]
      refine zM rfl hst rfl ?_
      refine zE rfl hst rfl rfl ?_
      refine zE rfl hst rfl rfl ?_
      refine zA rfl hst rfl ?_
      refine zA rfl hst rfl ?_
      refine znq ?_
      refine cp_drawn (by kernel_rfl) 15 [(0, true), (1, true), (2, true), (3, true), (4, true), (5, true), (6, true), (7, true), (8, true), (9, true), (10, true), (11, true), (12, false), (13, true), (14, true)] _ rfl (by kernel_rfl) (by kernel_rfl) (by kernel_rfl) (fun _ _ _ _ _ h => h) _ (hst.drew) ?_
      have hst0 := hst.drew
      clear hst
      have hst := hst0
      refine stepD_d rfl rfl rfl rfl (does_move rfl rfl) ?_
      refine stepD_d rfl rfl rfl rfl (Does.bfalse' (does_not rfl rfl) rfl) ?_
      refine stepD_d rfl rfl rfl rfl (does_move rfl rfl) ?_
      refine stepD_guard rfl rfl rfl rfl rfl rfl rfl (does_move rfl rfl) ?_
      refine stepD_guard rfl rfl rfl rfl rfl rfl rfl (does_move rfl rfl) ?_
      refine stepD_guard rfl rfl rfl rfl rfl rfl rfl (does_move rfl rfl) ?_
      refine stepD_guard rfl rfl rfl rfl rfl rfl rfl (does_indexAddr1 (j := i) rfl zf90 (by kernel_rfl) rfl rfl (by omega) (by omega)) ?_
      refine stepD_guard rfl rfl rfl rfl rfl rfl rfl (does_load_g1 rfl (by kernel_rfl) rfl (gcell_le (by first | assumption | exact Mem.le.refl _) hc3)) ?_
      refine stepD_guard rfl rfl rfl rfl rfl rfl rfl (does_move rfl rfl) ?_
      refine stepD_guard rfl rfl rfl rfl rfl rfl rfl (does_move rfl rfl) ?_
      refine stepD_guard rfl rfl rfl rfl rfl rfl rfl (does_indexAddr1 (j := i) rfl zf90 (by kernel_rfl) rfl rfl (by omega) (by omega)) ?_
      refine stepD_guard rfl rfl rfl rfl rfl rfl rfl (does_load_g1 rfl (by kernel_rfl) rfl (gcell_le (by first | assumption | exact Mem.le.refl _) hc1)) ?_
      refine stepD_call_guard rfl rfl rfl rfl rfl rfl rfl rfl rfl hst (keep_Mod (b := P) hst.agree hri.1 hri.2 (by omega) (by omega)) (fun _ _ h hle => St.older h hle (by simp) hst0.ext hst0.le) ?_
      clear hst
      intro v12 g12 w12 hst hle12 hcs12 hp12
      have hlesum := hle12
      replace hT := hT.mono hle12
      replace hr := hr.mono hle12
      replace hp := hp.mono hle12
      obtain rfl := hp12
      refine stepD_guard rfl rfl rfl rfl rfl rfl rfl (Does.no (does_neq rfl rfl rfl) (fun h => h rfl)) ?_
      refine stepD_d rfl rfl rfl rfl (does_pick_false rfl rfl rfl) ?_
      refine stepD_tail ?_
      refine znt ?_
      refine cp_cond_false rfl ?_
      refine cp_skip ?_
      refine at_block_normal ?_
      refine cp_then ?_
      refine cp_region ?_
      refine zM rfl hst rfl ?_
      refine stepK_d rfl rfl rfl hst (Does.int (does_add rfl rfl rfl) (wrap_i64 (by omega) (by omega))) ?_
      refine zA rfl hst rfl ?_
      refine wpK_nil ?_
      refine round_end (i + 1) ?_ ?_ ?_
      exact ⟨rfl, rfl, rfl, rfl, trivial⟩
      exact ⟨_, hst, hT, hr, hp, by omega⟩
      show n - (i + 1) < n - i
      omega
      intro c72
      refine cp_exit ?_
      refine at_then_exit ?_
      refine at_then_exit ?_
      refine cp_exit_here ?_
      refine cp_then ?_
      refine zsr ?_
      refine stepK_call rfl rfl rfl rfl rfl hst (law02_awake hst.agree hT) ?_
      clear hst
      intro v13 g13 w13 hst hle13 hcs13 hp13
      replace hT := hT.mono hle13
      replace hr := hr.mono hle13
      replace hp := hp.mono hle13
      obtain rfl := hp13
      refine zA rfl hst rfl ?_
      refine znt ?_
      refine cp_ret ?_
      refine ret1 rfl rfl hst ?_
      first
      | rfl
      | contradiction
      | simp_all

end Go.Proofs.YtcjhnkmoloiepaaDoor
