/- A helper of the claim: general lemmas and walks of functions, printed by a program of this session. Conditions: none. -/
import Derived.Test.YtcjhnkmoloiepaaGreatDoorH1
import Derived.Test.YtcjhnkmoloiepaaGreatDoorF8
import Derived.Test.YtcjhnkmoloiepaaGreatDoorQ3
import Derived.Test.YtcjhnkmoloiepaaGreatDoorProg
import Derived.Test.YtcjhnkmoloiepaaGreatDoorH3
import Derived.Test.YtcjhnkmoloiepaaGreatDoorFA
import Derived.Test.YtcjhnkmoloiepaaGreatDoorP2
import Derived.Test.YtcjhnkmoloiepaaGreatDoorF0
namespace Go.Proofs.YtcjhnkmoloiepaaGreatDoor
open Go Go.RowKit Go.Proofs.Vc
set_option linter.unusedVariables false
set_option linter.unusedSimpArgs false

set_option maxHeartbeats 1000000 in
theorem rmod_residue {g : Mem} {w : World} (hag : Agree g w) {na : Bool} {A : Option Addr} {n c : Nat} {x : Int} (ha : IsZ g na A n x) {p : Int} (hp0 : 0 < p) (hp1 : p ≤ 2147483647) (hn : n ≤ 17592186044415) :
    CallTo Tryz.prog 53 #[.agg #[.bool na, .slice A n c], .int .i64 p] w (Ret w g fun v g => v = .int .i64 (x % p)) := by
  refine CallTo.enter (vs := [.agg #[.bool na, .slice A n c], .int .i64 p]) zf139 (by kernel_rfl) rfl rfl rfl ?_
  have hst := St.init hag
  obtain ⟨⟨xs, hxs, hxw, hxt, hxv⟩, hna⟩ := id ha
  have hlx := hxs.1
  obtain ⟨P, hP⟩ : ∃ P : Nat, (P : Int) = p := ⟨p.toNat, by omega⟩
  subst hP
  refine zsr ?_
  refine stepK_box rfl rfl rfl rfl rfl rfl hst ?_
  clear hst
  intro b2 w1 hst
  refine zA rfl hst rfl ?_
  refine zn4 ?_
  refine zA rfl hst rfl ?_
  refine znq ?_
  refine zsr ?_
  refine stepK_d rfl rfl rfl hst (does_fieldAddr rfl zf97 rfl) ?_
  refine stepK_d rfl rfl rfl hst (does_load_ownL 0 rfl (by kernel_rfl) rfl rfl rfl) ?_
  refine stepK_d rfl rfl rfl hst (does_len_slice rfl zf80 rfl) ?_
  refine stepK_d rfl rfl rfl hst (Does.int (does_sub rfl rfl rfl) (wrap_i64 (by omega) (by omega))) ?_
  refine zA rfl hst rfl ?_
  refine znt ?_
  refine cp_block ?_
  refine cp_loop (ι := Nat × Nat) (fun (j, r) => [(1, .int .i64 (P : Int)), (2, .pointer (some ⟨b2, 0, none⟩)), (5, .int .u64 (r : Int)), (6, .int .i64 ((j : Int) - 1))]) (fun (j, r) w1 => St w [] g g [(b2, .cells #[.bool na, .slice A n c] 31 (0, 0))] w1 ∧ j ≤ n ∧ r < P ∧ hval (xs.drop j) % P = r) (fun (j, r) => j) (n, 0) ?k2 ?i2 ?r2
  case k2 => exact ⟨rfl, rfl, rfl, rfl, trivial⟩
  case i2 =>
    exact ⟨hst, Nat.le_refl _, by omega, by rw [List.drop_of_length_le (by omega)]; exact Nat.zero_mod P⟩
  case r2 =>
    clear hst
    rintro ⟨j, r⟩ w1 ⟨hst, hj, hr, hv⟩
    refine cp_seq ?_
    refine zsr ?_
    refine zM rfl hst rfl ?_
    refine stepK_d rfl rfl rfl hst (does_geq rfl rfl rfl) ?_
    refine znt ?_
    refine cp_if rfl ?_ ?_
    intro c12
    refine cp_skip ?_
    refine cp_then ?_
    refine cp_seq ?_
    refine cp_block ?_
    obtain ⟨b1, o1, e1, hb1⟩ := hxs.some_ (by omega)
    subst e1
    obtain ⟨x0, hx0⟩ := get_of_lt (ws := xs) (j := j - 1) (by omega)
    have hxl := hxw.get hx0
    refine cp_region ?_
    refine zM rfl hst rfl ?_
    refine stepK_d rfl rfl rfl hst (does_shl32 rfl rfl rfl (by omega)) ?_
    refine stepK_d rfl rfl rfl hst (does_fieldAddr rfl zf97 rfl) ?_
    refine stepK_d rfl rfl rfl hst (does_load_ownL 0 rfl (by kernel_rfl) rfl rfl rfl) ?_
    refine zM rfl hst rfl ?_
    refine stepK_d rfl rfl rfl hst (does_indexAddr1 (j := (j - 1)) rfl zf80 (by kernel_rfl) rfl rfl (by omega) (by omega)) ?_
    refine stepK_d rfl rfl rfl hst (does_load_g1 rfl (by kernel_rfl) rfl (hb1.at_ _ _ hx0)) ?_
    refine stepK_d rfl rfl rfl hst (does_widen32 rfl (by kernel_rfl) (by kernel_rfl) rfl (by omega)) ?_
    refine stepK_d rfl rfl rfl hst (does_or32 rfl rfl rfl (by omega) (by omega)) ?_
    refine zM rfl hst rfl ?_
    refine stepK_d rfl rfl rfl hst (Does.nat (b := P) (does_conv rfl (by kernel_rfl) (by kernel_rfl) rfl) (by rw [IntKind.wrap_u64]; omega)) ?_
    refine stepK_d rfl rfl rfl hst (does_rem_n rfl rfl rfl (by omega)) ?_
    refine zA rfl hst rfl ?_
    refine wpK_nil ?_
    refine at_block_normal ?_
    refine cp_then ?_
    refine cp_region ?_
    refine zM rfl hst rfl ?_
    refine stepK_d rfl rfl rfl hst (Does.int (does_sub rfl rfl rfl) (wrap_i64 (by omega) (by omega))) ?_
    refine zA rfl hst rfl ?_
    refine wpK_nil ?_
    refine round_end ((j - 1, (r * 4294967296 + x0) % P)) ?_ ?_ ?_
    exact ⟨rfl, rfl, rfl, (kint (by omega)), trivial⟩
    exact ⟨hst, by omega, Nat.mod_lt _ (by omega), by rw [h_val_drop_get hx0, show j - 1 + 1 = j by omega]; exact (res_step hv).symm⟩
    show j - 1 < j
    omega
    intro c12
    refine cp_exit ?_
    refine at_then_exit ?_
    refine at_then_exit ?_
    refine cp_exit_here ?_
    refine cp_then ?_
    refine cp_seq ?_
    refine zsr ?_
    refine stepK_d rfl rfl rfl hst (does_fieldAddr rfl zf96 rfl) ?_
    refine stepK_d rfl rfl rfl hst (does_load_ownL 0 rfl (by kernel_rfl) rfl rfl rfl) ?_
    refine znt ?_
    refine cp_cond rfl ?_ ?_
    intro c28
    obtain rfl : j = 0 := by omega
    rw [List.drop_zero, hxv] at hv
    have hx9 : x < 0 := of_decide_eq_true (hna.symm.trans c28)
    refine zsr ?_
    refine zM rfl hst rfl ?_
    refine stepK_d rfl rfl rfl hst (does_conv_n_i64 rfl (by kernel_rfl) (by kernel_rfl) rfl (by omega)) ?_
    refine stepK_d rfl rfl rfl hst (Does.int (does_neg rfl rfl) (wrap_i64 (by omega) (by omega))) ?_
    refine zM rfl hst rfl ?_
    refine stepK_call rfl rfl rfl rfl rfl hst (rmod_Mod hst.agree (by omega) (by omega) (by omega) (by omega)) ?_
    clear hst
    intro v3 g3 w3 hst hle3 hcs3 hp3
    replace ha := ha.mono hle3
    obtain rfl := hp3
    refine zA rfl hst rfl ?_
    refine zn5 ?_
    refine ret1 rfl rfl hst ?_
    rw [res_neg (by omega) hv hx9]
    intro c28
    obtain rfl : j = 0 := by omega
    rw [List.drop_zero, hxv] at hv
    have hx9 : ¬ x < 0 := of_decide_eq_false (hna.symm.trans c28)
    refine zk4 ?_
    refine zM rfl hst rfl ?_
    refine stepK_d rfl rfl rfl hst (does_conv_n_i64 rfl (by kernel_rfl) (by kernel_rfl) rfl (by omega)) ?_
    refine zA rfl hst rfl ?_
    refine znt ?_
    refine cp_ret ?_
    refine ret1 rfl rfl hst ?_
    rw [res_pos hv hx9]

end Go.Proofs.YtcjhnkmoloiepaaGreatDoor

namespace Go.Proofs.YtcjhnkmoloiepaaGreatDoor
open Go Go.RowKit Go.Proofs.Vc
set_option linter.unusedVariables false
set_option linter.unusedSimpArgs false

set_option maxHeartbeats 4000000 in
theorem rmod_Reduce {g : Mem} {w : World} (hag : Agree g w) {a : ByteArray} (ha : a.size ≤ 100000) {p : Int} (z3 : -9223372036854775808 ≤ p) (z4 : p ≤ 9223372036854775807)  :
    CallTo Tryz.prog 14 #[.string a, .int .i64 p] w (Ret w g fun v g => v = .tuple #[.int .i64 (if RedOk a p then redM (getR a) p else 0), .bool (decide (RedOk a p))]) := by
  refine CallTo.enter (vs := [.string a, .int .i64 p]) zf140 (by kernel_rfl) rfl rfl rfl ?_
  have hst := St.init hag
  have sx := (getR_sz a).mono (m := 100001) (by omega)
  have fx := sx.fitH (by decide)
  refine zsr ?_
  refine zA rfl hst rfl ?_
  refine zA rfl hst rfl ?_
  refine zn4 ?_
  refine zM rfl hst rfl ?_
  refine stepK_call rfl rfl rfl rfl rfl hst (snum_Read hst.agree (by omega)) ?_
  clear hst
  intro v1 g1 w1 hst hle1 hcs1 hp1
  obtain ⟨na, A, n, c, nb, B, m, d, ok1, ρ1, rfl, hx, hy1, hn1⟩ := hp1
  refine zM rfl hst rfl ?_
  refine zE rfl hst rfl rfl ?_
  refine zE rfl hst rfl rfl ?_
  refine stepK_alloc rfl rfl rfl rfl zf111 rfl hst ?_
  clear hst
  intro b6 w2 hst
  refine stepK_store 0 rfl rfl rfl rfl rfl rfl zf109 rfl rfl hst rfl (by first | (simp [uN_length]; omega) | simp) ?_
  clear hst
  intro w3 hst
  simp only [zL, splice, Nat.reduceAdd] at hst
  refine zA rfl hst rfl ?_
  refine znq ?_
  refine zsr ?_
  refine zM rfl hst rfl ?_
  refine stepK_call rfl rfl rfl rfl rfl hst (rmod_IsPrime hst.agree z3 z4) ?_
  clear hst
  intro v4 g4 w4 hst hle4 hcs4 hp4
  replace hx := hx.mono hle4
  obtain rfl := hp4
  refine stepK_d rfl rfl rfl hst (does_not rfl rfl) ?_
  refine zM rfl hst rfl ?_
  refine wpK_splitb (t := 18) rfl ?_ ?_
  intro s18
  have hno : ¬ RedOk a p := fun h => not_prm s18 h.1
  refine stepK_pass rfl rfl rfl rfl rfl rfl rfl ?_
  refine stepK_pass rfl rfl rfl rfl rfl rfl rfl ?_
  refine stepK_d rfl rfl rfl hst (does_pick_true rfl rfl rfl) ?_
  refine znt ?_
  refine cp_cond_true rfl ?_
  refine zsr ?_
  refine zA rfl hst rfl ?_
  refine zA rfl hst rfl ?_
  refine zn5 ?_
  refine ret2 rfl rfl rfl hst ?_
  rw [if_neg hno, decide_eq_false hno]
  intro s18
  have hp := is_prm s18
  have hp0 : 0 < p := by have := hp.1; omega
  have hp1 := hp.2.1
  have hp2 := hp.1
  refine stepK_guard rfl rfl rfl rfl rfl rfl hst (does_move rfl rfl) ?_
  refine stepK_guard rfl rfl rfl rfl rfl rfl hst (does_not rfl rfl) ?_
  refine stepK_d rfl rfl rfl hst (does_pick_false rfl rfl rfl) ?_
  refine znt ?_
  refine cp_cond rfl ?_ ?_
  intro c21
  have hno : ¬ RedOk a p := fun h => by have e := hn1 (by simpa using c21); have h9 := h.2.1; rw [e] at h9; cases h9
  refine zsr ?_
  refine zA rfl hst rfl ?_
  refine zA rfl hst rfl ?_
  refine zn5 ?_
  refine ret2 rfl rfl rfl hst ?_
  rw [if_neg hno, decide_eq_false hno]
  intro c21
  have e1 := hy1 (by simpa using c21)
  have g1 : getR a = ρ1 := by unfold getR; rw [e1]; rfl
  have hs1 : (readR a).isSome = true := by rw [e1]; rfl
  rw [← g1] at hx
  refine zk4 ?_
  refine stepK_d rfl rfl rfl hst (does_load_ownN 0 rfl (by kernel_rfl) zf109 rfl rfl rfl) ?_
  refine stepK_call rfl rfl rfl rfl rfl hst (snum_Den hst.agree hx) ?_
  clear hst
  intro v5 g5 w5 hst hle5 hcs5 hp5
  replace hx := hx.mono hle5
  obtain ⟨_, _, l24, _, rfl, h24⟩ := hp5
  have l24b := h24.len fx.2
  refine zM rfl hst rfl ?_
  refine stepK_call rfl rfl rfl rfl rfl hst (rmod_residue hst.agree h24 hp0 hp1 (by omega)) ?_
  clear hst
  intro v6 g6 w6 hst hle6 hcs6 hp6
  replace hx := hx.mono hle6
  replace h24 := h24.mono hle6
  obtain rfl := hp6
  refine zM rfl hst rfl ?_
  have hb1 := Int.emod_nonneg ((getR a).den : Int) (show p ≠ 0 by omega)
  have hb2 := Int.emod_lt_of_pos ((getR a).den : Int) hp0
  have hb3 := Int.emod_nonneg (getR a).num (show p ≠ 0 by omega)
  have hb4 := Int.emod_lt_of_pos (getR a).num hp0
  refine stepK_call rfl rfl rfl rfl rfl hst (rmod_Inverse (a := ((getR a).den : Int) % p) hst.agree (by omega) (by omega) z3 z4) ?_
  clear hst
  intro v7 g7 w7 hst hle7 hcs7 hp7
  replace hx := hx.mono hle7
  replace h24 := h24.mono hle7
  obtain rfl := hp7
  rw [Int.emod_emod, invM_mod]
  refine zM rfl hst rfl ?_
  refine zE rfl hst rfl rfl ?_
  refine zE rfl hst rfl rfl ?_
  refine zA rfl hst rfl ?_
  refine zA rfl hst rfl ?_
  refine znq ?_
  refine zsr ?_
  refine zM rfl hst rfl ?_
  refine stepK_d rfl rfl rfl hst (does_not rfl rfl) ?_
  refine znt ?_
  refine cp_cond rfl ?_ ?_
  intro c32
  have hno : ¬ RedOk a p := fun h => by rw [decide_eq_true (show Prm p ∧ ¬ ((getR a).den : Int) % p = 0 from ⟨hp, h.2.2⟩)] at c32; cases c32
  refine zsr ?_
  refine zA rfl hst rfl ?_
  refine zA rfl hst rfl ?_
  refine zn5 ?_
  refine ret2 rfl rfl rfl hst ?_
  rw [if_neg hno, decide_eq_false hno]
  intro c32
  have hnd : Prm p ∧ ¬ ((getR a).den : Int) % p = 0 := of_decide_eq_true (by simpa using c32)
  have hyes : RedOk a p := ⟨hp, hs1, hnd.2⟩
  rw [if_pos hnd]
  obtain ⟨hi1, hi2⟩ := invM_bound (a := ((getR a).den : Int)) hp2
  obtain ⟨hm1, hm2⟩ := mul31I hb3 (show (getR a).num % p < 2147483648 by omega) hi1 (by omega)
  have l36b := hx.1.len fx.1
  refine zk4 ?_
  refine stepK_d rfl rfl rfl hst (does_fieldAddr rfl zf119 rfl) ?_
  refine stepK_d rfl rfl rfl hst (does_load_ownN 0 rfl (by kernel_rfl) zf93 rfl rfl rfl) ?_
  refine zM rfl hst rfl ?_
  refine stepK_call rfl rfl rfl rfl rfl hst (rmod_residue hst.agree hx.1 hp0 hp1 (by omega)) ?_
  clear hst
  intro v8 g8 w8 hst hle8 hcs8 hp8
  replace hx := hx.mono hle8
  replace h24 := h24.mono hle8
  obtain rfl := hp8
  refine zM rfl hst rfl ?_
  refine stepK_d rfl rfl rfl hst (Does.int (does_mul rfl rfl rfl) (wrap_i64 (by omega) (by omega))) ?_
  refine zM rfl hst rfl ?_
  refine stepK_d rfl rfl rfl hst (Does.int (b := redM (getR a) p) (does_rem rfl rfl rfl (by omega)) (Int.tmod_eq_emod_of_nonneg hm1)) ?_
  refine zA rfl hst rfl ?_
  refine zA rfl hst rfl ?_
  refine znt ?_
  refine cp_ret ?_
  refine ret2 rfl rfl rfl hst ?_
  rw [if_pos hyes, decide_eq_true hyes]

end Go.Proofs.YtcjhnkmoloiepaaGreatDoor
