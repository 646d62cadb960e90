/- A helper of the claim: general lemmas and walks of functions, printed by a program of this session. Conditions: none. -/
import Derived.Test.YtcjhnkmoloiepaaGreatDoorF8
import Derived.Test.YtcjhnkmoloiepaaGreatDoorF7
import Derived.Test.YtcjhnkmoloiepaaGreatDoorQ3
import Derived.Test.YtcjhnkmoloiepaaGreatDoorProg
import Derived.Test.YtcjhnkmoloiepaaGreatDoorF0
namespace Go.Proofs.YtcjhnkmoloiepaaGreatDoor
open Go Go.RowKit Go.Proofs.Vc
set_option linter.unusedVariables false
set_option linter.unusedSimpArgs false

set_option maxHeartbeats 4000000 in
theorem snum_Digits {g : Mem} {w : World} (hag : Agree g w) {na : Bool} {A : Option Addr} {n c : Nat} {x : Int} (ha : IsZ g na A n x) (hn : n ≤ 1099511627776) :
    CallTo Tryz.prog 56 #[.agg #[.bool na, .slice A n c]] w (Ret w g fun v g => v = .string ⟨(Lib.decDigits x.natAbs).toArray⟩) := by
  refine CallTo.enter (vs := [.agg #[.bool na, .slice A n c]]) zf114 (by kernel_rfl) rfl rfl rfl ?_
  have hst := St.init hag
  have hNB := ha.1.lt
  refine zsr ?_
  refine stepK_box rfl rfl rfl rfl rfl rfl hst ?_
  clear hst
  intro bx w1 hst
  refine zA rfl hst rfl ?_
  refine znq ?_
  refine zsr ?_
  refine stepK_d rfl rfl rfl hst (does_fieldAddr rfl zf97 rfl) ?_
  refine stepK_d rfl rfl rfl hst (does_load_ownL 0 rfl (by kernel_rfl) rfl rfl rfl) ?_
  refine stepK_d rfl rfl rfl hst (does_len_slice rfl zf80 rfl) ?_
  refine stepK_d rfl rfl rfl hst (does_eql rfl rfl rfl) ?_
  refine znt ?_
  refine cp_if rfl ?_ ?_
  intro c14
  refine zsr ?_
  refine zA rfl hst rfl ?_
  refine zn5 ?_
  refine ret1 rfl rfl hst ?_
  rw [ha.z0.1 (by omega), show ((0 : Int).natAbs) = 0 from rfl, Lib.decDigits_one (by decide)]
  rfl
  intro c14
  have c14n : n ≠ 0 := by omega
  refine zk4 ?_
  refine zA rfl hst rfl ?_
  refine zn4 ?_
  refine stepK_d rfl rfl rfl hst (does_fieldAddr rfl zf97 rfl) ?_
  refine stepK_d rfl rfl rfl hst (does_load_ownL 0 rfl (by kernel_rfl) rfl rfl rfl) ?_
  refine zA rfl hst rfl ?_
  refine znq ?_
  refine cp_block ?_
  refine cp_loop (ι := Option Addr × Nat × Nat × Nat × Option Addr × Nat × List Nat) (fun (Am, m, cm, X, P, cp, ps) => [(1, .pointer (some ⟨bx, 0, none⟩)), (3, .slice P ps.length cp), (4, .slice Am m cm)]) (fun (Am, m, cm, X, P, cp, ps) w1 => ∃ g1, Row w [] g g1 [(bx, .cells #[.bool na, .slice A n c] 31 (0, 0))] 121 1 (.slice P ps.length cp) ps.length (uN .u32 ps) w1 ∧ IsHat g1 Am m X ∧ m ≤ n ∧ x.natAbs = X * 1000000000 ^ ps.length + hpv ps ∧ (∀ d ∈ ps, d < 1000000000) ∧ ps.length ≤ 2 * n + 1) (fun (Am, m, cm, X, P, cp, ps) => X) (A, n, c, x.natAbs, none, 0, []) ?k2 ?i2 ?r2
  case k2 => exact ⟨rfl, rfl, rfl, trivial⟩
  case i2 =>
    exact ⟨_, Row.nil hst, ha.1, Nat.le_refl _, by simp [hpv], by simp, by simp⟩
  case r2 =>
    clear hst
    rintro ⟨Am, m, cm, X, P, cp, ps⟩ w1 ⟨g1, hrow, hX, hmn, hval9, hps, hpl⟩
    have hst := hrow.st
    refine cp_seq ?_
    refine zsr ?_
    refine zM rfl hst rfl ?_
    refine stepK_d rfl rfl rfl hst (does_len_slice rfl zf80 rfl) ?_
    refine stepK_d rfl rfl rfl hst (does_gtr rfl rfl rfl) ?_
    refine znt ?_
    refine cp_if rfl ?_ ?_
    intro c19
    refine cp_skip ?_
    refine cp_then ?_
    refine cp_block ?_
    refine cp_seq ?_
    have hX0 : 0 < X := Nat.pos_of_ne_zero fun e => by have := hX.zero_iff.2 e; omega
    refine cp_region ?_
    refine zM rfl hst rfl ?_
    refine stepK_call rfl rfl rfl rfl rfl hst (snum_smallDiv hst.agree hX (x := 1000000000) (by decide) (by decide) (by omega)) ?_
    clear hst
    intro v3 g3 w3 hst hle3 hcs3 hp3
    replace hX := hX.mono hle3
    obtain ⟨A9, m9, c9, rfl, hX9⟩ := hp3
    replace hrow := hrow.call (by assumption)
    have hm9 : m9 ≤ m := hX9.len (Nat.lt_of_le_of_lt (Nat.div_le_self _ _) hX.lt)
    refine zM rfl hst rfl ?_
    refine zE rfl hst rfl rfl ?_
    refine zE rfl hst rfl rfl ?_
    refine zA rfl hst rfl ?_
    refine zA rfl hst rfl ?_
    refine zn4 ?_
    refine zM rfl hst rfl ?_
    refine zM rfl hst rfl ?_
    refine stepK_buildSlice_row rfl rfl rfl rfl zf80 zf84 rfl rfl (by decide) (by decide) (by decide) rfl rfl hrow ?_
    clear hst
    intro b9 w9 hrow
    have hst := hrow.st
    refine stepK_append rfl rfl rfl rfl zf80 zf84 rfl (by decide) rfl rfl (hrow) (k := 1) rfl (fun j u hj => by rw [addr_add, Nat.zero_add]; exact hst.cell_own 1 rfl (by simpa using hj)) (by simp [Value.oneCell']) (by omega) (by omega) ?_
    clear hst
    intro vr4 w4 hrow
    obtain ⟨Ar, cr, rfl⟩ := hrow.shape
    have hst := hrow.st
    refine zA rfl hst rfl ?_
    refine zn3 ?_
    refine zM rfl hst rfl ?_
    refine zA rfl hst rfl ?_
    refine wpK_nil ?_
    refine at_block_normal ?_
    refine round_end ((A9, m9, c9, X / 1000000000, Ar, cr, ps ++ [X % 1000000000])) ?_ ?_ ?_
    exact ⟨rfl, by rw [List.length_append]; rfl, rfl, trivial⟩
    refine ⟨_, by rw [List.length_append, uN_append]; exact hrow.sub (List.sublist_append_left [_] [_]), hX9, by omega, ?_, ?_, ?_⟩
    rw [hval9, hpv_snoc, List.length_append, List.length_singleton, Nat.pow_succ]
    have h8 := Nat.div_add_mod X 1000000000
    generalize X / 1000000000 = a at *
    generalize X % 1000000000 = b at *
    rw [← h8]
    grind
    intro d hd
    rw [List.mem_append] at hd
    rcases hd with hd | hd
    exact hps d hd
    have : d = X % 1000000000 := by simpa using hd
    omega
    rw [List.length_append, List.length_singleton]
    have := hparts_len (X := X) (k := ps.length) hX0 (by rw [hval9]; exact Nat.le_add_right _ _) hNB
    omega
    show X / 1000000000 < X
    omega
    intro c19
    refine cp_exit ?_
    refine at_then_exit ?_
    refine at_then_exit ?_
    refine cp_exit_here ?_
    refine cp_then ?_
    refine cp_seq ?_
    obtain ⟨g2, P2, c2, e2, hc2, hst, hle2, hsv⟩ := hrow.publish
    cases e2
    clear hrow
    obtain rfl : X = 0 := hX.zero_iff.1 (by omega)
    rw [Nat.zero_mul, Nat.zero_add] at hval9
    have hpp := SlV.toN hsv rfl
    refine cp_region ?_
    refine zA rfl hst rfl ?_
    refine znq ?_
    refine zsr ?_
    refine zM rfl hst rfl ?_
    refine stepK_d rfl rfl rfl hst (does_len_slice rfl zf80 rfl) ?_
    refine stepK_d rfl rfl rfl hst (Does.int (does_sub rfl rfl rfl) (wrap_i64 (by omega) (by omega))) ?_
    refine zA rfl hst rfl ?_
    refine znt ?_
    refine cp_block ?_
    refine cp_loop (ι := Nat × Option Addr × Nat × List Nat) (fun (k, O, co, ds) => [(3, .slice P ps.length cp), (7, .slice O ds.length co), (8, .int .i64 ((k : Int) - 1))]) (fun (k, O, co, ds) w3 => Row w [] g g2 [(bx, .cells #[.bool na, .slice A n c] 31 (0, 0))] 5 1 (.slice O ds.length co) ds.length (uN .u8 ds) w3 ∧ k ≤ ps.length ∧ ds = outL (hpv (ps.drop k)) ∧ ds.length ≤ 9 * (ps.length - k)) (fun (k, O, co, ds) => k) (ps.length, none, 0, []) ?k5 ?i5 ?r5
    case k5 => exact ⟨rfl, rfl, kint (by omega), trivial⟩
    case i5 =>
      exact ⟨Row.nil hst, Nat.le_refl _, by simp [hpv, outL], by simp⟩
    case r5 =>
      clear hst
      rintro ⟨k, O, co, ds⟩ w3 ⟨hrow, hk, hds, hdl⟩
      have hst := hrow.st
      refine cp_seq ?_
      refine zsr ?_
      refine zM rfl hst rfl ?_
      refine stepK_d rfl rfl rfl hst (does_geq rfl rfl rfl) ?_
      refine znt ?_
      refine cp_if rfl ?_ ?_
      intro c34
      refine cp_skip ?_
      refine cp_then ?_
      refine cp_seq ?_
      refine cp_block ?_
      refine cp_seq ?_
      obtain ⟨b8, o8, rfl, hb8⟩ := hpp.some_ (by omega)
      obtain ⟨x0, hx⟩ := get_of_lt (ws := ps) (j := k - 1) (by omega)
      have hxl : x0 < 1000000000 := hps x0 (List.mem_of_getElem? hx)
      refine cp_region ?_
      refine zA rfl hst rfl ?_
      refine znt ?_
      refine cp_block ?_
      refine cp_loop (ι := Nat × Option Addr × Nat × List Nat) (fun (e, O, co, ds2) => [(3, .slice (some ⟨b8, o8, none⟩) ps.length cp), (7, .slice O ds2.length co), (8, .int .i64 ((k : Int) - 1)), (9, .int .u32 (tenD e : Int))]) (fun (e, O, co, ds2) w4 => Row w [] g g2 [(bx, .cells #[.bool na, .slice A n c] 31 (0, 0))] 5 1 (.slice O ds2.length co) ds2.length (uN .u8 ds2) w4 ∧ e ≤ 9 ∧ ds2 = outL (hpv (ps.drop k) * 10 ^ (9 - e) + x0 / 10 ^ e) ∧ ds2.length ≤ 9 * (ps.length - k) + (9 - e)) (fun (e, O, co, ds2) => e) (9, O, co, ds) ?k6 ?i6 ?r6
      case k6 => exact ⟨rfl, rfl, rfl, rfl, trivial⟩
      case i6 =>
        exact ⟨hrow, Nat.le_refl _, by rw [hds, Nat.div_eq_of_lt (show x0 < 10 ^ 9 by omega)]; simp, by omega⟩
      case r6 =>
        clear hst
        clear hrow
        rintro ⟨e, O, co, ds2⟩ w4 ⟨hrow, he, hds2, hdl2⟩
        have hst := hrow.st
        refine cp_seq ?_
        refine zsr ?_
        refine zM rfl hst rfl ?_
        refine stepK_d rfl rfl rfl hst (does_gtr_n (b := 0) rfl rfl rfl) ?_
        refine znt ?_
        refine cp_if rfl ?_ ?_
        intro c38
        refine cp_skip ?_
        refine cp_then ?_
        refine cp_seq ?_
        refine cp_block ?_
        refine cp_seq ?_
        obtain ⟨e, rfl⟩ : ∃ e1, e = e1 + 1 := ⟨e - 1, by
          cases e with
          | zero => exact absurd c38 (by decide)
          | succ n => rfl⟩
        have htd := tenD_lt he
        have htp : 0 < tenD (e + 1) := c38
        obtain ⟨dg, hdg⟩ : ∃ dg, dg = x0 / tenD (e + 1) % 10 := ⟨_, rfl⟩
        have hdg10 : dg < 10 := by rw [hdg]; exact Nat.mod_lt _ (by decide)
        have hq9 : x0 / tenD (e + 1) < 4294967296 := Nat.lt_of_le_of_lt (Nat.div_le_self _ _) (by omega)
        have hnum : hpv (ps.drop k) * 10 ^ (9 - e) + x0 / 10 ^ e = 10 * (hpv (ps.drop k) * 10 ^ (9 - (e + 1)) + x0 / 10 ^ (e + 1)) + dg := by
          rw [hdg, show 9 - e = 9 - (e + 1) + 1 by omega, Nat.pow_succ]
          have h9 := dig_split (x := x0) (e := e)
          simp only [tenD]
          generalize x0 / 10 ^ e = a at *
          rw [h9]
          grind
        refine cp_region ?_
        refine zM rfl hst rfl ?_
        refine zM rfl hst rfl ?_
        refine stepK_d rfl rfl rfl hst (does_indexAddr1 (j := (k - 1)) rfl zf80 (by kernel_rfl) rfl rfl (by omega) (by omega)) ?_
        refine stepK_d rfl rfl rfl hst (does_load_g1 rfl (by kernel_rfl) rfl (hb8.at_ _ _ hx)) ?_
        refine zM rfl hst rfl ?_
        refine stepK_d rfl rfl rfl hst (does_quo_u32 rfl rfl rfl (by omega) (by omega)) ?_
        refine stepK_d rfl rfl rfl hst (Does.nat (b := dg) (does_rem_n (b := 10) rfl rfl rfl (by decide)) (by rw [hdg])) ?_
        refine stepK_d rfl rfl rfl hst (Does.nat (b := 48 + dg) (does_add_u32 (a := 48) rfl rfl rfl) (by omega)) ?_
        refine stepK_d rfl rfl rfl hst (Does.nat (b := 48 + dg) (does_conv_n_u8 rfl (by kernel_rfl) (by kernel_rfl) rfl) (by omega)) ?_
        refine zA rfl hst rfl ?_
        refine zn4 ?_
        refine zM rfl hst rfl ?_
        refine stepK_d rfl rfl rfl hst (does_len_slice rfl zf115 rfl) ?_
        refine stepK_d rfl rfl rfl hst (does_gtr rfl rfl rfl) ?_
        refine zM rfl hst rfl ?_
        refine wpK_split (t := 53) rfl ?_ ?_
        intro s53
        refine stepK_pass rfl rfl rfl rfl rfl rfl rfl ?_
        refine stepK_pass rfl rfl rfl rfl rfl rfl rfl ?_
        refine stepK_d rfl rfl rfl hst (does_pick_true rfl rfl rfl) ?_
        refine znt ?_
        refine cp_cond_true rfl ?_
        refine cp_region ?_
        refine zM rfl hst rfl ?_
        refine zM rfl hst rfl ?_
        refine stepK_buildSlice_row rfl rfl rfl rfl zf115 zf116 rfl rfl (by decide) (by decide) (by decide) rfl rfl hrow ?_
        clear hst
        intro b9 w9 hrow
        have hst := hrow.st
        refine stepK_append rfl rfl rfl rfl zf115 zf116 rfl (by decide) rfl rfl (hrow) (k := 1) rfl (fun j u hj => by rw [addr_add, Nat.zero_add]; exact hst.cell_own 1 rfl (by simpa using hj)) (by simp [Value.oneCell']) (by omega) (by omega) ?_
        clear hst
        intro vr7 w7 hrow
        obtain ⟨Ar, cr, rfl⟩ := hrow.shape
        have hst := hrow.st
        refine zA rfl hst rfl ?_
        refine wpK_nil ?_
        refine at_block_normal ?_
        refine cp_then ?_
        refine cp_region ?_
        refine zM rfl hst rfl ?_
        refine stepK_d rfl rfl rfl hst (Does.nat (b := tenD e) (does_quo_u32 (b := 10) rfl rfl rfl (by decide) (by omega)) (by rw [tenD_step])) ?_
        refine zA rfl hst rfl ?_
        refine wpK_nil ?_
        refine round_end ((e, Ar, cr, ds2 ++ [48 + dg])) ?_ ?_ ?_
        exact ⟨rfl, by rw [List.length_append]; rfl, rfl, rfl, trivial⟩
        exact ⟨by rw [List.length_append, uN_append]; exact hrow.sub (List.sublist_append_left [_] [_]), by omega, by rw [hnum, outL_step hdg10 (by first | exact .inl (by rw [← hds2]; intro e9; rw [e9] at s53; exact absurd s53 (by decide)) | exact .inr (by omega)), hds2], by rw [List.length_append, List.length_singleton]; omega⟩
        show e < e + 1
        omega
        intro s53
        refine stepK_guard rfl rfl rfl rfl rfl rfl hst (does_move rfl rfl) ?_
        refine stepK_guard rfl rfl rfl rfl rfl rfl hst (does_neq_n (b := 48) rfl rfl rfl) ?_
        refine stepK_d rfl rfl rfl hst (does_pick_false rfl rfl rfl) ?_
        refine znt ?_
        refine cp_if rfl ?_ ?_
        intro c56
        refine cp_region ?_
        refine zM rfl hst rfl ?_
        refine zM rfl hst rfl ?_
        refine stepK_buildSlice_row rfl rfl rfl rfl zf115 zf116 rfl rfl (by decide) (by decide) (by decide) rfl rfl hrow ?_
        clear hst
        intro b9 w9 hrow
        have hst := hrow.st
        refine stepK_append rfl rfl rfl rfl zf115 zf116 rfl (by decide) rfl rfl (hrow) (k := 1) rfl (fun j u hj => by rw [addr_add, Nat.zero_add]; exact hst.cell_own 1 rfl (by simpa using hj)) (by simp [Value.oneCell']) (by omega) (by omega) ?_
        clear hst
        intro vr8 w8 hrow
        obtain ⟨Ar, cr, rfl⟩ := hrow.shape
        have hst := hrow.st
        refine zA rfl hst rfl ?_
        refine wpK_nil ?_
        refine at_block_normal ?_
        refine cp_then ?_
        refine cp_region ?_
        refine zM rfl hst rfl ?_
        refine stepK_d rfl rfl rfl hst (Does.nat (b := tenD e) (does_quo_u32 (b := 10) rfl rfl rfl (by decide) (by omega)) (by rw [tenD_step])) ?_
        refine zA rfl hst rfl ?_
        refine wpK_nil ?_
        refine round_end ((e, Ar, cr, ds2 ++ [48 + dg])) ?_ ?_ ?_
        exact ⟨rfl, by rw [List.length_append]; rfl, rfl, rfl, trivial⟩
        exact ⟨by rw [List.length_append, uN_append]; exact hrow.sub (List.sublist_append_left [_] [_]), by omega, by rw [hnum, outL_step hdg10 (.inr (by omega)), hds2], by rw [List.length_append, List.length_singleton]; omega⟩
        show e < e + 1
        omega
        intro c56
        refine cp_skip ?_
        refine at_block_normal ?_
        refine cp_then ?_
        refine cp_region ?_
        refine zM rfl hst rfl ?_
        refine stepK_d rfl rfl rfl hst (Does.nat (b := tenD e) (does_quo_u32 (b := 10) rfl rfl rfl (by decide) (by omega)) (by rw [tenD_step])) ?_
        refine zA rfl hst rfl ?_
        refine wpK_nil ?_
        refine round_end ((e, O, co, ds2)) ?_ ?_ ?_
        exact ⟨rfl, rfl, rfl, rfl, trivial⟩
        exact ⟨hrow, by omega, by rw [hnum, outL_skip (by rw [← hds2]; exact List.eq_nil_of_length_eq_zero (by omega)) (by omega), hds2], by omega⟩
        show e < e + 1
        omega
        intro c38
        refine cp_exit ?_
        refine at_then_exit ?_
        refine at_then_exit ?_
        refine cp_exit_here ?_
        refine at_block_normal ?_
        refine cp_then ?_
        obtain rfl : e = 0 := by
          cases e with
          | zero => rfl
          | succ n => exact absurd (Nat.pow_pos (by decide) : 0 < 10 ^ n) c38
        refine cp_region ?_
        refine zM rfl hst rfl ?_
        refine stepK_d rfl rfl rfl hst (Does.int (does_sub rfl rfl rfl) (wrap_i64 (by omega) (by omega))) ?_
        refine zA rfl hst rfl ?_
        refine wpK_nil ?_
        refine round_end ((k - 1, O, co, ds2)) ?_ ?_ ?_
        exact ⟨rfl, rfl, kint (by omega), trivial⟩
        exact ⟨hrow, by omega, by rw [hds2, hpv_drop hx, show k - 1 + 1 = k by omega]; congr 1; simp; omega, by omega⟩
        show k - 1 < k
        omega
      intro c34
      refine cp_exit ?_
      refine at_then_exit ?_
      refine at_then_exit ?_
      refine cp_exit_here ?_
      refine cp_then ?_
      refine cp_seq ?_
      obtain rfl : k = 0 := by omega
      obtain ⟨g3, O2, co2, e3, hc3, hst, hle3, hsv3⟩ := hrow.publish
      cases e3
      rw [List.drop_zero, ← hval9] at hds
      have hoo := SlV.toN hsv3 rfl
      have hxp : 0 < x.natAbs := by have := ha.z0; omega
      refine cp_region ?_
      refine zM rfl hst rfl ?_
      refine stepK_d rfl rfl rfl hst (does_conv_bytes_g rfl zf115 (by kernel_rfl) (by kernel_rfl) rfl hoo (by rw [hds]; exact List.length_pos_iff.2 (outL_ne hxp))) ?_
      refine zA rfl hst rfl ?_
      refine znt ?_
      refine cp_ret ?_
      refine ret1 rfl rfl hst ?_
      rw [hds, outL_text hxp]

end Go.Proofs.YtcjhnkmoloiepaaGreatDoor

namespace Go.Proofs.YtcjhnkmoloiepaaGreatDoor
open Go Go.RowKit Go.Proofs.Vc
set_option linter.unusedVariables false
set_option linter.unusedSimpArgs false

set_option maxHeartbeats 1000000 in
theorem snum_FromDigits {g : Mem} {w : World} (hag : Agree g w) {s : ByteArray} (hs : s.size ≤ 1099511627776) :
    CallTo Tryz.prog 97 #[.string s] w (Ret w g fun v g => ∃ ng A n c, v = .tuple #[.agg #[.bool ng, .slice A n c], .bool (decide (0 < s.size ∧ AllDig s))] ∧ IsZ g ng A n ((if AllDig s then dvL (Lb s) else 0 : Nat) : Int)) := by
  refine CallTo.enter (vs := [.string s]) zf117 (by kernel_rfl) rfl rfl rfl ?_
  have hst := St.init hag
  refine zsr ?_
  refine stepK_alloc rfl rfl rfl rfl zf91 rfl hst ?_
  clear hst
  intro bo w1 hst
  refine zA rfl hst rfl ?_
  refine zn4 ?_
  refine zA rfl hst rfl ?_
  refine znq ?_
  refine zsr ?_
  refine zA rfl hst rfl ?_
  refine znt ?_
  refine cp_block ?_
  refine cp_loop (ι := Nat × Option Addr × Nat × Nat) (fun (i, Am, m, cm) => [(0, .string s), (2, .pointer (some ⟨bo, 0, none⟩)), (4, .slice Am m cm), (5, .int .i64 (i : Int))]) (fun (i, Am, m, cm) w1 => ∃ g1, St w [] g g1 [(bo, .cells #[.bool false, .slice none 0 0] 31 (0, 0))] w1 ∧ IsHat g1 Am m (dval s i) ∧ i ≤ s.size ∧ (∀ j, j < i → 48 ≤ bt s j ∧ bt s j ≤ 57)) (fun (i, Am, m, cm) => s.size - i) (0, none, 0, 0) ?k2 ?i2 ?r2
  case k2 => exact ⟨rfl, rfl, rfl, rfl, trivial⟩
  case i2 =>
    exact ⟨_, hst, IsHat.nil _, Nat.zero_le _, fun j h => absurd h (Nat.not_lt_zero _)⟩
  case r2 =>
    clear hst
    rintro ⟨i, Am, m, cm⟩ w1 ⟨g1, hst, hX, hi, hdg⟩
    have hml : m ≤ i := hX.len (Nat.lt_of_lt_of_le (dval_fitH hdg) (Nat.pow_le_pow_left (by decide) i))
    refine cp_seq ?_
    refine zsr ?_
    refine zM rfl hst rfl ?_
    refine zM rfl hst rfl ?_
    refine stepK_d rfl rfl rfl hst (does_len_string rfl (by kernel_rfl) rfl) ?_
    refine stepK_d rfl rfl rfl hst (does_lss rfl rfl rfl) ?_
    refine znt ?_
    refine cp_if rfl ?_ ?_
    intro c12
    refine cp_skip ?_
    refine cp_then ?_
    refine cp_block ?_
    refine zsr ?_
    refine zA rfl hst rfl ?_
    refine zA rfl hst rfl ?_
    refine znq ?_
    refine zsr ?_
    refine zA rfl hst rfl ?_
    refine znt ?_
    refine cp_block ?_
    refine cp_loop (ι := Nat × Nat) (fun (k, u) => [(0, .string s), (2, .pointer (some ⟨bo, 0, none⟩)), (4, .slice Am m cm), (5, .int .i64 ((i + k : Nat) : Int)), (6, .int .u32 (u : Int)), (7, .int .u32 ((10 ^ k : Nat) : Int)), (8, .int .i64 (k : Int))]) (fun (k, u) w2 => St w [] g g1 [(bo, .cells #[.bool false, .slice none 0 0] 31 (0, 0))] w2 ∧ k ≤ 9 ∧ i + k ≤ s.size ∧ u < 10 ^ k ∧ (∀ j, j < i + k → 48 ≤ bt s j ∧ bt s j ≤ 57) ∧ dval s i * 10 ^ k + u = dval s (i + k)) (fun (k, u) => 9 - k) (0, 0) ?k3 ?i3 ?r3
    case k3 => exact ⟨rfl, rfl, rfl, kint (by omega), rfl, rfl, rfl, trivial⟩
    case i3 =>
      exact ⟨hst, by decide, hi, by decide, hdg, by simp⟩
    case r3 =>
      clear hst
      rintro ⟨k, u⟩ w2 ⟨hst, hk9, hik, hul, hdk, hkv⟩
      refine cp_seq ?_
      refine zsr ?_
      refine zM rfl hst rfl ?_
      refine stepK_d rfl rfl rfl hst (does_lss rfl rfl rfl) ?_
      refine zM rfl hst rfl ?_
      refine wpK_split (t := 15) rfl ?_ ?_
      intro s15
      refine stepK_guard rfl rfl rfl rfl rfl rfl hst (does_move rfl rfl) ?_
      refine stepK_guard rfl rfl rfl rfl rfl rfl hst (does_move rfl rfl) ?_
      refine stepK_guard rfl rfl rfl rfl rfl rfl hst (does_len_string rfl (by kernel_rfl) rfl) ?_
      refine stepK_guard rfl rfl rfl rfl rfl rfl hst (does_lss rfl rfl rfl) ?_
      refine stepK_d rfl rfl rfl hst (does_pick_true rfl rfl rfl) ?_
      refine znt ?_
      refine cp_if rfl ?_ ?_
      intro c20
      refine cp_skip ?_
      refine cp_then ?_
      refine cp_seq ?_
      refine cp_block ?_
      refine cp_seq ?_
      refine zsr ?_
      refine zM rfl hst rfl ?_
      refine zM rfl hst rfl ?_
      refine stepK_d rfl rfl rfl hst (does_index_bt (j := (i + k)) rfl (by kernel_rfl) rfl rfl (by omega) (by omega)) ?_
      refine stepK_d rfl rfl rfl hst (does_lss_n (b := 48) rfl rfl rfl) ?_
      refine zM rfl hst rfl ?_
      refine wpK_split (t := 27) rfl ?_ ?_
      intro s27
      refine stepK_pass rfl rfl rfl rfl rfl rfl rfl ?_
      refine stepK_pass rfl rfl rfl rfl rfl rfl rfl ?_
      refine stepK_pass rfl rfl rfl rfl rfl rfl rfl ?_
      refine stepK_pass rfl rfl rfl rfl rfl rfl rfl ?_
      refine stepK_d rfl rfl rfl hst (does_pick_true rfl rfl rfl) ?_
      refine znt ?_
      refine cp_cond_true rfl ?_
      refine cp_seq ?_
      have hno : ¬ AllDig s := fun h => by have := h (i + k) (by omega); omega
      refine cp_region ?_
      refine stepK_d rfl rfl rfl hst (does_build rfl zf92 rfl rfl) ?_
      refine stepK_store 0 rfl rfl rfl rfl rfl rfl zf93 rfl rfl hst rfl (by first | (simp [uN_length]; omega) | simp) ?_
      clear hst
      intro w4 hst
      simp only [zL, splice, Nat.reduceAdd] at hst
      refine zA rfl hst rfl ?_
      refine zn5 ?_
      refine at_block_ret ?_
      refine at_then_ret ?_
      refine at_then_ret ?_
      refine at_block_ret ?_
      refine at_then_ret ?_
      refine at_block_ret ?_
      refine at_then_ret ?_
      refine at_block_ret ?_
      refine at_then_ret ?_
      refine ret2c (k := 0) rfl rfl (by kernel_rfl) (by kernel_rfl) rfl rfl hst rfl ?_
      refine ⟨_, _, _, _, by rw [decide_eq_false (fun h => hno h.2)], ?_⟩
      rw [if_neg hno]
      exact IsZ.zero _
      intro s27
      refine stepK_guard rfl rfl rfl rfl rfl rfl hst (does_move rfl rfl) ?_
      refine stepK_guard rfl rfl rfl rfl rfl rfl hst (does_move rfl rfl) ?_
      refine stepK_guard rfl rfl rfl rfl rfl rfl hst (does_index_bt (j := (i + k)) rfl (by kernel_rfl) rfl rfl (by omega) (by omega)) ?_
      refine stepK_guard rfl rfl rfl rfl rfl rfl hst (does_gtr_n (b := 57) rfl rfl rfl) ?_
      refine stepK_d rfl rfl rfl hst (does_pick_false rfl rfl rfl) ?_
      refine znt ?_
      refine cp_if rfl ?_ ?_
      intro c32
      refine cp_seq ?_
      have hno : ¬ AllDig s := fun h => by have := h (i + k) (by omega); omega
      refine cp_region ?_
      refine stepK_d rfl rfl rfl hst (does_build rfl zf92 rfl rfl) ?_
      refine stepK_store 0 rfl rfl rfl rfl rfl rfl zf93 rfl rfl hst rfl (by first | (simp [uN_length]; omega) | simp) ?_
      clear hst
      intro w5 hst
      simp only [zL, splice, Nat.reduceAdd] at hst
      refine zA rfl hst rfl ?_
      refine zn5 ?_
      refine at_block_ret ?_
      refine at_then_ret ?_
      refine at_then_ret ?_
      refine at_block_ret ?_
      refine at_then_ret ?_
      refine at_block_ret ?_
      refine at_then_ret ?_
      refine at_block_ret ?_
      refine at_then_ret ?_
      refine ret2c (k := 0) rfl rfl (by kernel_rfl) (by kernel_rfl) rfl rfl hst rfl ?_
      refine ⟨_, _, _, _, by rw [decide_eq_false (fun h => hno h.2)], ?_⟩
      rw [if_neg hno]
      exact IsZ.zero _
      intro c32
      refine cp_skip ?_
      refine cp_then ?_
      refine cp_seq ?_
      have hd9 := bt_lt s (i + k)
      obtain ⟨hc1, hc2, hc3⟩ := chunkH_lt (i := k) (v := u) (d := bt s (i + k) - 48) (by omega) hul (by omega)
      refine cp_region ?_
      refine zM rfl hst rfl ?_
      refine stepK_d rfl rfl rfl hst (Does.nat (b := u * 10) (does_mul_u32 (b := 10) rfl rfl rfl) (by rw [Nat.mod_eq_of_lt (by omega)])) ?_
      refine zM rfl hst rfl ?_
      refine zM rfl hst rfl ?_
      refine stepK_d rfl rfl rfl hst (does_index_bt (j := (i + k)) rfl (by kernel_rfl) rfl rfl (by omega) (by omega)) ?_
      refine stepK_d rfl rfl rfl hst (Does.nat (b := bt s (i + k) - 48) (does_sub_u8 (b := 48) rfl rfl rfl) (by omega)) ?_
      refine stepK_d rfl rfl rfl hst (Does.nat (b := bt s (i + k) - 48) (does_conv_n_u32 rfl (by kernel_rfl) (by kernel_rfl) rfl) (by rw [Nat.mod_eq_of_lt (by omega)])) ?_
      refine stepK_d rfl rfl rfl hst (Does.nat (b := u * 10 + (bt s (i + k) - 48)) (does_add_u32 rfl rfl rfl) (by rw [Nat.mod_eq_of_lt hc2])) ?_
      refine zM rfl hst rfl ?_
      refine stepK_d rfl rfl rfl hst (Does.nat (b := 10 ^ (k + 1)) (does_mul_u32 (b := 10) rfl rfl rfl) (by rw [← Nat.pow_succ, Nat.mod_eq_of_lt hc3])) ?_
      refine zA rfl hst rfl ?_
      refine zA rfl hst rfl ?_
      refine zn3 ?_
      refine zM rfl hst rfl ?_
      refine stepK_d rfl rfl rfl hst (Does.int (does_add rfl rfl rfl) (wrap_i64 (by omega) (by omega))) ?_
      refine zA rfl hst rfl ?_
      refine wpK_nil ?_
      refine at_block_normal ?_
      refine cp_then ?_
      refine cp_region ?_
      refine zM rfl hst rfl ?_
      refine stepK_d rfl rfl rfl hst (Does.int (does_add rfl rfl rfl) (wrap_i64 (by omega) (by omega))) ?_
      refine zA rfl hst rfl ?_
      refine wpK_nil ?_
      refine round_end ((k + 1, u * 10 + (bt s (i + k) - 48))) ?_ ?_ ?_
      exact ⟨rfl, rfl, rfl, kint (by omega), rfl, rfl, kint (by omega), trivial⟩
      exact ⟨hst, by omega, by omega, hc1, fun j h => by
        rcases Nat.lt_or_ge j (i + k) with h9 | h9
        exact hdk j h9
        obtain rfl : j = i + k := by omega
        omega, chunkH_step hkv⟩
      show 9 - (k + 1) < 9 - k
      omega
      intro c20
      refine cp_exit ?_
      refine at_then_exit ?_
      refine at_then_exit ?_
      refine cp_exit_here ?_
      refine cp_then ?_
      have hk0 : 0 < k := by
        rcases Nat.eq_zero_or_pos k with h | h
        subst h
        omega
        exact h
      have hpk : 10 ^ k ≤ 10 ^ 9 := Nat.pow_le_pow_right (by decide) hk9
      have hpk0 : 0 < 10 ^ k := Nat.pow_pos (by decide)
      have hp9 : (10 : Nat) ^ 9 = 1000000000 := by decide
      refine cp_region ?_
      refine zM rfl hst rfl ?_
      refine zM rfl hst rfl ?_
      refine stepK_buildSlice rfl rfl rfl rfl zf80 zf84 rfl rfl (by decide) (by decide) (by decide) rfl rfl hst ?_
      clear hst
      intro bf w6 hst
      obtain ⟨g9, hst, hle9, hf⟩ := hst.litH (x := 10 ^ k) (by omega) (by omega)
      replace hX := hX.mono hle9
      refine stepK_call rfl rfl rfl rfl rfl hst (snum_mulMag hst.agree hX hf (by omega) (by omega)) ?_
      clear hst
      intro v7 g7 w7 hst hle7 hcs7 hp7
      replace hX := hX.mono hle7
      obtain ⟨A3, n3, c3, rfl, hM3⟩ := hp7
      have hn3 : n3 ≤ i + 1 := hM3.len (by
        have h7 := dval_fitH hdg
        have h8 : 10 ^ i ≤ 4294967296 ^ i := Nat.pow_le_pow_left (by decide) i
        rw [Nat.pow_succ]
        exact Nat.mul_lt_mul'' (by omega) (by omega))
      refine zM rfl hst rfl ?_
      refine stepK_buildSlice rfl rfl rfl rfl zf80 zf84 rfl rfl (by decide) (by decide) (by decide) rfl rfl hst ?_
      clear hst
      intro bg w8 hst
      obtain ⟨hst, hleb⟩ := hst.publish 1 rfl
      replace hst : St w [] g _ [(bo, .cells #[.bool false, .slice none 0 0] 31 (0, 0))] _ := hst
      replace hM3 := hM3.mono hleb
      replace hX := hX.mono hleb
      refine stepK_call rfl rfl rfl rfl rfl hst (snum_trim hst.agree (ws := [u]) (SlN.put_uN (ws := [u])) (HWords.cons (by omega) HWords.nil) (by decide) (by decide)) ?_
      clear hst
      intro v9 g9 w9 hst hle9 hcs9 hp9
      replace hX := hX.mono hle9
      replace hM3 := hM3.mono hle9
      obtain ⟨A4, n4, c4, rfl, hT4⟩ := hp9
      have hv4 : hval [u] = u := by simp [hval]
      rw [hv4] at hT4
      have hn4 : n4 ≤ 1 := hT4.len (by rw [Nat.pow_one]; omega)
      refine stepK_call rfl rfl rfl rfl rfl hst (snum_addMag hst.agree hM3 hT4 (by omega) (by omega)) ?_
      clear hst
      intro v10 g10 w10 hst hle10 hcs10 hp10
      replace hX := hX.mono hle10
      replace hM3 := hM3.mono hle10
      replace hT4 := hT4.mono hle10
      obtain ⟨A5, n5, c5, rfl, hS5⟩ := hp10
      refine zA rfl hst rfl ?_
      refine wpK_nil ?_
      refine at_block_normal ?_
      refine round_end ((i + k, A5, n5, c5)) ?_ ?_ ?_
      exact ⟨rfl, rfl, rfl, rfl, trivial⟩
      exact ⟨_, hst, by rw [← hkv]; exact hS5, hik, hdk⟩
      show s.size - (i + k) < s.size - i
      omega
      intro s15
      refine stepK_pass rfl rfl rfl rfl rfl rfl rfl ?_
      refine stepK_pass rfl rfl rfl rfl rfl rfl rfl ?_
      refine stepK_pass rfl rfl rfl rfl rfl rfl rfl ?_
      refine stepK_pass rfl rfl rfl rfl rfl rfl rfl ?_
      refine stepK_d rfl rfl rfl hst (does_pick_false rfl rfl rfl) ?_
      refine znt ?_
      refine cp_cond_false rfl ?_
      refine cp_exit ?_
      refine at_then_exit ?_
      refine at_then_exit ?_
      refine cp_exit_here ?_
      refine cp_then ?_
      have hk0 : 0 < k := by
        rcases Nat.eq_zero_or_pos k with h | h
        subst h
        omega
        exact h
      have hpk : 10 ^ k ≤ 10 ^ 9 := Nat.pow_le_pow_right (by decide) hk9
      have hpk0 : 0 < 10 ^ k := Nat.pow_pos (by decide)
      have hp9 : (10 : Nat) ^ 9 = 1000000000 := by decide
      refine cp_region ?_
      refine zM rfl hst rfl ?_
      refine zM rfl hst rfl ?_
      refine stepK_buildSlice rfl rfl rfl rfl zf80 zf84 rfl rfl (by decide) (by decide) (by decide) rfl rfl hst ?_
      clear hst
      intro bf w11 hst
      obtain ⟨g9, hst, hle9, hf⟩ := hst.litH (x := 10 ^ k) (by omega) (by omega)
      replace hX := hX.mono hle9
      refine stepK_call rfl rfl rfl rfl rfl hst (snum_mulMag hst.agree hX hf (by omega) (by omega)) ?_
      clear hst
      intro v12 g12 w12 hst hle12 hcs12 hp12
      replace hX := hX.mono hle12
      obtain ⟨A3, n3, c3, rfl, hM3⟩ := hp12
      have hn3 : n3 ≤ i + 1 := hM3.len (by
        have h7 := dval_fitH hdg
        have h8 : 10 ^ i ≤ 4294967296 ^ i := Nat.pow_le_pow_left (by decide) i
        rw [Nat.pow_succ]
        exact Nat.mul_lt_mul'' (by omega) (by omega))
      refine zM rfl hst rfl ?_
      refine stepK_buildSlice rfl rfl rfl rfl zf80 zf84 rfl rfl (by decide) (by decide) (by decide) rfl rfl hst ?_
      clear hst
      intro bg w13 hst
      obtain ⟨hst, hleb⟩ := hst.publish 1 rfl
      replace hst : St w [] g _ [(bo, .cells #[.bool false, .slice none 0 0] 31 (0, 0))] _ := hst
      replace hM3 := hM3.mono hleb
      replace hX := hX.mono hleb
      refine stepK_call rfl rfl rfl rfl rfl hst (snum_trim hst.agree (ws := [u]) (SlN.put_uN (ws := [u])) (HWords.cons (by omega) HWords.nil) (by decide) (by decide)) ?_
      clear hst
      intro v14 g14 w14 hst hle14 hcs14 hp14
      replace hX := hX.mono hle14
      replace hM3 := hM3.mono hle14
      obtain ⟨A4, n4, c4, rfl, hT4⟩ := hp14
      have hv4 : hval [u] = u := by simp [hval]
      rw [hv4] at hT4
      have hn4 : n4 ≤ 1 := hT4.len (by rw [Nat.pow_one]; omega)
      refine stepK_call rfl rfl rfl rfl rfl hst (snum_addMag hst.agree hM3 hT4 (by omega) (by omega)) ?_
      clear hst
      intro v15 g15 w15 hst hle15 hcs15 hp15
      replace hX := hX.mono hle15
      replace hM3 := hM3.mono hle15
      replace hT4 := hT4.mono hle15
      obtain ⟨A5, n5, c5, rfl, hS5⟩ := hp15
      refine zA rfl hst rfl ?_
      refine wpK_nil ?_
      refine at_block_normal ?_
      refine round_end ((i + k, A5, n5, c5)) ?_ ?_ ?_
      exact ⟨rfl, rfl, rfl, rfl, trivial⟩
      exact ⟨_, hst, by rw [← hkv]; exact hS5, hik, hdk⟩
      show s.size - (i + k) < s.size - i
      omega
    intro c12
    refine cp_exit ?_
    refine at_then_exit ?_
    refine at_then_exit ?_
    refine cp_exit_here ?_
    refine cp_then ?_
    refine cp_seq ?_
    obtain rfl : s.size = i := by omega
    have hall : AllDig s := fun j h => hdg j h
    refine cp_region ?_
    refine zM rfl hst rfl ?_
    refine stepK_call rfl rfl rfl rfl rfl hst (snum_make1 (sn := false) hst.agree hX) ?_
    clear hst
    intro v16 g16 w16 hst hle16 hcs16 hp16
    replace hX := hX.mono hle16
    obtain ⟨_, _, _, _, rfl, hz9⟩ := hp16
    refine zM rfl hst rfl ?_
    refine stepK_d rfl rfl rfl hst (Does.bool (does_neq_string rfl rfl rfl) (ne_empty_iff (s := s))) ?_
    refine stepK_store 0 rfl rfl rfl rfl rfl rfl zf93 rfl rfl hst rfl (by first | (simp [uN_length]; omega) | simp) ?_
    clear hst
    intro w17 hst
    simp only [zL, splice, Nat.reduceAdd] at hst
    refine zA rfl hst rfl ?_
    refine znt ?_
    refine cp_ret ?_
    refine ret2c (k := 0) rfl rfl (by kernel_rfl) (by kernel_rfl) rfl rfl hst rfl ?_
    refine ⟨_, _, _, _, by rw [show decide (0 < s.size) = decide (0 < s.size ∧ AllDig s) from decide_eq_decide.2 ⟨fun h => ⟨h, hall⟩, fun h => h.1⟩], ?_⟩
    rw [if_pos hall, ← dval_all]
    exact hz9

end Go.Proofs.YtcjhnkmoloiepaaGreatDoor

namespace Go.Proofs.YtcjhnkmoloiepaaGreatDoor
open Go Go.RowKit Go.Proofs.Vc
set_option linter.unusedVariables false
set_option linter.unusedSimpArgs false

set_option maxHeartbeats 1000000 in
theorem snum_Text {g : Mem} {w : World} (hag : Agree g w) {na nb : Bool} {A B : Option Addr} {n c m d : Nat} {r : Rat} (ha : IsQ g na A n nb B m r) (hfa : FitH r) :
    CallTo Tryz.prog 16 #[.agg #[.bool na, .slice A n c, .bool nb, .slice B m d]] w (Ret w g fun v g => v = .string (ratS r)) := by
  refine CallTo.enter (vs := [.agg #[.bool na, .slice A n c, .bool nb, .slice B m d]]) zf118 (by kernel_rfl) rfl rfl rfl ?_
  have hst := St.init hag
  have l1 := ha.1.len hfa.1
  have k1 := len_bigH hfa.1 (by decide)
  have k2 := len_bigH hfa.2 (by decide)
  refine zsr ?_
  refine stepK_box rfl rfl rfl rfl rfl rfl hst ?_
  clear hst
  intro bx w1 hst
  refine zA rfl hst rfl ?_
  refine zn4 ?_
  refine stepK_d rfl rfl rfl hst (does_fieldAddr rfl zf119 rfl) ?_
  refine stepK_d rfl rfl rfl hst (does_load_ownN 0 rfl (by kernel_rfl) zf93 rfl rfl rfl) ?_
  refine stepK_call rfl rfl rfl rfl rfl hst (snum_Digits hst.agree ha.1 (by omega)) ?_
  clear hst
  intro v2 g2 w2 hst hle2 hcs2 hp2
  replace ha := ha.mono hle2
  obtain rfl := hp2
  refine zA rfl hst rfl ?_
  refine znt ?_
  refine cp_join (ι := List UInt8) (fun u => [(1, .pointer (some ⟨bx, 0, none⟩)), (3, .string ⟨u.toArray⟩)]) (fun u w2 => ∃ g2, St w [] g g2 [(bx, .cells #[.bool na, .slice A n c, .bool nb, .slice B m d] 33 (0, 0))] w2 ∧ IsQ g2 na A n nb B m r ∧ u = (if r.num < 0 then 45 :: Lib.decDigits r.num.natAbs else Lib.decDigits r.num.natAbs)) ?c3 ?d3
  case c3 =>
    refine zsr ?_
    refine stepK_d rfl rfl rfl hst (does_fieldAddr rfl zf119 rfl) ?_
    refine stepK_d rfl rfl rfl hst (does_fieldAddr rfl zf96 rfl) ?_
    refine stepK_d rfl rfl rfl hst (does_load_ownL 0 rfl (by kernel_rfl) rfl rfl rfl) ?_
    refine znt ?_
    refine cp_cond rfl ?_ ?_
    intro c9
    refine cp_region ?_
    refine zM rfl hst rfl ?_
    refine stepK_d rfl rfl rfl hst (does_add_L (a := [45]) rfl rfl rfl (by simp; omega)) ?_
    refine zA rfl hst rfl ?_
    refine wpK_nil ?_
    have hneg : r.num < 0 := of_decide_eq_true (ha.1.2.symm.trans c9)
    refine join_end (45 :: Lib.decDigits r.num.natAbs) ?_ ?_
    exact ⟨rfl, rfl, trivial⟩
    exact ⟨_, hst, ha, (if_pos hneg).symm⟩
    intro c9
    refine cp_skip ?_
    have hneg : ¬ r.num < 0 := of_decide_eq_false (ha.1.2.symm.trans c9)
    refine join_end (Lib.decDigits r.num.natAbs) ?_ ?_
    exact ⟨rfl, rfl, trivial⟩
    exact ⟨_, hst, ha, (if_neg hneg).symm⟩
  case d3 =>
    clear hst
    clear ha
    rintro u w2 ⟨g2, hst, ha, hu⟩
    have hul : u.length ≤ 10 * 1099511627776 + 1 := by rw [hu]; split <;> simp <;> omega
    refine cp_seq ?_
    refine zsr ?_
    refine stepK_d rfl rfl rfl hst (does_fieldAddr rfl zf107 rfl) ?_
    refine stepK_d rfl rfl rfl hst (does_fieldAddr rfl zf97 rfl) ?_
    refine stepK_d rfl rfl rfl hst (does_load_ownL 0 rfl (by kernel_rfl) rfl rfl rfl) ?_
    refine stepK_d rfl rfl rfl hst (does_len_slice rfl zf80 rfl) ?_
    refine stepK_d rfl rfl rfl hst (does_gtr rfl rfl rfl) ?_
    refine znt ?_
    refine cp_if rfl ?_ ?_
    intro c16
    have hd := ha.denZ (by omega)
    have hd1 : r.den ≠ 1 := fun e => by have := ha.den1.2 e; omega
    have l2 := hd.len hfa.2
    refine cp_region ?_
    refine zM rfl hst rfl ?_
    refine stepK_d rfl rfl rfl hst (does_fieldAddr rfl zf107 rfl) ?_
    refine stepK_d rfl rfl rfl hst (does_load_ownN 0 rfl (by kernel_rfl) zf93 rfl rfl rfl) ?_
    refine stepK_call rfl rfl rfl rfl rfl hst (snum_Digits hst.agree hd (by omega)) ?_
    clear hst
    intro v4 g4 w4 hst hle4 hcs4 hp4
    replace ha := ha.mono hle4
    obtain rfl := hp4
    rw [Int.natAbs_natCast] at *
    refine stepK_d rfl rfl rfl hst (does_add_L (a := [47]) rfl rfl rfl (by simp; omega)) ?_
    refine stepK_d rfl rfl rfl hst (does_add_L rfl rfl rfl (by simp; omega)) ?_
    refine zA rfl hst rfl ?_
    refine zn4 ?_
    refine zM rfl hst rfl ?_
    refine zA rfl hst rfl ?_
    refine znt ?_
    refine cp_ret ?_
    refine ret1 rfl rfl hst ?_
    exact congrArg Value.string (ratS_of (by rw [ratL_cut, if_neg hd1, hu]; rfl))
    intro c16
    have hd1 : r.den = 1 := ha.den1.1 (by omega)
    refine zk4 ?_
    refine zM rfl hst rfl ?_
    refine zA rfl hst rfl ?_
    refine znt ?_
    refine cp_ret ?_
    refine ret1 rfl rfl hst ?_
    exact congrArg Value.string (ratS_of (by rw [ratL_cut, if_pos hd1, hu, List.append_nil]))

end Go.Proofs.YtcjhnkmoloiepaaGreatDoor

namespace Go.Proofs.YtcjhnkmoloiepaaGreatDoor
open Go Go.RowKit Go.Proofs.Vc
set_option linter.unusedVariables false
set_option linter.unusedSimpArgs false

set_option maxHeartbeats 4000000 in
theorem snum_Read {g : Mem} {w : World} (hag : Agree g w) {s : ByteArray} (hs : s.size < 1099511627776) :
    CallTo Tryz.prog 52 #[.string s] w (Ret w g fun v g => ∃ na A n c nb B m d ok ρ, v = .tuple #[.agg #[.bool na, .slice A n c, .bool nb, .slice B m d], .bool ok] ∧ IsQ g na A n nb B m ρ ∧ (ok = true → readR s = some ρ) ∧ (ok = false → readR s = none)) := by
  refine CallTo.enter (vs := [.string s]) zf120 (by kernel_rfl) rfl rfl rfl ?_
  have hst := St.init hag
  refine zsr ?_
  refine stepK_alloc rfl rfl rfl rfl zf111 rfl hst ?_
  clear hst
  intro bo w1 hst
  refine zA rfl hst rfl ?_
  refine zn4 ?_
  refine zM rfl hst rfl ?_
  refine zA rfl hst rfl ?_
  refine znt ?_
  refine cp_join (ι := Bool) (fun nb0 => [(0, .string s), (2, .pointer (some ⟨bo, 0, none⟩)), (4, .string s), (5, .bool nb0)]) (fun nb0 w2 => St w [] g g [(bo, .cells #[.bool false, .slice none 0 0, .bool false, .slice none 0 0] 33 (0, 0))] w2 ∧ nb0 = decide (0 < s.size ∧ bt s 0 = 45)) ?c2 ?d2
  case c2 =>
    refine cp_region ?_
    refine zM rfl hst rfl ?_
    refine stepK_d rfl rfl rfl hst (does_len_string rfl (by kernel_rfl) rfl) ?_
    refine stepK_d rfl rfl rfl hst (does_gtr rfl rfl rfl) ?_
    refine zM rfl hst rfl ?_
    refine wpK_split (t := 17) rfl ?_ ?_
    intro s17
    refine stepK_guard rfl rfl rfl rfl rfl rfl hst (does_move rfl rfl) ?_
    refine stepK_guard rfl rfl rfl rfl rfl rfl hst (does_index_bt (j := 0) rfl (by kernel_rfl) rfl rfl (by omega) (by omega)) ?_
    refine stepK_guard rfl rfl rfl rfl rfl rfl hst (does_eql_n (b := 45) rfl rfl rfl) ?_
    refine stepK_d rfl rfl rfl hst (does_pick_true rfl rfl rfl) ?_
    refine zA rfl hst rfl ?_
    refine wpK_nil ?_
    refine join_end (decide (bt s 0 = 45)) ?_ ?_
    exact ⟨rfl, rfl, rfl, rfl, trivial⟩
    exact ⟨hst, decide_eq_decide.2 ⟨fun h => ⟨by omega, h⟩, fun h => h.2⟩⟩
    intro s17
    refine stepK_pass rfl rfl rfl rfl rfl rfl rfl ?_
    refine stepK_pass rfl rfl rfl rfl rfl rfl rfl ?_
    refine stepK_pass rfl rfl rfl rfl rfl rfl rfl ?_
    refine stepK_d rfl rfl rfl hst (does_pick_false rfl rfl rfl) ?_
    refine zA rfl hst rfl ?_
    refine wpK_nil ?_
    refine join_end (false) ?_ ?_
    exact ⟨rfl, rfl, rfl, rfl, trivial⟩
    exact ⟨hst, (decide_eq_false fun h => by omega).symm⟩
  case d2 =>
    clear hst
    rintro nb0 w2 ⟨hst, hnb⟩
    refine cp_join (ι := Bool × ByteArray) (fun (neg, t) => [(0, .string s), (2, .pointer (some ⟨bo, 0, none⟩)), (4, .string t), (5, .bool neg)]) (fun (neg, t) w2 => St w [] g g [(bo, .cells #[.bool false, .slice none 0 0, .bool false, .slice none 0 0] 33 (0, 0))] w2 ∧ SignCut s neg t) ?c3 ?d3
    case c3 =>
      refine zsr ?_
      refine zM rfl hst rfl ?_
      refine znt ?_
      refine cp_cond rfl ?_ ?_
      intro c22
      have hyes : 0 < s.size ∧ bt s 0 = 45 := of_decide_eq_true (hnb.symm.trans c22)
      have hy1 := hyes.1
      refine cp_region ?_
      refine zM rfl hst rfl ?_
      refine stepK_d rfl rfl rfl hst (does_slice_string (l := 1) (h := s.size) rfl (by kernel_rfl) rfl ⟨_, _, rfl, rfl⟩ rfl (by omega) (Nat.le_refl _)) ?_
      refine zA rfl hst rfl ?_
      refine wpK_nil ?_
      refine join_end ((true, s.extract 1 s.size)) ?_ ?_
      exact ⟨rfl, rfl, rfl, by rw [← c22]; rfl, trivial⟩
      exact ⟨hst, signCut_yes hyes.1 hyes.2⟩
      intro c22
      refine cp_skip ?_
      refine join_end ((false, s)) ?_ ?_
      exact ⟨rfl, rfl, rfl, by rw [← c22]; rfl, trivial⟩
      exact ⟨hst, signCut_no (of_decide_eq_false (hnb.symm.trans c22))⟩
    case d3 =>
      clear hst
      clear hnb
      rintro ⟨neg, t⟩ w2 ⟨hst, hcut⟩
      have hts := hcut.1
      refine zsr ?_
      refine zM rfl hst rfl ?_
      refine stepK_d rfl rfl rfl hst (does_len_string rfl (by kernel_rfl) rfl) ?_
      refine zA rfl hst rfl ?_
      refine znt ?_
      refine cp_join (ι := Nat) (fun a => [(0, .string s), (2, .pointer (some ⟨bo, 0, none⟩)), (4, .string t), (5, .bool neg), (6, .int .i64 (a : Int))]) (fun a w2 => St w [] g g [(bo, .cells #[.bool false, .slice none 0 0, .bool false, .slice none 0 0] 33 (0, 0))] w2 ∧ a ≤ t.size ∧ (a < t.size → bt t a = 47) ∧ ∀ j, j < a → bt t j ≠ 47) ?c4 ?d4
      case c4 =>
        refine zsr ?_
        refine zA rfl hst rfl ?_
        refine znt ?_
        refine cp_block ?_
        refine cp_loop (ι := Nat) (fun i => [(0, .string s), (2, .pointer (some ⟨bo, 0, none⟩)), (4, .string t), (5, .bool neg), (6, .int .i64 (t.size : Int)), (7, .int .i64 (i : Int))]) (fun i w1 => St w [] g g [(bo, .cells #[.bool false, .slice none 0 0, .bool false, .slice none 0 0] 33 (0, 0))] w1 ∧ i ≤ t.size ∧ ∀ j, j < i → bt t j ≠ 47) (fun i => t.size - i) 0 ?k5 ?i5 ?r5
        case k5 => exact ⟨rfl, rfl, rfl, rfl, rfl, rfl, trivial⟩
        case i5 =>
          exact ⟨hst, Nat.zero_le _, fun j h => absurd h (Nat.not_lt_zero _)⟩
        case r5 =>
          clear hst
          rintro i w1 ⟨hst, hi, hno⟩
          refine cp_seq ?_
          refine zsr ?_
          refine zM rfl hst rfl ?_
          refine zM rfl hst rfl ?_
          refine stepK_d rfl rfl rfl hst (does_len_string rfl (by kernel_rfl) rfl) ?_
          refine stepK_d rfl rfl rfl hst (does_lss rfl rfl rfl) ?_
          refine znt ?_
          refine cp_if rfl ?_ ?_
          intro c30
          refine cp_skip ?_
          refine cp_then ?_
          refine cp_seq ?_
          refine cp_block ?_
          refine zsr ?_
          refine zM rfl hst rfl ?_
          refine zM rfl hst rfl ?_
          refine stepK_d rfl rfl rfl hst (does_index_bt rfl (by kernel_rfl) rfl rfl rfl (by omega)) ?_
          refine stepK_d rfl rfl rfl hst (does_eql_n (b := 47) rfl rfl rfl) ?_
          refine znt ?_
          refine cp_if rfl ?_ ?_
          intro c36
          refine zsr ?_
          refine zM rfl hst rfl ?_
          refine zA rfl hst rfl ?_
          refine znt ?_
          refine cp_exit ?_
          refine cp_exit_on (by decide) ?_
          refine at_then_exit ?_
          refine at_then_exit ?_
          refine cp_exit_here ?_
          refine join_end (i) ?_ ?_
          exact ⟨rfl, rfl, rfl, rfl, rfl, trivial⟩
          exact ⟨hst, hi, fun _ => by omega, hno⟩
          intro c36
          refine cp_skip ?_
          refine at_block_normal ?_
          refine cp_then ?_
          refine cp_region ?_
          refine zM rfl hst rfl ?_
          refine stepK_d rfl rfl rfl hst (Does.int (does_add rfl rfl rfl) (wrap_i64 (by omega) (by omega))) ?_
          refine zA rfl hst rfl ?_
          refine wpK_nil ?_
          refine round_end (i + 1) ?_ ?_ ?_
          exact ⟨rfl, rfl, rfl, rfl, rfl, rfl, trivial⟩
          exact ⟨hst, by omega, fun j h => by
            rcases Nat.lt_or_ge j i with h9 | h9
            exact hno j h9
            obtain rfl : j = i := by omega
            omega⟩
          omega
          intro c30
          refine cp_exit ?_
          refine at_then_exit ?_
          refine at_then_exit ?_
          refine cp_exit_here ?_
          refine join_end (t.size) ?_ ?_
          exact ⟨rfl, rfl, rfl, rfl, rfl, trivial⟩
          exact ⟨hst, Nat.le_refl _, fun h => absurd h (Nat.lt_irrefl _), fun j h => hno j (by omega)⟩
      case d4 =>
        clear hst
        rintro a w2 ⟨hst, ha, h47, hno⟩
        have htsz : (t.extract 0 a).size = a := by rw [ByteArray.size_extract]; omega
        refine zsr ?_
        refine zM rfl hst rfl ?_
        refine zM rfl hst rfl ?_
        refine stepK_d rfl rfl rfl hst (does_slice_string (l := 0) (h := a) rfl (by kernel_rfl) rfl rfl ⟨_, _, rfl, rfl⟩ (by omega) (by omega)) ?_
        refine stepK_call rfl rfl rfl rfl rfl hst (snum_FromDigits hst.agree (by omega)) ?_
        clear hst
        intro v6 g6 w6 hst hle6 hcs6 hp6
        obtain ⟨nn, An, ln, cn, rfl, hz⟩ := hp6
        refine zM rfl hst rfl ?_
        refine zE rfl hst rfl rfl ?_
        refine zE rfl hst rfl rfl ?_
        refine stepK_alloc rfl rfl rfl rfl zf91 rfl hst ?_
        clear hst
        intro b8 w7 hst
        refine stepK_store 1 rfl rfl rfl rfl rfl rfl zf93 rfl rfl hst rfl (by first | (simp [uN_length]; omega) | simp) ?_
        clear hst
        intro w8 hst
        simp only [zL, splice, Nat.reduceAdd] at hst
        refine zA rfl hst rfl ?_
        refine znq ?_
        refine zsr ?_
        refine zM rfl hst rfl ?_
        refine stepK_d rfl rfl rfl hst (does_not rfl rfl) ?_
        refine znt ?_
        refine cp_cond rfl ?_ ?_
        intro c46
        have hbad : ¬ (0 < (t.extract 0 a).size ∧ AllDig (t.extract 0 a)) := dec_no c46
        refine zsr ?_
        refine stepK_d rfl rfl rfl hst (does_build rfl zf112 rfl rfl) ?_
        refine stepK_store 0 rfl rfl rfl rfl rfl rfl zf109 rfl rfl hst rfl (by first | (simp [uN_length]; omega) | simp) ?_
        clear hst
        intro w9 hst
        simp only [zL, splice, Nat.reduceAdd] at hst
        refine zA rfl hst rfl ?_
        refine zn5 ?_
        refine ret2c (k := 0) rfl rfl (by kernel_rfl) (by kernel_rfl) rfl rfl hst rfl ?_
        exact ⟨_, _, _, _, _, _, _, _, _, _, rfl, IsQ.zero _, (fun e => by cases e), fun _ => read_bad hcut ha h47 hno hbad⟩
        intro c46
        have hgood : 0 < (t.extract 0 a).size ∧ AllDig (t.extract 0 a) := dec_of c46
        rw [if_pos hgood.2] at hz
        have hN := dvL_size (k := s.size) hgood.2 (by omega)
        have hlt10 : 10 ^ s.size ≤ 4294967296 ^ s.size := Nat.pow_le_pow_left (by decide) _
        refine zk4 ?_
        refine zM rfl hst rfl ?_
        refine stepK_d rfl rfl rfl hst (does_fieldAddr rfl zf97 rfl) ?_
        refine stepK_d rfl rfl rfl hst (does_load_ownL 1 rfl (by kernel_rfl) rfl rfl rfl) ?_
        refine stepK_call rfl rfl rfl rfl rfl hst (snum_make1 (sn := neg) hst.agree hz.1) ?_
        clear hst
        intro v10 g10 w10 hst hle10 hcs10 hp10
        replace hz := hz.mono hle10
        obtain ⟨na, A, n, c, rfl, hn⟩ := hp10
        rw [Int.natAbs_natCast] at hn
        have hnl : n ≤ s.size := hn.len (by rw [sg_natAbs]; exact Nat.lt_of_lt_of_le hN hlt10)
        refine stepK_d rfl rfl rfl hst (does_build rfl zf112 rfl rfl) ?_
        refine stepK_alloc rfl rfl rfl rfl zf111 rfl hst ?_
        clear hst
        intro b10 w11 hst
        refine stepK_store 2 rfl rfl rfl rfl rfl rfl zf109 rfl rfl hst rfl (by first | (simp [uN_length]; omega) | simp) ?_
        clear hst
        intro w12 hst
        simp only [zL, splice, Nat.reduceAdd] at hst
        refine znt ?_
        refine cp_join (ι := (Bool × Option Addr × Nat × Nat) × (Bool × Option Addr × Nat × Nat) × Rat) (fun ((na, A, n, c), (nb, B, m, d), ρ) => [(0, .string s), (2, .pointer (some ⟨bo, 0, none⟩)), (10, .pointer (some ⟨b10, 0, none⟩))]) (fun ((na, A, n, c), (nb, B, m, d), ρ) w3 => ∃ g3, St w [] g g3 [(bo, .cells #[.bool false, .slice none 0 0, .bool false, .slice none 0 0] 33 (0, 0)), (b8, .cells #[.bool nn, .slice An ln cn] 31 (0, 0)), (b10, .cells #[.bool na, .slice A n c, .bool nb, .slice B m d] 33 (0, 0))] w3 ∧ IsQ g3 na A n nb B m ρ ∧ Sz s.size ρ ∧ ∃ top bottom found, Cut (Lb s) neg top bottom found ∧ ρ = Rat.divInt (sg neg (dvL top)) (dvL bottom : Nat)) ?c13 ?d13
        case c13 =>
          refine zsr ?_
          refine zM rfl hst rfl ?_
          refine zM rfl hst rfl ?_
          refine stepK_d rfl rfl rfl hst (does_len_string rfl (by kernel_rfl) rfl) ?_
          refine stepK_d rfl rfl rfl hst (does_lss rfl rfl rfl) ?_
          refine znt ?_
          refine cp_if rfl ?_ ?_
          intro c56
          refine zsr ?_
          refine zM rfl hst rfl ?_
          refine zM rfl hst rfl ?_
          refine stepK_d rfl rfl rfl hst (Does.int (does_add rfl rfl rfl) (wrap_i64 (by omega) (by omega))) ?_
          refine stepK_d rfl rfl rfl hst (does_slice_string (l := a + 1) (h := t.size) rfl (by kernel_rfl) rfl ⟨_, _, rfl, by omega⟩ rfl (by omega) (Nat.le_refl _)) ?_
          have c56n : a < t.size := by omega
          have hfnd := hcut.found c56n (h47 c56n) hno
          refine stepK_call rfl rfl rfl rfl rfl hst (snum_FromDigits hst.agree (by rw [size_tail]; omega)) ?_
          clear hst
          intro v14 g14 w14 hst hle14 hcs14 hp14
          replace hz := hz.mono hle14
          replace hn := hn.mono hle14
          obtain ⟨n5, A5, l5, c5, rfl, h5⟩ := hp14
          refine zM rfl hst rfl ?_
          refine zE rfl hst rfl rfl ?_
          refine zE rfl hst rfl rfl ?_
          refine stepK_alloc rfl rfl rfl rfl zf91 rfl hst ?_
          clear hst
          intro b11 w15 hst
          refine stepK_store 3 rfl rfl rfl rfl rfl rfl zf93 rfl rfl hst rfl (by first | (simp [uN_length]; omega) | simp) ?_
          clear hst
          intro w16 hst
          simp only [zL, splice, Nat.reduceAdd] at hst
          refine zA rfl hst rfl ?_
          refine znq ?_
          refine zsr ?_
          refine zM rfl hst rfl ?_
          refine stepK_d rfl rfl rfl hst (does_not rfl rfl) ?_
          refine zM rfl hst rfl ?_
          refine wpK_splitb (t := 67) rfl ?_ ?_
          intro s67
          have hbad : ¬ (0 < (t.extract (a + 1) t.size).size ∧ AllDig (t.extract (a + 1) t.size)) := dec_no s67
          refine stepK_pass rfl rfl rfl rfl rfl rfl rfl ?_
          refine stepK_pass rfl rfl rfl rfl rfl rfl rfl ?_
          refine stepK_pass rfl rfl rfl rfl rfl rfl rfl ?_
          refine stepK_d rfl rfl rfl hst (does_pick_true rfl rfl rfl) ?_
          refine znt ?_
          refine cp_cond_true rfl ?_
          refine zsr ?_
          refine stepK_d rfl rfl rfl hst (does_build rfl zf112 rfl rfl) ?_
          refine stepK_store 0 rfl rfl rfl rfl rfl rfl zf109 rfl rfl hst rfl (by first | (simp [uN_length]; omega) | simp) ?_
          clear hst
          intro w17 hst
          simp only [zL, splice, Nat.reduceAdd] at hst
          refine zA rfl hst rfl ?_
          refine zn5 ?_
          refine at_then_ret ?_
          refine ret2c (k := 0) rfl rfl (by kernel_rfl) (by kernel_rfl) rfl rfl hst rfl ?_
          exact ⟨_, _, _, _, _, _, _, _, _, _, rfl, IsQ.zero _, (fun e => by cases e), fun _ => read_no hfnd (.inr (.inr ⟨rfl, (not_digits hbad).imp id .inl⟩))⟩
          intro s67
          have hgood5 : 0 < (t.extract (a + 1) t.size).size ∧ AllDig (t.extract (a + 1) t.size) := dec_of s67
          rw [if_pos hgood5.2] at h5
          have hD := dvL_size (k := s.size) hgood5.2 (by rw [size_tail]; omega)
          refine stepK_guard rfl rfl rfl rfl rfl rfl hst (does_load_ownN 3 rfl (by kernel_rfl) zf93 rfl rfl rfl) ?_
          refine stepK_call_guard rfl rfl rfl rfl rfl rfl rfl rfl hst (snum_Sign hst.agree h5) ?_
          clear hst
          intro v18 g18 w18 hst hle18 hcs18 hp18
          replace hz := hz.mono hle18
          replace hn := hn.mono hle18
          replace h5 := h5.mono hle18
          obtain rfl := hp18
          refine stepK_guard rfl rfl rfl rfl rfl rfl hst (does_eql rfl rfl rfl) ?_
          refine stepK_d rfl rfl rfl hst (does_pick_false rfl rfl rfl) ?_
          refine znt ?_
          refine cp_if rfl ?_ ?_
          intro c71
          refine zsr ?_
          refine stepK_d rfl rfl rfl hst (does_build rfl zf112 rfl rfl) ?_
          refine stepK_store 0 rfl rfl rfl rfl rfl rfl zf109 rfl rfl hst rfl (by first | (simp [uN_length]; omega) | simp) ?_
          clear hst
          intro w19 hst
          simp only [zL, splice, Nat.reduceAdd] at hst
          refine zA rfl hst rfl ?_
          refine zn5 ?_
          refine at_then_ret ?_
          refine ret2c (k := 0) rfl rfl (by kernel_rfl) (by kernel_rfl) rfl rfl hst rfl ?_
          exact ⟨_, _, _, _, _, _, _, _, _, _, rfl, IsQ.zero _, (fun e => by cases e), fun _ => read_no hfnd (.inr (.inr ⟨rfl, .inr (.inr (by have := Int.sign_eq_zero_iff_zero.1 c71; omega))⟩))⟩
          intro c71
          have hD0 : dvL (Lb (t.extract (a + 1) t.size)) ≠ 0 := fun e => c71 (by rw [e]; rfl)
          have hdl := h5.len (k := s.size) (by rw [Int.natAbs_natCast]; exact Nat.lt_of_lt_of_le hD hlt10)
          refine cp_skip ?_
          refine cp_then ?_
          refine cp_region ?_
          refine stepK_d rfl rfl rfl hst (does_fieldAddr rfl zf119 rfl) ?_
          refine stepK_d rfl rfl rfl hst (does_load_ownN 2 rfl (by kernel_rfl) zf93 rfl rfl rfl) ?_
          refine stepK_d rfl rfl rfl hst (does_load_ownN 3 rfl (by kernel_rfl) zf93 rfl rfl rfl) ?_
          refine stepK_call rfl rfl rfl rfl rfl hst (snum_Frac hst.agree hn h5 (by omega) (by omega) (by omega)) ?_
          clear hst
          intro v20 g20 w20 hst hle20 hcs20 hp20
          replace hz := hz.mono hle20
          replace hn := hn.mono hle20
          replace h5 := h5.mono hle20
          obtain ⟨na, A, n, c, nb, B, m, d, rfl, hq⟩ := hp20
          refine stepK_store 2 rfl rfl rfl rfl rfl rfl zf109 rfl rfl hst rfl (by first | (simp [uN_length]; omega) | simp) ?_
          clear hst
          intro w21 hst
          simp only [zL, splice, Nat.reduceAdd] at hst
          refine wpK_nil ?_
          refine join_end (((na, A, n, c), (nb, B, m, d), Rat.divInt (sg neg (dvL (Lb (t.extract 0 a)))) (dvL (Lb (t.extract (a + 1) t.size)) : Nat))) ?_ ?_
          exact ⟨rfl, rfl, rfl, trivial⟩
          exact ⟨_, hst.weaken _ (List.sublist_append_left [_, _, _] [_]), hq, read_size hN hD hD0, _, _, _, hfnd, rfl⟩
          intro c56
          refine cp_skip ?_
          obtain rfl : a = t.size := by omega
          refine join_end (((na, A, n, c), (false, none, 0, 0), Rat.divInt (sg neg (dvL (Lb (t.extract 0 t.size)))) (dvL [49] : Nat))) ?_ ?_
          exact ⟨rfl, rfl, rfl, trivial⟩
          exact ⟨_, hst, IsQ.frac1 hn rfl, read_size hN (by rw [dvL_one]; exact Nat.lt_of_lt_of_le (show 1 < 10 ^ 1 by decide) (Nat.pow_le_pow_right (by decide) (by omega))) (by rw [dvL_one]; decide), _, _, _, hcut.whole hno, rfl⟩
        case d13 =>
          clear hst
          rintro ⟨⟨na, A, n, c⟩, ⟨nb, B, m, d⟩, ρ⟩ w3 ⟨g3, hst, hq, hsz, top, bottom, found, hcc, hρ⟩
          obtain ⟨hyes9, hno9⟩ := read_yes hcc hρ
          simp only
          refine cp_seq ?_
          refine cp_drawnT (by kernel_rfl) 7 (.d 0 (.d 1 (.d 3 (.e 2 (.d 4 (.e 5 (.d 6 .fin) .no)) .no)))) _ rfl (by kernel_rfl) (by kernel_rfl) (by kernel_rfl) (fun _ _ _ _ _ h => h) _ (hst.drew.without 0) ?_
          have hst0 := (hst.drew.without 0)
          have hst9 := hst.drew
          clear hst
          have hst := hst9
          clear hst9
          refine stepT_d rfl rfl rfl rfl (does_load_ownN 1 rfl (by kernel_rfl) zf109 rfl rfl rfl) ?_
          refine stepT_d rfl rfl rfl rfl (does_load_ownN 1 rfl (by kernel_rfl) zf109 rfl rfl rfl) ?_
          refine stepT_d rfl rfl rfl rfl (does_move rfl rfl) ?_
          refine stepT_call rfl rfl rfl rfl rfl rfl hst0 hst (Mem.le.refl _) (by repeat (first | exact zR _ | apply zC | apply zD)) (snum_Text hst.agree hq (hsz.fitH (by omega))) ?_ ?_
          clear hst
          intro v22 g22 w22 hst hle22 hcs22 hp22
          have hlesum := hle22
          replace hq := hq.mono hle22
          obtain rfl := hp22
          refine stepT_d rfl rfl rfl rfl (does_eql_string rfl rfl rfl) ?_
          refine stepT_store 0 rfl rfl rfl rfl rfl rfl rfl zf109 rfl rfl hst0 hst rfl (by first | (simp [uN_length]; omega) | simp) hlesum (by repeat (first | exact zR _ | apply zC | apply zD)) ?_ ?_
          clear hst
          intro w23 hst
          simp only [zL, splice, Nat.reduceAdd] at hst
          refine stepT_d rfl rfl rfl rfl (does_assign rfl rfl) ?_
          refine stepT_tail ?_
          refine znt ?_
          refine cp_ret ?_
          refine ret2c (k := 0) rfl rfl (by kernel_rfl) (by kernel_rfl) rfl rfl hst rfl ?_
          exact ⟨_, _, _, _, _, _, _, _, _, _, rfl, hq, fun e => hyes9 (of_decide_eq_true e), fun e => hno9 (of_decide_eq_false e)⟩
          exact stepT_no
          exact stepT_no

end Go.Proofs.YtcjhnkmoloiepaaGreatDoor
