/- A helper of the claim: general lemmas and walks of functions, printed by a program of this session. Conditions: none. -/
import Derived.Test.YtbamjcfdlgnicaaGreatDoorF8
import Derived.Test.YtbamjcfdlgnicaaGreatDoorQ3
import Derived.Test.YtbamjcfdlgnicaaGreatDoorProg
import Derived.Test.YtbamjcfdlgnicaaGreatDoorF0
namespace Go.Proofs.YtbamjcfdlgnicaaGreatDoor
open Go Go.RowKit Go.Proofs.Vc
set_option linter.unusedVariables false
set_option linter.unusedSimpArgs false

set_option maxHeartbeats 1000000 in
theorem snum_ShiftP {g : Mem} {w : World} (hag : Agree g w) {na : Bool} {A : Option Addr} {n c : Nat} {x : Int} (ha : IsZ g na A n x) {k : Nat} (hn : n ≤ 8796093022206) (hk : k ≤ 281474976710656) :
    CallTo Tryz.prog 108 #[.agg #[.bool na, .slice A n c], .int .i64 (k : Int)] w (Ret w g fun v g => ∃ ng A n c, v = .agg #[.bool ng, .slice A n c] ∧ IsZ g ng A n (x * ((2 ^ k : Nat) : Int))) := by
  refine CallTo.enter (vs := [.agg #[.bool na, .slice A n c], .int .i64 (k : Int)]) zf140 (by kernel_rfl) rfl rfl rfl ?_
  have hst := St.init hag
  obtain ⟨q, hq⟩ : ∃ q, q = k / 32 := ⟨_, rfl⟩
  obtain ⟨e, he⟩ : ∃ e, e = k % 32 := ⟨_, rfl⟩
  refine zsr ?_
  refine stepK_box rfl rfl rfl rfl rfl rfl hst ?_
  clear hst
  intro bx w1 hst
  refine stepK_alloc rfl rfl rfl rfl zf101 rfl hst ?_
  clear hst
  intro bo w2 hst
  refine znq ?_
  refine zsr ?_
  refine zM rfl hst rfl ?_
  refine stepK_d rfl rfl rfl hst (Does.yes (does_geq rfl rfl rfl) (by omega)) ?_
  refine znt ?_
  refine cp_cond_true rfl ?_
  refine zsr ?_
  refine zM rfl hst rfl ?_
  refine stepK_d rfl rfl rfl hst (Does.nat (b := q) (does_quo_p (b := 32) rfl rfl rfl (by omega) (by omega)) (by rw [hq])) ?_
  refine stepK_make rfl rfl rfl (l := q) (c := q) rfl zf90 zf94 rfl rfl rfl rfl rfl rfl (by omega) (by omega) (by omega) hst ?_
  clear hst
  intro bq w3 hst
  rw [uN_rep] at hst
  refine zA rfl hst rfl ?_
  refine znq ?_
  refine cp_drawn (by kernel_rfl) 12 [(0, true), (1, true), (2, true), (3, true), (4, true), (5, true), (6, true), (7, true), (8, false), (9, false), (10, false), (11, false)] _ rfl (by kernel_rfl) (by kernel_rfl) (by kernel_rfl) (fun _ _ _ _ _ h => h) _ ((hst.drew.without 2)) ?_
  have hst0 := (hst.drew.without 2)
  have hst9 := hst.drew
  clear hst
  have hst := hst9
  clear hst9
  refine stepD_d rfl rfl rfl rfl (does_fieldAddr rfl zf106 rfl) ?_
  refine stepD_d rfl rfl rfl rfl (does_load_ownL 0 rfl (by kernel_rfl) rfl rfl rfl) ?_
  refine stepD_d rfl rfl rfl rfl (does_move rfl rfl) ?_
  refine stepD_d rfl rfl rfl rfl (does_fieldAddr rfl zf107 rfl) ?_
  refine stepD_d rfl rfl rfl rfl (does_load_ownL 0 rfl (by kernel_rfl) rfl rfl rfl) ?_
  refine stepD_d rfl rfl rfl rfl (does_move rfl rfl) ?_
  refine stepD_d rfl rfl rfl rfl (Does.nat (b := e) (does_rem_p (b := 32) rfl rfl rfl (by omega)) (by rw [he])) ?_
  refine stepD_d rfl rfl rfl rfl (Does.nat (b := e) (does_conv_n_u64 rfl (by kernel_rfl) (by kernel_rfl) rfl) (by rw [Nat.mod_eq_of_lt (by omega)])) ?_
  refine stepD_callO rfl rfl rfl rfl rfl rfl hst (snum_shiftLeft hst.agree ha.1 (by omega) (by omega)) (fun _ _ h hle => St.older h hle (by simp) hst0.ext hst0.le) ?_
  clear hst
  intro v4 g4 ow4 w4 hst hle4 hp4
  have hlesum := hle4
  replace ha := ha.mono hle4
  obtain ⟨b9, ws, rfl, rfl, hw, hl, hv⟩ := hp4
  try simp only [List.cons_append, List.nil_append] at hst
  refine stepD_append (news := uN .u32 ws) (own2 := [_, _, _]) rfl rfl rfl rfl rfl zf90 zf94 rfl (by decide) rfl rfl (Row.of_own (own := [_, _, _]) (hst.perm (.cons _ (.cons _ (.swap ..)))) (hst.own_new (p := (bq, .cells (uN .u32 (List.replicate q 0)).toArray 107 (0, 0))) (by simp)) (Nat.le_refl _) (by omega) (by simp [uN_length]) (by rw [List.toList_toArray, uN_take, Nat.mul_one, List.take_of_length_le (by simp)]) (by simp [uN_length])) (by rw [uN_length, hl, Nat.mul_one]) (fun j u hj => by rw [addr_add, Nat.zero_add]; exact hst.cell_own 3 rfl (by simpa using hj)) (by intro u hu; obtain ⟨x, _, rfl⟩ := List.mem_map.1 hu; rfl) (by omega) (by omega) (fun _ h => St.older h hlesum (by simp) hst0.ext hst0.le) ?_
  clear hst
  intro vr w24 hrow
  obtain ⟨g24, A24, c24, rfl, hc24, hst, hle24, hsv⟩ := hrow.publish
  replace hlesum := Mem.le.trans hlesum hle24
  replace ha := ha.mono hle24
  rw [← uN_append] at hsv
  have hls : (List.replicate q 0 ++ ws).length = q + (n + 1) := by simp [hl]
  replace hst : St w [] g g24 [(bx, .cells #[.bool na, .slice A n c] 28 (0, 0)), (bo, .cells #[.bool false, .slice none 0 0] 28 (0, 0)), (b9, .cells (uN .u32 ws).toArray 107 (0, 0))] _ := hst
  refine stepD_call rfl rfl rfl rfl rfl rfl hst (snum_trim hst.agree (SlV.toN hsv hls) ((HWords.rep _).append hw) hc24 (by omega)) (fun _ _ h hle => St.older h (Mem.le.trans hlesum hle) (by simp) hst0.ext hst0.le) ?_
  clear hst
  intro v5 g5 w5 hst hle5 hcs5 hp5
  replace hlesum := Mem.le.trans hlesum hle5
  replace ha := ha.mono hle5
  obtain ⟨At, tn, tc, rfl, ht⟩ := hp5
  refine stepD_call rfl rfl rfl rfl rfl rfl hst (snum_make1 hst.agree ht) (fun _ _ h hle => St.older h (Mem.le.trans hlesum hle) (by simp) hst0.ext hst0.le) ?_
  clear hst
  intro v6 g6 w6 hst hle6 hcs6 hp6
  replace hlesum := Mem.le.trans hlesum hle6
  replace ha := ha.mono hle6
  replace ht := ht.mono hle6
  obtain ⟨ng9, A9, n9, c9, rfl, h9⟩ := hp6
  refine stepD_tail ?_
  refine stepK_store 1 rfl rfl rfl rfl rfl rfl zf103 rfl rfl hst rfl (by first | (simp [uN_length]; omega) | simp) ?_
  clear hst
  intro w7 hst
  simp only [zL, splice, Nat.reduceAdd] at hst
  refine zn5 ?_
  refine ret1c (k := 1) rfl rfl (by kernel_rfl) (by kernel_rfl) rfl hst rfl ?_
  refine ⟨_, _, _, _, rfl, h9.to ?_⟩
  rw [h_val_append, h_val_rep, Nat.zero_add, List.length_replicate, hv, ← Nat.mul_assoc, Nat.mul_comm (4294967296 ^ q), Nat.mul_assoc, show (4294967296 : Nat) ^ q * 2 ^ e = 2 ^ k by rw [show (4294967296 : Nat) = 2 ^ 32 by decide, ← Nat.pow_mul, ← Nat.pow_add]; congr 1; omega, sg_mulN, ha.eta]

set_option maxHeartbeats 1000000 in
theorem snum_ShiftN {g : Mem} {w : World} (hag : Agree g w) {na : Bool} {A : Option Addr} {n c : Nat} {x : Int} (ha : IsZ g na A n x) (hn : n ≤ 8796093022206) :
    CallTo Tryz.prog 108 #[.agg #[.bool na, .slice A n c], .int .i64 (-1)] w (Ret w g fun v g => ∃ ng A n c, v = .agg #[.bool ng, .slice A n c] ∧ IsZ g ng A n (sg na (x.natAbs / 2))) := by
  refine CallTo.enter (vs := [.agg #[.bool na, .slice A n c], .int .i64 (-1)]) zf140 (by kernel_rfl) rfl rfl rfl ?_
  have hst := St.init hag
  obtain ⟨s, hs⟩ : ∃ s, s = 1 := ⟨_, rfl⟩
  refine zsr ?_
  refine stepK_box rfl rfl rfl rfl rfl rfl hst ?_
  clear hst
  intro bx w1 hst
  refine stepK_alloc rfl rfl rfl rfl zf101 rfl hst ?_
  clear hst
  intro bo w2 hst
  refine znq ?_
  refine zsr ?_
  refine zM rfl hst rfl ?_
  refine stepK_d rfl rfl rfl hst (Does.no (does_geq rfl rfl rfl) (by decide)) ?_
  refine znt ?_
  refine cp_cond_false rfl ?_
  refine zk4 ?_
  refine zM rfl hst rfl ?_
  refine stepK_d rfl rfl rfl hst (Does.nat (b := 1) (does_neg rfl rfl) (by decide)) ?_
  refine zA rfl hst rfl ?_
  refine znq ?_
  refine zsr ?_
  refine zM rfl hst rfl ?_
  refine stepK_d rfl rfl rfl hst (Does.nat (b := 0) (does_quo_p (a := 1) (b := 32) rfl rfl rfl (by decide) (by decide)) rfl) ?_
  refine stepK_d rfl rfl rfl hst (does_fieldAddr rfl zf107 rfl) ?_
  refine stepK_d rfl rfl rfl hst (does_load_ownL 0 rfl (by kernel_rfl) rfl rfl rfl) ?_
  refine stepK_d rfl rfl rfl hst (does_len_slice rfl zf90 rfl) ?_
  refine stepK_d rfl rfl rfl hst (does_geq rfl rfl rfl) ?_
  refine znt ?_
  refine cp_if rfl ?_ ?_
  intro c34
  have hx0 : x = 0 := ha.z0.1 (by omega)
  refine zsr ?_
  refine stepK_d rfl rfl rfl hst (does_build rfl zf102 rfl rfl) ?_
  refine stepK_store 1 rfl rfl rfl rfl rfl rfl zf103 rfl rfl hst rfl (by first | (simp [uN_length]; omega) | simp) ?_
  clear hst
  intro w3 hst
  simp only [zL, splice, Nat.reduceAdd] at hst
  refine zn5 ?_
  refine ret1c (k := 1) rfl rfl (by kernel_rfl) (by kernel_rfl) rfl hst rfl ?_
  exact ⟨_, _, _, _, rfl, (IsZ.zero _).to (by rw [hx0]; cases na <;> rfl)⟩
  intro c34
  refine zk4 ?_
  refine stepK_d rfl rfl rfl hst (does_fieldAddr rfl zf107 rfl) ?_
  refine stepK_d rfl rfl rfl hst (does_load_ownL 0 rfl (by kernel_rfl) rfl rfl rfl) ?_
  refine zM rfl hst rfl ?_
  refine stepK_d rfl rfl rfl hst (Does.nat (b := 0) (does_quo_p (a := 1) (b := 32) rfl rfl rfl (by decide) (by decide)) rfl) ?_
  refine stepK_d rfl rfl rfl hst (does_slice_zero rfl zf90 zf91 rfl rfl) ?_
  refine zA rfl hst rfl ?_
  refine zn4 ?_
  refine zM rfl hst rfl ?_
  refine stepK_d rfl rfl rfl hst (Does.nat (b := s) (does_rem_p (a := 1) (b := 32) rfl rfl rfl (by decide)) (by rw [hs])) ?_
  refine stepK_d rfl rfl rfl hst (Does.nat (b := s) (does_conv_n_u64 rfl (by kernel_rfl) (by kernel_rfl) rfl) (by rw [Nat.mod_eq_of_lt (by omega)])) ?_
  refine zA rfl hst rfl ?_
  refine zn4 ?_
  refine zM rfl hst rfl ?_
  refine stepK_d rfl rfl rfl hst (does_len_slice rfl zf90 rfl) ?_
  refine stepK_make rfl rfl rfl (l := n) (c := n) rfl zf90 zf94 rfl rfl rfl rfl rfl rfl (by omega) (by omega) (by omega) hst ?_
  clear hst
  intro bw w4 hst
  rw [uN_rep] at hst
  refine zA rfl hst rfl ?_
  refine znq ?_
  refine cp_seq ?_
  obtain ⟨⟨xs, hxs, hxw, hxt, hxv⟩, _⟩ := id ha
  have hlx := hxs.1
  refine cp_region ?_
  refine zA rfl hst rfl ?_
  refine znt ?_
  refine cp_block ?_
  refine cp_loop (ι := Nat × List Nat) (fun (i, ws) => [(2, .pointer (some ⟨bx, 0, none⟩)), (4, .pointer (some ⟨bo, 0, none⟩)), (6, .slice A n c), (7, .int .u64 (s : Int)), (8, .slice (some ⟨bw, 0, none⟩) n n), (9, .int .i64 (i : Int))]) (fun (i, ws) w1 => St w [] g g [(bx, .cells #[.bool na, .slice A n c] 28 (0, 0)), (bo, .cells #[.bool false, .slice none 0 0] 28 (0, 0)), (bw, .cells (uN .u32 ws).toArray 107 (0, 0))] w1 ∧ i ≤ n ∧ HWords ws ∧ ws.length = n ∧ hval (ws.take i) = (x.natAbs / 2 ^ s) % 4294967296 ^ i) (fun (i, ws) => n - i) (0, List.replicate n 0) ?k5 ?i5 ?r5
  case k5 => exact ⟨rfl, rfl, rfl, rfl, rfl, rfl, trivial⟩
  case i5 =>
    exact ⟨hst, Nat.zero_le _, HWords.rep _, by simp, by simp [hval, Nat.mod_one]⟩
  case r5 =>
    clear hst
    rintro ⟨i, ws⟩ w1 ⟨hst, hi, hws, hwl, hv⟩
    refine cp_seq ?_
    refine zsr ?_
    refine zM rfl hst rfl ?_
    refine zM rfl hst rfl ?_
    refine stepK_d rfl rfl rfl hst (does_len_slice rfl zf90 rfl) ?_
    refine stepK_d rfl rfl rfl hst (does_lss rfl rfl rfl) ?_
    refine znt ?_
    refine cp_if rfl ?_ ?_
    intro c50
    refine cp_skip ?_
    refine cp_then ?_
    refine cp_seq ?_
    refine cp_block ?_
    refine cp_seq ?_
    obtain ⟨b1, o1, e1, hb1⟩ := hxs.some_ (by omega)
    subst e1
    obtain ⟨x0, hx9⟩ := get_of_lt (ws := xs) (j := i) (by omega)
    have hxlt := hxw.get hx9
    have hx2 : x0 / 2 ^ s < 4294967296 := Nat.lt_of_le_of_lt (Nat.div_le_self _ _) hxlt
    have hkd : x.natAbs / 2 ^ s / 4294967296 ^ i = hval (xs.drop i) / 2 ^ s := by rw [← hxv, Nat.div_div_eq_div_mul, Nat.mul_comm, ← Nat.div_div_eq_div_mul, h_val_div_pow hxw (by omega)]
    refine cp_region ?_
    refine zM rfl hst rfl ?_
    refine zM rfl hst rfl ?_
    refine zM rfl hst rfl ?_
    refine zM rfl hst rfl ?_
    refine stepK_d rfl rfl rfl hst (does_indexAddr1 rfl zf90 (by kernel_rfl) rfl rfl rfl (by omega)) ?_
    refine stepK_d rfl rfl rfl hst (does_load_g1 rfl (by kernel_rfl) rfl (hb1.at_ _ _ hx9)) ?_
    refine zM rfl hst rfl ?_
    refine stepK_d rfl rfl rfl hst (Does.nat (b := x0 / 2 ^ s) (does_shr_u32 rfl rfl rfl) (by rw [Nat.min_eq_left (by omega)])) ?_
    refine stepK_d rfl rfl rfl hst (does_indexAddr1 rfl zf90 (by kernel_rfl) rfl rfl rfl (by omega)) ?_
    refine stepK_store 2 rfl rfl rfl rfl rfl rfl zf91 rfl rfl hst rfl (by first | (simp [uN_length]; omega) | simp) ?_
    clear hst
    intro w6 hst
    rw [Nat.zero_add, splice_uN _ _ _ _ (by omega)] at hst
    simp only [List.set_cons_zero, List.set_cons_succ] at hst
    refine zn4 ?_
    refine zM rfl hst rfl ?_
    refine stepK_d rfl rfl rfl hst (Does.int (does_add rfl rfl rfl) (wrap_i64 (by omega) (by omega))) ?_
    refine zM rfl hst rfl ?_
    refine stepK_d rfl rfl rfl hst (does_len_slice rfl zf90 rfl) ?_
    refine stepK_d rfl rfl rfl hst (does_lss rfl rfl rfl) ?_
    refine znt ?_
    refine cp_if rfl ?_ ?_
    intro c66
    obtain ⟨y9, hy9⟩ := get_of_lt (ws := xs) (j := i + 1) (by omega)
    have hylt9 := hxw.get hy9
    have hlo : x0 / 2 ^ s < 2 ^ (32 - s) := (Nat.div_lt_iff_lt_mul (Nat.pow_pos (by decide))).2 (by rw [Nat.mul_comm, pow32 s (by omega)]; exact hxlt)
    have hyp : y9 * 2 ^ (32 - s) % 4294967296 = y9 % 2 ^ s * 2 ^ (32 - s) := by
      have h9 := h_shl_lo (x := y9) (s := 32 - s) (by omega)
      rw [show 32 - (32 - s) = s by omega] at h9
      exact h9
    have hor : x0 / 2 ^ s ||| y9 * 2 ^ (32 - s) % 4294967296 = x0 / 2 ^ s + y9 * 2 ^ (32 - s) % 4294967296 := by rw [hyp, or_low hlo]
    have hnew : x0 / 2 ^ s + y9 * 2 ^ (32 - s) % 4294967296 < 4294967296 := by
      rw [hyp]
      have h1 : y9 % 2 ^ s * 2 ^ (32 - s) + 2 ^ (32 - s) ≤ 4294967296 := by
        rw [← Nat.succ_mul, ← pow32 s (by omega)]
        exact Nat.mul_le_mul_right _ (Nat.mod_lt _ (Nat.pow_pos (by decide)))
      omega
    have hps : (2 : Nat) ^ (32 - s) ≤ 2 ^ 32 := Nat.pow_le_pow_right (by decide) (by omega)
    have hyb : y9 * 2 ^ (32 - s) < 18446744073709551616 := by
      have h1 := Nat.mul_le_mul_left y9 hps
      omega
    refine cp_drawn (by kernel_rfl) 16 [(0, true), (1, true), (2, true), (3, true), (4, true), (5, true), (6, true), (7, true), (8, true), (9, true), (10, true), (11, true), (12, true), (13, true), (14, true), (15, true)] _ rfl (by kernel_rfl) (by kernel_rfl) (by kernel_rfl) (fun _ _ _ _ _ h => h) _ (hst.drew) ?_
    have hst0 := hst.drew
    clear hst
    have hst := hst0
    refine stepD_d rfl rfl rfl rfl (does_move rfl rfl) ?_
    refine stepD_d rfl rfl rfl rfl (does_move rfl rfl) ?_
    refine stepD_d rfl rfl rfl rfl (does_indexAddr1 rfl zf90 (by kernel_rfl) rfl rfl rfl (by omega)) ?_
    refine stepD_d rfl rfl rfl rfl (does_load_own1 2 rfl (by kernel_rfl) rfl rfl (uN_arr_get (by rw [Nat.zero_add, List.getElem?_set_self (by omega)]))) ?_
    refine stepD_d rfl rfl rfl rfl (does_move rfl rfl) ?_
    refine stepD_d rfl rfl rfl rfl (does_move rfl rfl) ?_
    refine stepD_d rfl rfl rfl rfl (Does.int (does_add rfl rfl rfl) (wrap_i64 (by omega) (by omega))) ?_
    refine stepD_d rfl rfl rfl rfl (does_indexAddr1 (j := (i + 1)) rfl zf90 (by kernel_rfl) rfl rfl (by omega) (by omega)) ?_
    refine stepD_d rfl rfl rfl rfl (does_load_g1 rfl (by kernel_rfl) rfl (hb1.at_ _ _ hy9)) ?_
    refine stepD_d rfl rfl rfl rfl (does_widen32 rfl (by kernel_rfl) (by kernel_rfl) rfl (by omega)) ?_
    refine stepD_d rfl rfl rfl rfl (does_move rfl rfl) ?_
    refine stepD_d rfl rfl rfl rfl (Does.nat (b := 32 - s) (does_sub_u64 (a := 32) rfl rfl rfl) (by omega)) ?_
    refine stepD_d rfl rfl rfl rfl (does_shl_u64x rfl rfl rfl (by omega) hyb) ?_
    refine stepD_d rfl rfl rfl rfl (does_conv_n_u32 rfl (by kernel_rfl) (by kernel_rfl) rfl) ?_
    refine stepD_d rfl rfl rfl rfl (Does.nat (b := x0 / 2 ^ s + y9 * 2 ^ (32 - s) % 4294967296) (does_or_u32 rfl rfl rfl hx2 (Nat.mod_lt _ (by decide))) (by rw [hor])) ?_
    refine stepD_d rfl rfl rfl rfl (does_indexAddr1 rfl zf90 (by kernel_rfl) rfl rfl rfl (by omega)) ?_
    refine stepD_tail ?_
    refine stepK_store 2 rfl rfl rfl rfl rfl rfl zf91 rfl rfl hst rfl (by first | (simp [uN_length]; omega) | simp) ?_
    clear hst
    intro w7 hst
    rw [Nat.zero_add, splice_uN _ _ _ _ (by simp; omega)] at hst
    simp only [List.set_cons_zero, List.set_cons_succ] at hst
    refine wpK_nil ?_
    refine at_block_normal ?_
    refine cp_then ?_
    refine cp_region ?_
    refine zM rfl hst rfl ?_
    refine stepK_d rfl rfl rfl hst (Does.int (does_add rfl rfl rfl) (wrap_i64 (by omega) (by omega))) ?_
    refine zA rfl hst rfl ?_
    refine wpK_nil ?_
    refine round_end ((i + 1, (ws.set i (x0 / 2 ^ s)).set i (x0 / 2 ^ s + y9 * 2 ^ (32 - s) % 4294967296))) ?_ ?_ ?_
    exact ⟨rfl, rfl, rfl, rfl, rfl, rfl, trivial⟩
    refine ⟨hst, by omega, (hws.set hx2).set hnew, by simp [hwl], ?_⟩
    rw [h_val_take_set (by simp; omega), take_set_le, hv, h_mod_pow_step, hkd, h_val_drop_get hx9, h_val_drop_get hy9, h_right_word (by omega) hxlt]
    show n - (i + 1) < n - i
    omega
    intro c66
    refine cp_skip ?_
    refine at_block_normal ?_
    refine cp_then ?_
    refine cp_region ?_
    refine zM rfl hst rfl ?_
    refine stepK_d rfl rfl rfl hst (Does.int (does_add rfl rfl rfl) (wrap_i64 (by omega) (by omega))) ?_
    refine zA rfl hst rfl ?_
    refine wpK_nil ?_
    refine round_end ((i + 1, ws.set i (x0 / 2 ^ s))) ?_ ?_ ?_
    exact ⟨rfl, rfl, rfl, rfl, rfl, rfl, trivial⟩
    refine ⟨hst, by omega, hws.set hx2, by simp [hwl], ?_⟩
    rw [h_val_take_set (by omega), hv, h_mod_pow_step, hkd, h_val_drop_get hx9, List.drop_eq_nil_of_le (by omega)]
    simp only [hval, Nat.mul_zero, Nat.add_zero]
    rw [Nat.mod_eq_of_lt hx2]
    show n - (i + 1) < n - i
    omega
    intro c50
    refine cp_exit ?_
    refine at_then_exit ?_
    refine at_then_exit ?_
    refine cp_exit_here ?_
    refine cp_then ?_
    refine cp_seq ?_
    obtain rfl : n = i := by omega
    have hfin : hval ws = x.natAbs / 2 := by
      rw [← h_val_all (ws := ws) (n := n) (by omega), hv, hs, Nat.pow_one, Nat.mod_eq_of_lt]
      exact Nat.lt_of_le_of_lt (Nat.div_le_self _ _) ha.1.lt
    obtain ⟨hst, hle2⟩ := hst.publish 2 rfl
    replace ha := ha.mono hle2
    replace hst : St w [] g _ [(bx, .cells #[.bool na, .slice A n c] 28 (0, 0)), (bo, .cells #[.bool false, .slice none 0 0] 28 (0, 0))] _ := hst
    have hsw := SlN.put_uN (g := g) (k := .u32) (b := bw) (ws := ws) (t := 107) (f := (0, 0))
    rw [hwl] at hsw
    refine cp_drawn (by kernel_rfl) 5 [(0, true), (1, true), (2, true), (3, false), (4, false)] _ rfl (by kernel_rfl) (by kernel_rfl) (by kernel_rfl) (fun _ _ _ _ _ h => h) _ (hst.drew) ?_
    have hst0 := hst.drew
    clear hst
    have hst := hst0
    refine stepD_d rfl rfl rfl rfl (does_fieldAddr rfl zf106 rfl) ?_
    refine stepD_d rfl rfl rfl rfl (does_load_ownL 0 rfl (by kernel_rfl) rfl rfl rfl) ?_
    refine stepD_d rfl rfl rfl rfl (does_move rfl rfl) ?_
    refine stepD_call rfl rfl rfl rfl rfl rfl hst (snum_trim hst.agree hsw hws (Nat.le_refl _) (by omega)) (fun _ _ h hle => St.older h hle (by simp) hst0.ext hst0.le) ?_
    clear hst
    intro v8 g8 w8 hst hle8 hcs8 hp8
    have hlesum := hle8
    replace ha := ha.mono hle8
    obtain ⟨At, tn, tc, rfl, ht⟩ := hp8
    refine stepD_call rfl rfl rfl rfl rfl rfl hst (snum_make1 hst.agree ht) (fun _ _ h hle => St.older h (Mem.le.trans hlesum hle) (by simp) hst0.ext hst0.le) ?_
    clear hst
    intro v9 g9 w9 hst hle9 hcs9 hp9
    replace hlesum := Mem.le.trans hlesum hle9
    replace ha := ha.mono hle9
    replace ht := ht.mono hle9
    obtain ⟨ng9, A9, n9, c9, rfl, h9⟩ := hp9
    refine stepD_tail ?_
    refine stepK_store 1 rfl rfl rfl rfl rfl rfl zf103 rfl rfl hst rfl (by first | (simp [uN_length]; omega) | simp) ?_
    clear hst
    intro w10 hst
    simp only [zL, splice, Nat.reduceAdd] at hst
    refine znt ?_
    refine cp_ret ?_
    refine ret1c (k := 1) rfl rfl (by kernel_rfl) (by kernel_rfl) rfl hst rfl ?_
    exact ⟨_, _, _, _, rfl, h9.to (by rw [hfin])⟩

end Go.Proofs.YtbamjcfdlgnicaaGreatDoor

namespace Go.Proofs.YtbamjcfdlgnicaaGreatDoor
open Go Go.RowKit Go.Proofs.Vc
set_option linter.unusedVariables false
set_option linter.unusedSimpArgs false

set_option maxHeartbeats 1000000 in
theorem snum_Sqrt {g : Mem} {w : World} (hag : Agree g w) {na : Bool} {A : Option Addr} {n c : Nat} {x : Int} (ha : IsZ g na A n x) (hxs : 0 ≤ x) (hn : n ≤ 4398046511104) :
    CallTo Tryz.prog 129 #[.agg #[.bool na, .slice A n c]] w (Ret w g fun v g => ∃ ng A n c, v = .agg #[.bool ng, .slice A n c] ∧ IsZ g ng A n ((isq x.natAbs : Nat))) := by
  refine CallTo.enter (vs := [.agg #[.bool na, .slice A n c]]) zf141 (by kernel_rfl) rfl rfl rfl ?_
  have hst := St.init hag
  refine zsr ?_
  refine stepK_box rfl rfl rfl rfl rfl rfl hst ?_
  clear hst
  intro bx w1 hst
  refine stepK_alloc rfl rfl rfl rfl zf101 rfl hst ?_
  clear hst
  intro bo w2 hst
  refine znq ?_
  refine zsr ?_
  refine stepK_d rfl rfl rfl hst (does_fieldAddr rfl zf107 rfl) ?_
  refine stepK_d rfl rfl rfl hst (does_load_ownL 0 rfl (by kernel_rfl) rfl rfl rfl) ?_
  refine stepK_d rfl rfl rfl hst (does_len_slice rfl zf90 rfl) ?_
  refine stepK_d rfl rfl rfl hst (does_eql rfl rfl rfl) ?_
  refine znt ?_
  refine cp_if rfl ?_ ?_
  intro c10
  refine zsr ?_
  refine stepK_d rfl rfl rfl hst (does_build rfl zf102 rfl rfl) ?_
  refine stepK_store 1 rfl rfl rfl rfl rfl rfl zf103 rfl rfl hst rfl (by first | (simp [uN_length]; omega) | simp) ?_
  clear hst
  intro w3 hst
  simp only [zL, splice, Nat.reduceAdd] at hst
  refine zn5 ?_
  refine ret1c (k := 1) rfl rfl (by kernel_rfl) (by kernel_rfl) rfl hst rfl ?_
  exact ⟨_, _, _, _, rfl, (IsZ.zero _).to (by rw [ha.z0.1 (by omega)]; rfl)⟩
  intro c10
  have hx0 : 0 < x.natAbs := by have := ha.z0; omega
  have hbl : bitLen x.natAbs ≤ 32 * n := bitLen_le_of (by rw [Nat.pow_mul]; exact ha.1.lt)
  have hb0 := bitLen_pos hx0
  refine cp_skip ?_
  refine cp_then ?_
  refine cp_join (ι := (Bool × Option Addr × Nat × Nat) × Nat) (fun ((nx, Ax, xn, xc), b3) => [(1, .pointer (some ⟨bx, 0, none⟩)), (2, .pointer (some ⟨bo, 0, none⟩)), (3, .pointer (some ⟨b3, 0, none⟩))]) (fun ((nx, Ax, xn, xc), b3) w2 => ∃ g2, St w [] g g2 [(bx, .cells #[.bool na, .slice A n c] 28 (0, 0)), (bo, .cells #[.bool false, .slice none 0 0] 28 (0, 0)), (b3, .cells #[.bool nx, .slice Ax xn xc] 28 (0, 0))] w2 ∧ IsZ g2 na A n x ∧ IsZ g2 nx Ax xn (1 * ((2 ^ ((bitLen x.natAbs + 1) / 2) : Nat) : Int))) ?c4 ?d4
  case c4 =>
    refine cp_drawnT (by kernel_rfl) 7 (.d 1 (.e 0 (.e 2 (.d 3 (.d 4 (.e 5 (.e 6 .fin .no) (.e 6 (.e 5 .fin .no) .no)))) (.e 6 (.e 2 (.d 3 (.d 4 (.e 5 .fin .no))) .no) .no)) (.e 6 (.e 0 (.e 2 (.d 3 (.d 4 (.e 5 .fin .no))) .no) .no) .no))) _ rfl (by kernel_rfl) (by kernel_rfl) (by kernel_rfl) (fun _ _ _ _ _ h => h) _ hst.drew ?_
    have hst0 := hst.drew
    have hst9 := hst.drew
    clear hst
    have hst := hst9
    clear hst9
    refine stepT_d rfl rfl rfl rfl (does_load_ownN 0 rfl (by kernel_rfl) zf103 rfl rfl rfl) ?_
    refine stepT_call rfl rfl rfl rfl rfl rfl hst0 hst (Mem.le.refl _) (by repeat (first | exact zR _ | apply zC | apply zD)) (snum_FromInt hst.agree (x := 1) (by decide) (by decide)) ?_ ?_
    clear hst
    intro v5 g5 w5 hst hle5 hcs5 hp5
    have hlesum := hle5
    replace ha := ha.mono hle5
    obtain ⟨no, Ao, on, oc, rfl, h1⟩ := hp5
    have hol : on ≤ 1 := h1.len (by decide)
    refine stepT_call rfl rfl rfl rfl rfl rfl hst0 hst hlesum (by repeat (first | exact zR _ | apply zC | apply zD)) (snum_Bits hst.agree ha (by omega)) ?_ ?_
    clear hst
    intro v6 g6 w6 hst hle6 hcs6 hp6
    replace hlesum := Mem.le.trans hlesum hle6
    replace ha := ha.mono hle6
    replace h1 := h1.mono hle6
    obtain rfl := hp6
    refine stepT_d rfl rfl rfl rfl (Does.int (does_add rfl rfl rfl) (show _ = ((bitLen x.natAbs + 1 : Nat) : Int) by rw [wrap_i64 (by omega) (by omega)]; omega)) ?_
    refine stepT_d rfl rfl rfl rfl (does_quo_p (a := bitLen x.natAbs + 1) (b := 2) rfl rfl rfl (by decide) (by omega)) ?_
    refine stepT_call rfl rfl rfl rfl rfl rfl hst0 hst hlesum (by repeat (first | exact zR _ | apply zC | apply zD)) (snum_ShiftP hst.agree h1 (by omega) (by omega)) ?_ ?_
    clear hst
    intro v7 g7 w7 hst hle7 hcs7 hp7
    replace hlesum := Mem.le.trans hlesum hle7
    replace ha := ha.mono hle7
    replace h1 := h1.mono hle7
    obtain ⟨nx, Ax, xn, xc, rfl, hX⟩ := hp7
    refine stepT_alloc rfl rfl rfl rfl rfl zf101 rfl hst0 hst hlesum (by repeat (first | exact zR _ | apply zC | apply zD)) ?_ ?_
    clear hst
    intro b3 w8 hst
    refine stepT_tail ?_
    refine stepK_store 2 rfl rfl rfl rfl rfl rfl zf103 rfl rfl hst rfl (by first | (simp [uN_length]; omega) | simp) ?_
    clear hst
    intro w9 hst
    simp only [zL, splice, Nat.reduceAdd] at hst
    refine wpK_nil ?_
    refine join_end (((nx, Ax, xn, xc), b3)) ?_ ?_
    exact ⟨rfl, rfl, rfl, trivial⟩
    exact ⟨_, hst, ha, hX⟩
    exact stepT_no
    refine stepT_alloc rfl rfl rfl rfl rfl zf101 rfl hst0 hst hlesum (by repeat (first | exact zR _ | apply zC | apply zD)) ?_ ?_
    clear hst
    intro b3 w10 hst
    refine stepT_call rfl rfl rfl rfl rfl rfl hst0 hst hlesum (by repeat (first | exact zR _ | apply zC | apply zD)) (snum_ShiftP hst.agree h1 (by omega) (by omega)) ?_ ?_
    clear hst
    intro v11 g11 w11 hst hle11 hcs11 hp11
    replace hlesum := Mem.le.trans hlesum hle11
    replace ha := ha.mono hle11
    replace h1 := h1.mono hle11
    obtain ⟨nx, Ax, xn, xc, rfl, hX⟩ := hp11
    refine stepT_tail ?_
    refine stepK_store 2 rfl rfl rfl rfl rfl rfl zf103 rfl rfl hst rfl (by first | (simp [uN_length]; omega) | simp) ?_
    clear hst
    intro w12 hst
    simp only [zL, splice, Nat.reduceAdd] at hst
    refine wpK_nil ?_
    refine join_end (((nx, Ax, xn, xc), b3)) ?_ ?_
    exact ⟨rfl, rfl, rfl, trivial⟩
    exact ⟨_, hst, ha, hX⟩
    exact stepT_no
    exact stepT_no
    refine stepT_alloc rfl rfl rfl rfl rfl zf101 rfl hst0 hst hlesum (by repeat (first | exact zR _ | apply zC | apply zD)) ?_ ?_
    clear hst
    intro b3 w13 hst
    refine stepT_call rfl rfl rfl rfl rfl rfl hst0 hst hlesum (by repeat (first | exact zR _ | apply zC | apply zD)) (snum_Bits hst.agree ha (by omega)) ?_ ?_
    clear hst
    intro v14 g14 w14 hst hle14 hcs14 hp14
    replace hlesum := Mem.le.trans hlesum hle14
    replace ha := ha.mono hle14
    replace h1 := h1.mono hle14
    obtain rfl := hp14
    refine stepT_d rfl rfl rfl rfl (Does.int (does_add rfl rfl rfl) (show _ = ((bitLen x.natAbs + 1 : Nat) : Int) by rw [wrap_i64 (by omega) (by omega)]; omega)) ?_
    refine stepT_d rfl rfl rfl rfl (does_quo_p (a := bitLen x.natAbs + 1) (b := 2) rfl rfl rfl (by decide) (by omega)) ?_
    refine stepT_call rfl rfl rfl rfl rfl rfl hst0 hst hlesum (by repeat (first | exact zR _ | apply zC | apply zD)) (snum_ShiftP hst.agree h1 (by omega) (by omega)) ?_ ?_
    clear hst
    intro v15 g15 w15 hst hle15 hcs15 hp15
    replace hlesum := Mem.le.trans hlesum hle15
    replace ha := ha.mono hle15
    replace h1 := h1.mono hle15
    obtain ⟨nx, Ax, xn, xc, rfl, hX⟩ := hp15
    refine stepT_tail ?_
    refine stepK_store 2 rfl rfl rfl rfl rfl rfl zf103 rfl rfl hst rfl (by first | (simp [uN_length]; omega) | simp) ?_
    clear hst
    intro w16 hst
    simp only [zL, splice, Nat.reduceAdd] at hst
    refine wpK_nil ?_
    refine join_end (((nx, Ax, xn, xc), b3)) ?_ ?_
    exact ⟨rfl, rfl, rfl, trivial⟩
    exact ⟨_, hst, ha, hX⟩
    exact stepT_no
    exact stepT_no
    exact stepT_no
    refine stepT_alloc rfl rfl rfl rfl rfl zf101 rfl hst0 hst (Mem.le.refl _) (by repeat (first | exact zR _ | apply zC | apply zD)) ?_ ?_
    clear hst
    intro b3 w17 hst
    refine stepT_call rfl rfl rfl rfl rfl rfl hst0 hst (Mem.le.refl _) (by repeat (first | exact zR _ | apply zC | apply zD)) (snum_FromInt hst.agree (x := 1) (by decide) (by decide)) ?_ ?_
    clear hst
    intro v18 g18 w18 hst hle18 hcs18 hp18
    have hlesum := hle18
    replace ha := ha.mono hle18
    obtain ⟨no, Ao, on, oc, rfl, h1⟩ := hp18
    have hol : on ≤ 1 := h1.len (by decide)
    refine stepT_call rfl rfl rfl rfl rfl rfl hst0 hst hlesum (by repeat (first | exact zR _ | apply zC | apply zD)) (snum_Bits hst.agree ha (by omega)) ?_ ?_
    clear hst
    intro v19 g19 w19 hst hle19 hcs19 hp19
    replace hlesum := Mem.le.trans hlesum hle19
    replace ha := ha.mono hle19
    replace h1 := h1.mono hle19
    obtain rfl := hp19
    refine stepT_d rfl rfl rfl rfl (Does.int (does_add rfl rfl rfl) (show _ = ((bitLen x.natAbs + 1 : Nat) : Int) by rw [wrap_i64 (by omega) (by omega)]; omega)) ?_
    refine stepT_d rfl rfl rfl rfl (does_quo_p (a := bitLen x.natAbs + 1) (b := 2) rfl rfl rfl (by decide) (by omega)) ?_
    refine stepT_call rfl rfl rfl rfl rfl rfl hst0 hst hlesum (by repeat (first | exact zR _ | apply zC | apply zD)) (snum_ShiftP hst.agree h1 (by omega) (by omega)) ?_ ?_
    clear hst
    intro v20 g20 w20 hst hle20 hcs20 hp20
    replace hlesum := Mem.le.trans hlesum hle20
    replace ha := ha.mono hle20
    replace h1 := h1.mono hle20
    obtain ⟨nx, Ax, xn, xc, rfl, hX⟩ := hp20
    refine stepT_tail ?_
    refine stepK_store 2 rfl rfl rfl rfl rfl rfl zf103 rfl rfl hst rfl (by first | (simp [uN_length]; omega) | simp) ?_
    clear hst
    intro w21 hst
    simp only [zL, splice, Nat.reduceAdd] at hst
    refine wpK_nil ?_
    refine join_end (((nx, Ax, xn, xc), b3)) ?_ ?_
    exact ⟨rfl, rfl, rfl, trivial⟩
    exact ⟨_, hst, ha, hX⟩
    exact stepT_no
    exact stepT_no
    exact stepT_no
    exact stepT_no
  case d4 =>
    clear hst
    clear ha
    rintro ⟨⟨nx, Ax, xn, xc⟩, b3⟩ w2 ⟨g2, hst, ha, hX⟩
    simp only
    rw [Int.one_mul] at hX
    obtain ⟨X0, hX0⟩ : ∃ X0, X0 = 2 ^ ((bitLen x.natAbs + 1) / 2) := ⟨_, rfl⟩
    rw [← hX0] at hX
    have hXs : isq x.natAbs ≤ X0 := by rw [hX0]; exact isq_start _
    have hXp : 0 < X0 := by rw [hX0]; exact Nat.pow_pos (by decide)
    have hXl : X0 < 4294967296 ^ (n + 1) := by
      rw [hX0, show (4294967296 : Nat) = 2 ^ 32 by decide, ← Nat.pow_mul]
      exact Nat.pow_lt_pow_right (by decide) (by omega)
    refine cp_block ?_
    refine cp_loop (ι := (Bool × Option Addr × Nat × Nat × Nat) × Nat) (fun ((nx, Ax, xn, xc, X), b3) => [(1, .pointer (some ⟨bx, 0, none⟩)), (2, .pointer (some ⟨bo, 0, none⟩)), (3, .pointer (some ⟨b3, 0, none⟩))]) (fun ((nx, Ax, xn, xc, X), b3) w1 => ∃ g1, St w [] g g1 [(bx, .cells #[.bool na, .slice A n c] 28 (0, 0)), (bo, .cells #[.bool false, .slice none 0 0] 28 (0, 0)), (b3, .cells #[.bool nx, .slice Ax xn xc] 28 (0, 0))] w1 ∧ IsZ g1 na A n x ∧ IsZ g1 nx Ax xn (X : Int) ∧ isq x.natAbs ≤ X ∧ 0 < X ∧ X < 4294967296 ^ (n + 1)) (fun ((nx, Ax, xn, xc, X), b3) => X) ((nx, Ax, xn, xc, X0), b3) ?k22 ?i22 ?r22
    case k22 => exact ⟨rfl, rfl, rfl, trivial⟩
    case i22 =>
      exact ⟨_, hst, ha, hX, hXs, hXp, hXl⟩
    case r22 =>
      clear hst
      rintro ⟨⟨nx, Ax, xn, xc, X⟩, b3⟩ w1 ⟨g1, hst, ha, hX, hXs, hXp, hXl⟩
      have hxl := hX.len (by rw [Int.natAbs_natCast]; exact hXl)
      refine cp_block ?_
      refine zsr ?_
      refine stepK_d rfl rfl rfl hst (does_load_ownN 0 rfl (by kernel_rfl) zf103 rfl rfl rfl) ?_
      refine stepK_d rfl rfl rfl hst (does_load_ownN 2 rfl (by kernel_rfl) zf103 rfl rfl rfl) ?_
      refine stepK_call rfl rfl rfl rfl rfl hst (snum_QuoRem hst.agree ha hX (by omega) (by omega) (by omega)) ?_
      clear hst
      intro v23 g23 w23 hst hle23 hcs23 hp23
      replace ha := ha.mono hle23
      replace hX := hX.mono hle23
      obtain ⟨nq, Aq, qn, qc, nr, Ar, rn, rc, rfl, hq, hr⟩ := hp23
      have hqn : qn ≤ n := hq.1.len (Nat.lt_of_le_of_lt (by rw [Int.natAbs_tdiv]; exact Nat.div_le_self _ _) ha.1.lt)
      refine zM rfl hst rfl ?_
      refine zE rfl hst rfl rfl ?_
      refine zE rfl hst rfl rfl ?_
      refine stepK_alloc rfl rfl rfl rfl zf101 rfl hst ?_
      clear hst
      intro b4 w24 hst
      refine stepK_alloc rfl rfl rfl rfl zf101 rfl hst ?_
      clear hst
      intro b5 w25 hst
      refine stepK_store 3 rfl rfl rfl rfl rfl rfl zf103 rfl rfl hst rfl (by first | (simp [uN_length]; omega) | simp) ?_
      clear hst
      intro w26 hst
      simp only [zL, splice, Nat.reduceAdd] at hst
      refine stepK_store 4 rfl rfl rfl rfl rfl rfl zf103 rfl rfl hst rfl (by first | (simp [uN_length]; omega) | simp) ?_
      clear hst
      intro w27 hst
      simp only [zL, splice, Nat.reduceAdd] at hst
      refine zn4 ?_
      refine stepK_d rfl rfl rfl hst (does_load_ownN 2 rfl (by kernel_rfl) zf103 rfl rfl rfl) ?_
      refine stepK_d rfl rfl rfl hst (does_load_ownN 3 rfl (by kernel_rfl) zf103 rfl rfl rfl) ?_
      refine stepK_call rfl rfl rfl rfl rfl hst (snum_Add hst.agree hX hq (by omega) (by omega)) ?_
      clear hst
      intro v28 g28 w28 hst hle28 hcs28 hp28
      replace ha := ha.mono hle28
      replace hX := hX.mono hle28
      replace hq := hq.mono hle28
      replace hr := hr.mono hle28
      obtain ⟨ns, As, sn, sc, rfl, hs⟩ := hp28
      replace hs := hs.to (sqrt_sum hxs)
      have hsn : sn ≤ n + 2 := hs.len (by
        rw [Int.natAbs_natCast]
        have h7 : x.natAbs / X < 4294967296 ^ (n + 1) := Nat.lt_of_le_of_lt (Nat.div_le_self _ _) (Nat.lt_trans ha.1.lt (Nat.pow_lt_pow_right (by decide) (by omega)))
        have h8 : 4294967296 ^ (n + 2) = 4294967296 ^ (n + 1) * 4294967296 := Nat.pow_succ ..
        omega)
      refine stepK_call rfl rfl rfl rfl rfl hst (snum_ShiftN hst.agree hs (by omega)) ?_
      clear hst
      intro v29 g29 w29 hst hle29 hcs29 hp29
      replace ha := ha.mono hle29
      replace hX := hX.mono hle29
      replace hq := hq.mono hle29
      replace hr := hr.mono hle29
      replace hs := hs.mono hle29
      obtain ⟨ny, Ay, yn, yc, rfl, hy⟩ := hp29
      replace hy := hy.to (show sg ns (((X + x.natAbs / X : Nat) : Int).natAbs / 2) = (((X + x.natAbs / X) / 2 : Nat) : Int) by rw [Int.natAbs_natCast, show ns = false by rw [hs.2]; exact decide_eq_false (Int.not_lt.2 (Int.natCast_nonneg _))]; rfl)
      have hyn : yn ≤ n + 2 := hy.1.len (by
        rw [Int.natAbs_natCast]
        have h9 := hs.1.lt
        rw [Int.natAbs_natCast] at h9
        exact Nat.lt_of_le_of_lt (Nat.div_le_self _ _) (Nat.lt_of_lt_of_le h9 (Nat.pow_le_pow_right (by decide) hsn)))
      refine stepK_alloc rfl rfl rfl rfl zf101 rfl hst ?_
      clear hst
      intro b6 w30 hst
      refine stepK_store 5 rfl rfl rfl rfl rfl rfl zf103 rfl rfl hst rfl (by first | (simp [uN_length]; omega) | simp) ?_
      clear hst
      intro w31 hst
      simp only [zL, splice, Nat.reduceAdd] at hst
      refine znq ?_
      refine zsr ?_
      refine stepK_d rfl rfl rfl hst (does_load_ownN 5 rfl (by kernel_rfl) zf103 rfl rfl rfl) ?_
      refine stepK_d rfl rfl rfl hst (does_load_ownN 2 rfl (by kernel_rfl) zf103 rfl rfl rfl) ?_
      refine stepK_call rfl rfl rfl rfl rfl hst (snum_Cmp hst.agree hy hX (by omega) (by omega)) ?_
      clear hst
      intro v32 g32 w32 hst hle32 hcs32 hp32
      replace ha := ha.mono hle32
      replace hX := hX.mono hle32
      replace hq := hq.mono hle32
      replace hr := hr.mono hle32
      replace hs := hs.mono hle32
      replace hy := hy.mono hle32
      obtain rfl := hp32
      refine stepK_d rfl rfl rfl hst (does_geq rfl rfl rfl) ?_
      refine znt ?_
      refine cp_if rfl ?_ ?_
      intro c31
      refine zsr ?_
      refine stepK_d rfl rfl rfl hst (does_load_ownN 2 rfl (by kernel_rfl) zf103 rfl rfl rfl) ?_
      refine stepK_store 1 rfl rfl rfl rfl rfl rfl zf103 rfl rfl hst rfl (by first | (simp [uN_length]; omega) | simp) ?_
      clear hst
      intro w33 hst
      simp only [zL, splice, Nat.reduceAdd] at hst
      refine zn5 ?_
      refine at_block_ret ?_
      refine at_then_ret ?_
      refine at_block_ret ?_
      refine ret1c (k := 1) rfl rfl (by kernel_rfl) (by kernel_rfl) rfl hst rfl ?_
      refine ⟨_, _, _, _, rfl, hX.to ?_⟩
      have h7 : X ≤ (X + x.natAbs / X) / 2 := by
        rcases Int.lt_or_le ((((X + x.natAbs / X) / 2 : Nat) : Int) - (X : Int)) 0 with h | h
        rw [Int.sign_eq_neg_one_of_neg h] at c31
        exact absurd c31 (by decide)
        omega
      rw [newton_stop hXp hXs h7]
      intro c31
      refine cp_skip ?_
      refine cp_then ?_
      refine cp_region ?_
      refine stepK_d rfl rfl rfl hst (does_load_ownN 5 rfl (by kernel_rfl) zf103 rfl rfl rfl) ?_
      refine stepK_store 2 rfl rfl rfl rfl rfl rfl zf103 rfl rfl hst rfl (by first | (simp [uN_length]; omega) | simp) ?_
      clear hst
      intro w34 hst
      simp only [zL, splice, Nat.reduceAdd] at hst
      refine wpK_nil ?_
      refine at_block_normal ?_
      have hlt : (X + x.natAbs / X) / 2 < X := by
        have h7 : (((X + x.natAbs / X) / 2 : Nat) : Int) - (X : Int) < 0 := by
          rcases Int.lt_trichotomy ((((X + x.natAbs / X) / 2 : Nat) : Int) - (X : Int)) 0 with h | h | h
          exact h
          exact absurd (by rw [h]; decide) c31
          exact absurd (by rw [Int.sign_eq_one_of_pos h]; decide) c31
        omega
      refine round_end (((ny, Ay, yn, yc, (X + x.natAbs / X) / 2), b3)) ?_ ?_ ?_
      exact ⟨rfl, rfl, rfl, trivial⟩
      refine ⟨_, hst.weaken _ (List.sublist_append_left [_, _, _] [_, _, _]), ha, hy, newton_ge hXp, Nat.lt_of_lt_of_le (isq_pos hx0) (newton_ge hXp), Nat.lt_trans hlt hXl⟩
      exact hlt

end Go.Proofs.YtbamjcfdlgnicaaGreatDoor
