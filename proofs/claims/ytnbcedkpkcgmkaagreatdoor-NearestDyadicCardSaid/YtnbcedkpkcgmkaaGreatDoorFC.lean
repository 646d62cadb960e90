/- The walks of functions, printed by a program of this session out of its specs. -/
import Derived.Test.YtnbcedkpkcgmkaaGreatDoorF8
import Derived.Test.YtnbcedkpkcgmkaaGreatDoorQ3
import Derived.Test.YtnbcedkpkcgmkaaGreatDoorProg
import Derived.Test.YtnbcedkpkcgmkaaGreatDoorF0
namespace Go.Proofs.YtnbcedkpkcgmkaaGreatDoor
open Go Go.RowKit Go.Proofs.Vc
set_option linter.unusedVariables false
set_option linter.unusedSimpArgs false

set_option maxHeartbeats 1000000 in
theorem snum_ShiftP {g : Mem} {w : World} (hag : Agree g w) {na : Bool} {A : Option Addr} {n c : Nat} {x : Int} (ha : IsZ g na A n x) {k : Nat} (hn : n ≤ 8796093022206) (hk : k ≤ 281474976710656) :
    CallTo Tryz.prog 50 #[.agg #[.bool na, .slice A n c], .int .i64 (k : Int)] w (Ret w g fun v g => ∃ ng A n c, v = .agg #[.bool ng, .slice A n c] ∧ IsZ g ng A n (x * ((2 ^ k : Nat) : Int))) := by
  refine CallTo.enter (vs := [.agg #[.bool na, .slice A n c], .int .i64 (k : Int)]) zf126 (by kernel_rfl) rfl rfl rfl ?_
  have hst := St.init hag
  obtain ⟨q, hq⟩ : ∃ q, q = k / 32 := ⟨_, rfl⟩
  obtain ⟨e, he⟩ : ∃ e, e = k % 32 := ⟨_, rfl⟩
  refine zsr ?_
  refine stepK_box rfl rfl rfl rfl rfl rfl hst ?_
  clear hst
  intro bx w1 hst
  refine stepK_alloc rfl rfl rfl rfl zf87 rfl hst ?_
  clear hst
  intro bo w2 hst
  refine znq ?_
  refine zsr ?_
  refine zM rfl hst rfl ?_
  refine stepK_d rfl rfl rfl hst (Does.yes (does_geq rfl rfl rfl) (by omega)) ?_
  refine znt ?_
  refine cp_cond_true rfl ?_
  refine zsr ?_
  refine zM rfl hst rfl ?_
  refine stepK_d rfl rfl rfl hst (Does.nat (b := q) (does_quo_p (b := 32) rfl rfl rfl (by omega) (by omega)) (by rw [hq])) ?_
  refine stepK_make rfl rfl rfl (l := q) (c := q) rfl zf76 zf80 rfl rfl rfl rfl rfl rfl (by omega) (by omega) (by omega) hst ?_
  clear hst
  intro bq w3 hst
  rw [uN_rep] at hst
  refine zA rfl hst rfl ?_
  refine znq ?_
  refine cp_drawn (by kernel_rfl) 12 [(0, true), (1, true), (2, true), (3, true), (4, true), (5, true), (6, true), (7, true), (8, false), (9, false), (10, false), (11, false)] _ rfl (by kernel_rfl) (by kernel_rfl) (by kernel_rfl) (fun _ _ _ _ _ h => h) _ ((hst.drew.without 2)) ?_
  have hst0 := (hst.drew.without 2)
  have hst9 := hst.drew
  clear hst
  have hst := hst9
  clear hst9
  refine stepD_d rfl rfl rfl rfl (does_fieldAddr rfl zf92 rfl) ?_
  refine stepD_d rfl rfl rfl rfl (does_load_ownL 0 rfl (by kernel_rfl) rfl rfl rfl) ?_
  refine stepD_d rfl rfl rfl rfl (does_move rfl rfl) ?_
  refine stepD_d rfl rfl rfl rfl (does_fieldAddr rfl zf93 rfl) ?_
  refine stepD_d rfl rfl rfl rfl (does_load_ownL 0 rfl (by kernel_rfl) rfl rfl rfl) ?_
  refine stepD_d rfl rfl rfl rfl (does_move rfl rfl) ?_
  refine stepD_d rfl rfl rfl rfl (Does.nat (b := e) (does_rem_p (b := 32) rfl rfl rfl (by omega)) (by rw [he])) ?_
  refine stepD_d rfl rfl rfl rfl (Does.nat (b := e) (does_conv_n_u64 rfl (by kernel_rfl) (by kernel_rfl) rfl) (by rw [Nat.mod_eq_of_lt (by omega)])) ?_
  refine stepD_callO rfl rfl rfl rfl rfl rfl hst (snum_shiftLeft hst.agree ha.1 (by omega) (by omega)) (fun _ _ h hle => St.older h hle (by simp) hst0.ext hst0.le) ?_
  clear hst
  intro v4 g4 ow4 w4 hst hle4 hp4
  have hlesum := hle4
  replace ha := ha.mono hle4
  obtain ⟨b9, ws, rfl, rfl, hw, hl, hv⟩ := hp4
  try simp only [List.cons_append, List.nil_append] at hst
  refine stepD_append (news := uN .u32 ws) (own2 := [_, _, _]) rfl rfl rfl rfl rfl zf76 zf80 rfl (by decide) rfl rfl (Row.of_own (own := [_, _, _]) (hst.perm (.cons _ (.cons _ (.swap ..)))) (hst.own_new (p := (bq, .cells (uN .u32 (List.replicate q 0)).toArray 79 (0, 0))) (by simp)) (Nat.le_refl _) (by omega) (by simp [uN_length]) (by rw [List.toList_toArray, uN_take, Nat.mul_one, List.take_of_length_le (by simp)]) (by simp [uN_length])) (by rw [uN_length, hl, Nat.mul_one]) (fun j u hj => by rw [addr_add, Nat.zero_add]; exact hst.cell_own 3 rfl (by simpa using hj)) (by intro u hu; obtain ⟨x, _, rfl⟩ := List.mem_map.1 hu; rfl) (by omega) (by omega) (fun _ h => St.older h hlesum (by simp) hst0.ext hst0.le) ?_
  clear hst
  intro vr w24 hrow
  obtain ⟨g24, A24, c24, rfl, hc24, hst, hle24, hsv⟩ := hrow.publish
  replace hlesum := Mem.le.trans hlesum hle24
  replace ha := ha.mono hle24
  rw [← uN_append] at hsv
  have hls : (List.replicate q 0 ++ ws).length = q + (n + 1) := by simp [hl]
  replace hst : St w [] g g24 [(bx, .cells #[.bool na, .slice A n c] 28 (0, 0)), (bo, .cells #[.bool false, .slice none 0 0] 28 (0, 0)), (b9, .cells (uN .u32 ws).toArray 79 (0, 0))] _ := hst
  refine stepD_call rfl rfl rfl rfl rfl rfl hst (snum_trim hst.agree (SlV.toN hsv hls) ((HWords.rep _).append hw) hc24 (by omega)) (fun _ _ h hle => St.older h (Mem.le.trans hlesum hle) (by simp) hst0.ext hst0.le) ?_
  clear hst
  intro v5 g5 w5 hst hle5 hcs5 hp5
  replace hlesum := Mem.le.trans hlesum hle5
  replace ha := ha.mono hle5
  obtain ⟨At, tn, tc, rfl, ht⟩ := hp5
  refine stepD_call rfl rfl rfl rfl rfl rfl hst (snum_make1 hst.agree ht) (fun _ _ h hle => St.older h (Mem.le.trans hlesum hle) (by simp) hst0.ext hst0.le) ?_
  clear hst
  intro v6 g6 w6 hst hle6 hcs6 hp6
  replace hlesum := Mem.le.trans hlesum hle6
  replace ha := ha.mono hle6
  replace ht := ht.mono hle6
  obtain ⟨ng9, A9, n9, c9, rfl, h9⟩ := hp6
  refine stepD_tail ?_
  refine stepK_store 1 rfl rfl rfl rfl rfl rfl zf89 rfl rfl hst rfl (by first | (simp [uN_length]; omega) | simp) ?_
  clear hst
  intro w7 hst
  simp only [zL, splice, Nat.reduceAdd] at hst
  refine zn5 ?_
  refine ret1c (k := 1) rfl rfl (by kernel_rfl) (by kernel_rfl) rfl hst rfl ?_
  refine ⟨_, _, _, _, rfl, h9.to ?_⟩
  rw [h_val_append, h_val_rep, Nat.zero_add, List.length_replicate, hv, ← Nat.mul_assoc, Nat.mul_comm (4294967296 ^ q), Nat.mul_assoc, show (4294967296 : Nat) ^ q * 2 ^ e = 2 ^ k by rw [show (4294967296 : Nat) = 2 ^ 32 by decide, ← Nat.pow_mul, ← Nat.pow_add]; congr 1; omega, sg_mulN, ha.eta]

end Go.Proofs.YtnbcedkpkcgmkaaGreatDoor
