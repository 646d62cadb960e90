/- A helper of the claim: general lemmas and walks of functions, printed by a program of this session. Conditions: none. -/
import Derived.Test.YtcjhnkmoloiepaaDoorP2
import Derived.Test.YtcjhnkmoloiepaaDoorF5
import Derived.Test.YtcjhnkmoloiepaaDoorFV
import Derived.Test.YtcjhnkmoloiepaaDoorProg
import Derived.Test.YtcjhnkmoloiepaaDoorH2
import Derived.Test.YtcjhnkmoloiepaaDoorF6
import Derived.Test.YtcjhnkmoloiepaaDoorQX
import Derived.Test.YtcjhnkmoloiepaaDoorF0
namespace Go.Proofs.YtcjhnkmoloiepaaDoor
open Go Go.RowKit Go.Proofs.Vc
set_option linter.unusedVariables false
set_option linter.unusedSimpArgs false

set_option maxHeartbeats 1000000 in
theorem Rat_Mod {g : Mem} {w : World} (hag : Agree g w) {p q : Int} {a : Option Addr} {x : Int} (ha : IsRat g p q a (x : Rat)) {s t : Int} {b : Option Addr} {m : Int} (hb : IsRat g s t b (m : Rat)) (hm : 0 < m) {k : Nat} (zx : Sz k (x : Rat)) (zm : Sz k (m : Rat)) (hk : k ≤ 100000000) :
    CallTo Tryd.prog 21 #[.agg #[.int .i64 p, .int .i64 q, .pointer a], .agg #[.int .i64 s, .int .i64 t, .pointer b]] w (Ret w g fun v g => ∃ p q a, v = .agg #[.int .i64 p, .int .i64 q, .pointer a] ∧ IsRat g p q a (((x % m : Int) : Rat))) := by
  refine CallTo.enter (vs := [.agg #[.int .i64 p, .int .i64 q, .pointer a], .agg #[.int .i64 s, .int .i64 t, .pointer b]]) zf87 (by kernel_rfl) rfl rfl rfl ?_
  have hst := St.init hag
  have fx := zx.fit (by omega)
  have fm := zm.fit (by omega)
  have zq := zx.div zm
  have zf := floor_sz zq
  refine zsr ?_
  refine stepK_box rfl rfl rfl rfl rfl rfl hst ?_
  clear hst
  intro b1 w1 hst
  refine stepK_box rfl rfl rfl rfl rfl rfl hst ?_
  clear hst
  intro b2 w2 hst
  refine stepK_alloc rfl rfl rfl rfl zf29 rfl hst ?_
  clear hst
  intro b3 w3 hst
  refine znq ?_
  refine zsr ?_
  refine stepK_d rfl rfl rfl hst (does_load_ownN 1 rfl (by kernel_rfl) zf31 rfl rfl rfl) ?_
  refine stepK_call rfl rfl rfl rfl rfl hst (Rat_Sign hst.agree hb) ?_
  clear hst
  intro v4 g4 w4 hst hle4 hcs4 hp4
  replace ha := ha.mono hle4
  replace hb := hb.mono hle4
  obtain rfl := hp4
  refine stepK_d rfl rfl rfl hst (Does.no (does_leq rfl rfl rfl) (fun h => sgn_nonpos.1 h (pos_cast hm))) ?_
  refine znt ?_
  refine cp_cond_false rfl ?_
  refine cp_skip ?_
  refine cp_then ?_
  refine cp_seq ?_
  refine cp_drawn (by kernel_rfl) 8 [(0, true), (1, true), (2, true), (5, true), (3, false), (4, false), (6, false), (7, false)] _ rfl (by kernel_rfl) (by kernel_rfl) (by kernel_rfl) (fun _ _ _ _ _ h => h) _ (hst.drew) ?_
  have hst0 := hst.drew
  clear hst
  have hst := hst0
  refine stepD_d rfl rfl rfl rfl (does_load_ownN 0 rfl (by kernel_rfl) zf31 rfl rfl rfl) ?_
  refine stepD_d rfl rfl rfl rfl (does_load_ownN 0 rfl (by kernel_rfl) zf31 rfl rfl rfl) ?_
  refine stepD_d rfl rfl rfl rfl (does_load_ownN 1 rfl (by kernel_rfl) zf31 rfl rfl rfl) ?_
  refine stepD_d rfl rfl rfl rfl (does_load_ownN 1 rfl (by kernel_rfl) zf31 rfl rfl rfl) ?_
  refine stepD_call rfl rfl rfl rfl rfl rfl hst (Rat_Quo hst.agree ha hb fx fm) (fun _ _ h hle => St.older h hle (by simp) hst0.ext hst0.le) ?_
  clear hst
  intro v5 g5 w5 hst hle5 hcs5 hp5
  have hlesum := hle5
  replace ha := ha.mono hle5
  replace hb := hb.mono hle5
  obtain ⟨p12, q12, a12, rfl, h12⟩ := hp5
  refine stepD_call rfl rfl rfl rfl rfl rfl hst (Rat_Floor hst.agree h12 (zq.fit (by omega))) (fun _ _ h hle => St.older h (Mem.le.trans hlesum hle) (by simp) hst0.ext hst0.le) ?_
  clear hst
  intro v6 g6 w6 hst hle6 hcs6 hp6
  replace hlesum := Mem.le.trans hlesum hle6
  replace ha := ha.mono hle6
  replace hb := hb.mono hle6
  replace h12 := h12.mono hle6
  obtain ⟨p13, q13, a13, rfl, h13⟩ := hp6
  refine stepD_call rfl rfl rfl rfl rfl rfl hst (Rat_Mul hst.agree h13 hb (zf.fit (by omega)) fm) (fun _ _ h hle => St.older h (Mem.le.trans hlesum hle) (by simp) hst0.ext hst0.le) ?_
  clear hst
  intro v7 g7 w7 hst hle7 hcs7 hp7
  replace hlesum := Mem.le.trans hlesum hle7
  replace ha := ha.mono hle7
  replace hb := hb.mono hle7
  replace h12 := h12.mono hle7
  replace h13 := h13.mono hle7
  obtain ⟨p15, q15, a15, rfl, h15⟩ := hp7
  refine stepD_call rfl rfl rfl rfl rfl rfl hst (Rat_Sub hst.agree ha h15 fx ((zf.mul zm).fit (by omega))) (fun _ _ h hle => St.older h (Mem.le.trans hlesum hle) (by simp) hst0.ext hst0.le) ?_
  clear hst
  intro v8 g8 w8 hst hle8 hcs8 hp8
  replace hlesum := Mem.le.trans hlesum hle8
  replace ha := ha.mono hle8
  replace hb := hb.mono hle8
  replace h12 := h12.mono hle8
  replace h13 := h13.mono hle8
  replace h15 := h15.mono hle8
  obtain ⟨p16, q16, a16, rfl, h16⟩ := hp8
  refine stepD_tail ?_
  refine stepK_store 2 rfl rfl rfl rfl rfl rfl zf31 rfl rfl hst rfl (by first | (simp [uN_length]; omega) | simp) ?_
  clear hst
  intro w9 hst
  simp only [zL, splice, Nat.reduceAdd] at hst
  refine znt ?_
  refine cp_ret ?_
  refine ret1c (k := 2) rfl rfl (by kernel_rfl) (by kernel_rfl) rfl hst rfl ?_
  rw [mod_rat hm] at h16
  exact ⟨_, _, _, rfl, h16⟩

end Go.Proofs.YtcjhnkmoloiepaaDoor

namespace Go.Proofs.YtcjhnkmoloiepaaDoor
open Go Go.RowKit Go.Proofs.Vc
set_option linter.unusedVariables false
set_option linter.unusedSimpArgs false

set_option maxHeartbeats 4000000 in
theorem mod_Reduce {g : Mem} {w : World} (hag : Agree g w) {a : ByteArray} (ha : a.size ≤ 100000) {p : Int} (z3 : -9223372036854775808 ≤ p) (z4 : p ≤ 9223372036854775807)  :
    CallTo Tryd.prog 15 #[.string a, .int .i64 p] w (Ret w g fun v g => v = .tuple #[.int .i64 (if RedOk a p then redM (getR a) p else 0), .bool (decide (RedOk a p))]) := by
  refine CallTo.enter (vs := [.string a, .int .i64 p]) zf88 (by kernel_rfl) rfl rfl rfl ?_
  have hst := St.init hag
  have sx := (getR_sz a).mono (m := 100001) (by omega)
  have fx := sx.fit (by decide)
  refine zsr ?_
  refine zA rfl hst rfl ?_
  refine zA rfl hst rfl ?_
  refine znq ?_
  refine zsr ?_
  refine zM rfl hst rfl ?_
  refine stepK_call rfl rfl rfl rfl rfl hst (mod_IsPrime hst.agree z3 z4) ?_
  clear hst
  intro v1 g1 w1 hst hle1 hcs1 hp1
  obtain rfl := hp1
  refine stepK_d rfl rfl rfl hst (does_not rfl rfl) ?_
  refine znt ?_
  refine cp_cond rfl ?_ ?_
  intro c17
  have hno : ¬ RedOk a p := fun h => not_prm c17 h.1
  refine zsr ?_
  refine zA rfl hst rfl ?_
  refine zA rfl hst rfl ?_
  refine zn5 ?_
  refine ret2 rfl rfl rfl hst ?_
  rw [if_neg hno, decide_eq_false hno]
  intro c17
  have hp := is_prm c17
  have hp0 : 0 < p := by have := hp.1; omega
  have hp1 := hp.2.1
  have hp2 := hp.1
  have sp := int_sz z3 z4
  refine zk4 ?_
  refine zM rfl hst rfl ?_
  refine stepK_call rfl rfl rfl rfl rfl hst (num_Of hst.agree (by omega)) ?_
  clear hst
  intro v2 g2 w2 hst hle2 hcs2 hp2
  obtain ⟨p1, q1, a1, rfl, h1⟩ := hp2
  refine zM rfl hst rfl ?_
  refine zE rfl hst rfl rfl ?_
  refine zE rfl hst rfl rfl ?_
  refine stepK_alloc rfl rfl rfl rfl zf29 rfl hst ?_
  clear hst
  intro b6 w3 hst
  refine stepK_store 0 rfl rfl rfl rfl rfl rfl zf31 rfl rfl hst rfl (by first | (simp [uN_length]; omega) | simp) ?_
  clear hst
  intro w4 hst
  simp only [zL, splice, Nat.reduceAdd] at hst
  refine zA rfl hst rfl ?_
  refine znq ?_
  refine zsr ?_
  refine zM rfl hst rfl ?_
  refine stepK_d rfl rfl rfl hst (does_not rfl rfl) ?_
  refine znt ?_
  refine cp_cond rfl ?_ ?_
  intro c24
  have hno : ¬ RedOk a p := fun h => by have := h.2.1; rw [this] at c24; cases c24
  refine zsr ?_
  refine zA rfl hst rfl ?_
  refine zA rfl hst rfl ?_
  refine zn5 ?_
  refine ret2 rfl rfl rfl hst ?_
  rw [if_neg hno, decide_eq_false hno]
  intro c24
  have hs1 : (readR a).isSome = true := by simpa using c24
  refine zk4 ?_
  refine zM rfl hst rfl ?_
  refine stepK_call rfl rfl rfl rfl rfl hst (num_Int hst.agree z3 z4) ?_
  clear hst
  intro v5 g5 w5 hst hle5 hcs5 hp5
  replace h1 := h1.mono hle5
  obtain ⟨p2, q2, a2, rfl, h2⟩ := hp5
  refine stepK_alloc rfl rfl rfl rfl zf29 rfl hst ?_
  clear hst
  intro b8 w6 hst
  refine stepK_store 1 rfl rfl rfl rfl rfl rfl zf31 rfl rfl hst rfl (by first | (simp [uN_length]; omega) | simp) ?_
  clear hst
  intro w7 hst
  simp only [zL, splice, Nat.reduceAdd] at hst
  refine znq ?_
  refine cp_drawn (by kernel_rfl) 10 [(0, true), (2, true), (1, false), (3, false), (4, false), (5, true), (6, true), (7, true), (8, true), (9, true)] _ rfl (by kernel_rfl) (by kernel_rfl) (by kernel_rfl) (fun _ _ _ _ _ h => h) _ (hst.drew) ?_
  have hst0 := hst.drew
  clear hst
  have hst := hst0
  refine stepD_d rfl rfl rfl rfl (does_load_ownN 0 rfl (by kernel_rfl) zf31 rfl rfl rfl) ?_
  refine stepD_d rfl rfl rfl rfl (does_load_ownN 1 rfl (by kernel_rfl) zf31 rfl rfl rfl) ?_
  refine stepD_call rfl rfl rfl rfl rfl rfl hst (Rat_Num hst.agree h1) (fun _ _ h hle => St.older h hle (by simp) hst0.ext hst0.le) ?_
  clear hst
  intro v8 g8 w8 hst hle8 hcs8 hp8
  have hlesum := hle8
  replace h1 := h1.mono hle8
  replace h2 := h2.mono hle8
  obtain ⟨p29, q29, a29, rfl, h29⟩ := hp8
  refine stepD_call rfl rfl rfl rfl rfl rfl hst (Rat_Mod hst.agree h29 h2 hp0 (k := 100001) sx.numI (sp.mono (by decide)) (by decide)) (fun _ _ h hle => St.older h (Mem.le.trans hlesum hle) (by simp) hst0.ext hst0.le) ?_
  clear hst
  intro v9 g9 w9 hst hle9 hcs9 hp9
  replace hlesum := Mem.le.trans hlesum hle9
  replace h1 := h1.mono hle9
  replace h2 := h2.mono hle9
  replace h29 := h29.mono hle9
  obtain ⟨p31, q31, a31, rfl, h31⟩ := hp9
  refine stepD_call rfl rfl rfl rfl rfl rfl hst (Rat_Int64 hst.agree h31 ((intR_sz (k := 20) (by have := Int.emod_nonneg (getR a).num (show p ≠ 0 by omega); have := Int.emod_lt_of_pos (getR a).num hp0; omega) (by decide)).fit (by decide))) (fun _ _ h hle => St.older h (Mem.le.trans hlesum hle) (by simp) hst0.ext hst0.le) ?_
  clear hst
  intro v10 g10 w10 hst hle10 hcs10 hp10
  replace hlesum := Mem.le.trans hlesum hle10
  replace h1 := h1.mono hle10
  replace h2 := h2.mono hle10
  replace h29 := h29.mono hle10
  replace h31 := h31.mono hle10
  obtain rfl := hp10
  rw [if_pos (i64_mod hp0 hp1), Rat.num_intCast]
  refine stepD_d rfl rfl rfl rfl (does_move rfl rfl) ?_
  refine stepD_d rfl rfl rfl rfl (does_extract rfl rfl rfl) ?_
  refine stepD_d rfl rfl rfl rfl (does_extract rfl rfl rfl) ?_
  refine stepD_d rfl rfl rfl rfl (does_assign rfl rfl) ?_
  refine stepD_d rfl rfl rfl rfl (does_assign rfl rfl) ?_
  refine stepD_tail ?_
  refine znq ?_
  refine cp_drawn (by kernel_rfl) 10 [(0, true), (2, true), (1, false), (3, false), (4, false), (5, true), (6, true), (7, true), (8, true), (9, true)] _ rfl (by kernel_rfl) (by kernel_rfl) (by kernel_rfl) (fun _ _ _ _ _ h => h) _ (hst.drew) ?_
  have hst0 := hst.drew
  clear hst
  have hst := hst0
  refine stepD_d rfl rfl rfl rfl (does_load_ownN 0 rfl (by kernel_rfl) zf31 rfl rfl rfl) ?_
  refine stepD_d rfl rfl rfl rfl (does_load_ownN 1 rfl (by kernel_rfl) zf31 rfl rfl rfl) ?_
  refine stepD_call rfl rfl rfl rfl rfl rfl hst (Rat_Den hst.agree h1) (fun _ _ h hle => St.older h hle (by simp) hst0.ext hst0.le) ?_
  clear hst
  intro v11 g11 w11 hst hle11 hcs11 hp11
  have hlesum := hle11
  replace h1 := h1.mono hle11
  replace h2 := h2.mono hle11
  replace h29 := h29.mono hle11
  replace h31 := h31.mono hle11
  obtain ⟨p37, q37, a37, rfl, h37⟩ := hp11
  refine stepD_call rfl rfl rfl rfl rfl rfl hst (Rat_Mod hst.agree h37 h2 hp0 (k := 100001) sx.denI (sp.mono (by decide)) (by decide)) (fun _ _ h hle => St.older h (Mem.le.trans hlesum hle) (by simp) hst0.ext hst0.le) ?_
  clear hst
  intro v12 g12 w12 hst hle12 hcs12 hp12
  replace hlesum := Mem.le.trans hlesum hle12
  replace h1 := h1.mono hle12
  replace h2 := h2.mono hle12
  replace h29 := h29.mono hle12
  replace h31 := h31.mono hle12
  replace h37 := h37.mono hle12
  obtain ⟨p39, q39, a39, rfl, h39⟩ := hp12
  refine stepD_call rfl rfl rfl rfl rfl rfl hst (Rat_Int64 hst.agree h39 ((intR_sz (k := 20) (by have := Int.emod_nonneg ((getR a).den : Int) (show p ≠ 0 by omega); have := Int.emod_lt_of_pos ((getR a).den : Int) hp0; omega) (by decide)).fit (by decide))) (fun _ _ h hle => St.older h (Mem.le.trans hlesum hle) (by simp) hst0.ext hst0.le) ?_
  clear hst
  intro v13 g13 w13 hst hle13 hcs13 hp13
  replace hlesum := Mem.le.trans hlesum hle13
  replace h1 := h1.mono hle13
  replace h2 := h2.mono hle13
  replace h29 := h29.mono hle13
  replace h31 := h31.mono hle13
  replace h37 := h37.mono hle13
  replace h39 := h39.mono hle13
  obtain rfl := hp13
  rw [if_pos (i64_mod hp0 hp1), Rat.num_intCast]
  refine stepD_d rfl rfl rfl rfl (does_move rfl rfl) ?_
  refine stepD_d rfl rfl rfl rfl (does_extract rfl rfl rfl) ?_
  refine stepD_d rfl rfl rfl rfl (does_extract rfl rfl rfl) ?_
  refine stepD_d rfl rfl rfl rfl (does_assign rfl rfl) ?_
  refine stepD_d rfl rfl rfl rfl (does_assign rfl rfl) ?_
  refine stepD_tail ?_
  refine znq ?_
  have hb1 := Int.emod_nonneg ((getR a).den : Int) (show p ≠ 0 by omega)
  have hb2 := Int.emod_lt_of_pos ((getR a).den : Int) hp0
  have hb3 := Int.emod_nonneg (getR a).num (show p ≠ 0 by omega)
  have hb4 := Int.emod_lt_of_pos (getR a).num hp0
  refine cp_region ?_
  refine zM rfl hst rfl ?_
  refine zM rfl hst rfl ?_
  refine stepK_call rfl rfl rfl rfl rfl hst (mod_Inverse (a := ((getR a).den : Int) % p) hst.agree (by omega) (by omega) z3 z4) ?_
  clear hst
  intro v14 g14 w14 hst hle14 hcs14 hp14
  replace h1 := h1.mono hle14
  replace h2 := h2.mono hle14
  replace h29 := h29.mono hle14
  replace h31 := h31.mono hle14
  replace h37 := h37.mono hle14
  replace h39 := h39.mono hle14
  obtain rfl := hp14
  rw [Int.emod_emod, invM_mod]
  refine zM rfl hst rfl ?_
  refine zE rfl hst rfl rfl ?_
  refine zE rfl hst rfl rfl ?_
  refine zA rfl hst rfl ?_
  refine zA rfl hst rfl ?_
  refine znq ?_
  refine zsr ?_
  refine zM rfl hst rfl ?_
  refine stepK_d rfl rfl rfl hst (does_not rfl rfl) ?_
  refine znt ?_
  refine cp_cond rfl ?_ ?_
  intro c50
  have hno : ¬ RedOk a p := fun h => by rw [decide_eq_true (show Prm p ∧ ¬ ((getR a).den : Int) % p = 0 from ⟨hp, h.2.2⟩)] at c50; cases c50
  refine zsr ?_
  refine zA rfl hst rfl ?_
  refine zA rfl hst rfl ?_
  refine zn5 ?_
  refine ret2 rfl rfl rfl hst ?_
  rw [if_neg hno, decide_eq_false hno]
  intro c50
  have hnd : Prm p ∧ ¬ ((getR a).den : Int) % p = 0 := of_decide_eq_true (by simpa using c50)
  have hyes : RedOk a p := ⟨hp, hs1, hnd.2⟩
  rw [if_pos hnd]
  obtain ⟨hi1, hi2⟩ := invM_bound (a := ((getR a).den : Int)) hp2
  obtain ⟨N, hN⟩ : ∃ N : Nat, (N : Int) = (getR a).num % p := ⟨((getR a).num % p).toNat, by omega⟩
  obtain ⟨I, hI⟩ : ∃ I : Nat, (I : Int) = invM ((getR a).den : Int) p := ⟨(invM ((getR a).den : Int) p).toNat, by omega⟩
  obtain ⟨P, hP⟩ : ∃ P : Nat, (P : Int) = p := ⟨p.toNat, by omega⟩
  have hmul := mul32 (x := N) (y := I) (by omega) (by omega)
  have hml := Nat.mod_lt (N * I) (show 0 < P by omega)
  refine zk4 ?_
  refine zM rfl hst rfl ?_
  refine stepK_d rfl rfl rfl hst (Does.nat (b := N) (does_conv rfl (by kernel_rfl) (by kernel_rfl) rfl) (by rw [IntKind.wrap_u64]; omega)) ?_
  refine zM rfl hst rfl ?_
  refine stepK_d rfl rfl rfl hst (Does.nat (b := I) (does_conv rfl (by kernel_rfl) (by kernel_rfl) rfl) (by rw [IntKind.wrap_u64]; omega)) ?_
  refine stepK_d rfl rfl rfl hst (does_mul_u64x rfl rfl rfl (by omega)) ?_
  refine zM rfl hst rfl ?_
  refine stepK_d rfl rfl rfl hst (Does.nat (b := P) (does_conv rfl (by kernel_rfl) (by kernel_rfl) rfl) (by rw [IntKind.wrap_u64]; omega)) ?_
  refine stepK_d rfl rfl rfl hst (does_rem_n rfl rfl rfl (by omega)) ?_
  refine stepK_d rfl rfl rfl hst (does_conv_n_i64 rfl (by kernel_rfl) (by kernel_rfl) rfl (by omega)) ?_
  refine zA rfl hst rfl ?_
  refine zA rfl hst rfl ?_
  refine znt ?_
  refine cp_ret ?_
  refine ret2 rfl rfl rfl hst ?_
  rw [if_pos hyes, decide_eq_true hyes, redM_nat hN hI hP]

end Go.Proofs.YtcjhnkmoloiepaaDoor
