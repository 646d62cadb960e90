/- A helper of the claim: general lemmas and walks of functions, printed by a program of this session. Conditions: none. -/
import Derived.Test.YtnbcedkpkcgmkaaGreatDoorF5
import Derived.Test.YtnbcedkpkcgmkaaGreatDoorKN
import Derived.Test.YtnbcedkpkcgmkaaGreatDoorProg
import Derived.Test.YtnbcedkpkcgmkaaGreatDoorF6
import Derived.Test.YtnbcedkpkcgmkaaGreatDoorQ2
import Derived.Test.YtnbcedkpkcgmkaaGreatDoorF0
namespace Go.Proofs.YtnbcedkpkcgmkaaGreatDoor
open Go Go.RowKit Go.Proofs.Vc
set_option linter.unusedVariables false
set_option linter.unusedSimpArgs false

set_option maxHeartbeats 1000000 in
theorem simplest_step {N k : Nat} (hk : k ≤ 100000) (ih : ∀ {g : Mem} {w : World} (hag : Agree g w) {p q : Int} {a : Option Addr} {r : Rat} (ha : IsRat g p q a r) {s t : Int} {b : Option Addr} {x : Rat} (hb : IsRat g s t b x), 0 < r → r ≤ x → Sz k r → Sz k x → r.den + x.den ≤ N → CallTo Tryz.prog 73 #[.agg #[.int .i64 p, .int .i64 q, .pointer a], .agg #[.int .i64 s, .int .i64 t, .pointer b]] w (Ret w g fun v g => ∃ p q a, v = .agg #[.int .i64 p, .int .i64 q, .pointer a] ∧ IsRat g p q a (simpF N r x))) {g : Mem} {w : World} (hag : Agree g w) {p q : Int} {a : Option Addr} {r : Rat} (ha : IsRat g p q a r) {s t : Int} {b : Option Addr} {x : Rat} (hb : IsRat g s t b x) (h0 : 0 < r) (hle : r ≤ x) (hz1 : Sz k r) (hz2 : Sz k x) (hN : r.den + x.den ≤ N + 1) :
    CallTo Tryz.prog 73 #[.agg #[.int .i64 p, .int .i64 q, .pointer a], .agg #[.int .i64 s, .int .i64 t, .pointer b]] w (Ret w g fun v g => ∃ p q a, v = .agg #[.int .i64 p, .int .i64 q, .pointer a] ∧ IsRat g p q a (simpF (N + 1) r x)) := by
  refine CallTo.enter (vs := [.agg #[.int .i64 p, .int .i64 q, .pointer a], .agg #[.int .i64 s, .int .i64 t, .pointer b]]) zf130 (by kernel_rfl) rfl rfl rfl ?_
  have hst := St.init hag
  have sf := floor_sz hz1
  have sc : Sz k ((ceilR r : Int) : Rat) := by rw [ceilR_cast]; exact (floor_sz hz1.neg).neg
  have fr : Fit r := hz1.fit (by omega)
  have fx : Fit x := hz2.fit (by omega)
  have ff := sf.fit (by omega)
  have fc := sc.fit (by omega)
  refine zsr ?_
  refine stepK_box rfl rfl rfl rfl rfl rfl hst ?_
  clear hst
  intro b1 w1 hst
  refine stepK_box rfl rfl rfl rfl rfl rfl hst ?_
  clear hst
  intro b2 w2 hst
  refine stepK_alloc rfl rfl rfl rfl zf29 rfl hst ?_
  clear hst
  intro b3 w3 hst
  refine zn4 ?_
  refine stepK_d rfl rfl rfl hst (does_load_ownN 0 rfl (by kernel_rfl) zf31 rfl rfl rfl) ?_
  refine stepK_call rfl rfl rfl rfl rfl hst (Rat_Ceil hst.agree ha fr) ?_
  clear hst
  intro v4 g4 w4 hst hle4 hcs4 hp4
  replace ha := ha.mono hle4
  replace hb := hb.mono hle4
  obtain ⟨p7, q7, a7, rfl, h7⟩ := hp4
  rw [← ceilR_cast] at h7
  refine stepK_store 2 rfl rfl rfl rfl rfl rfl zf31 rfl rfl hst rfl (by first | (simp [uN_length]; omega) | simp) ?_
  clear hst
  intro w5 hst
  simp only [zL, splice, Nat.reduceAdd] at hst
  refine znq ?_
  refine zsr ?_
  refine stepK_d rfl rfl rfl hst (does_load_ownN 2 rfl (by kernel_rfl) zf31 rfl rfl rfl) ?_
  refine stepK_d rfl rfl rfl hst (does_load_ownN 1 rfl (by kernel_rfl) zf31 rfl rfl rfl) ?_
  refine stepK_call rfl rfl rfl rfl rfl hst (Rat_Cmp hst.agree h7 hb fc fx) ?_
  clear hst
  intro v6 g6 w6 hst hle6 hcs6 hp6
  replace ha := ha.mono hle6
  replace hb := hb.mono hle6
  replace h7 := h7.mono hle6
  obtain rfl := hp6
  refine stepK_d rfl rfl rfl hst (does_leq rfl rfl rfl) ?_
  refine znt ?_
  refine cp_if rfl ?_ ?_
  intro c11
  have hc := sgn_le.1 c11
  refine zsr ?_
  refine stepK_d rfl rfl rfl hst (does_load_ownN 2 rfl (by kernel_rfl) zf31 rfl rfl rfl) ?_
  refine stepK_store 2 rfl rfl rfl rfl rfl rfl zf31 rfl rfl hst rfl (by first | (simp [uN_length]; omega) | simp) ?_
  clear hst
  intro w7 hst
  simp only [zL, splice, Nat.reduceAdd] at hst
  refine zn5 ?_
  refine ret1c (k := 2) rfl rfl (by kernel_rfl) (by kernel_rfl) rfl hst rfl ?_
  rw [simpF_eq hc]
  exact ⟨_, _, _, rfl, h7⟩
  intro c11
  have hc := fun h => c11 (sgn_le.2 h)
  obtain ⟨s1, s2⟩ := simp_sz h0 hle hc hz1 hz2
  obtain ⟨d1, d2, d3, d4⟩ := simp_den h0 hle hc
  obtain ⟨_, _, _, _, _, hle2⟩ := simp_step h0 hle hc
  have hp := simp_pos h0 hle hc
  have sr := simpF_sz hp hle2 (n := N) (by omega) s1
  refine zk4 ?_
  refine stepK_d rfl rfl rfl hst (does_load_ownN 0 rfl (by kernel_rfl) zf31 rfl rfl rfl) ?_
  refine stepK_call rfl rfl rfl rfl rfl hst (Rat_Floor hst.agree ha fr) ?_
  clear hst
  intro v8 g8 w8 hst hle8 hcs8 hp8
  replace ha := ha.mono hle8
  replace hb := hb.mono hle8
  replace h7 := h7.mono hle8
  obtain ⟨p14, q14, a14, rfl, h14⟩ := hp8
  refine stepK_alloc rfl rfl rfl rfl zf29 rfl hst ?_
  clear hst
  intro b9 w9 hst
  refine stepK_store 3 rfl rfl rfl rfl rfl rfl zf31 rfl rfl hst rfl (by first | (simp [uN_length]; omega) | simp) ?_
  clear hst
  intro w10 hst
  simp only [zL, splice, Nat.reduceAdd] at hst
  refine znq ?_
  refine cp_drawn (by kernel_rfl) 12 [(0, true), (1, true), (2, true), (5, true), (6, true), (3, false), (4, false), (7, false), (8, false), (9, false), (10, false), (11, false)] _ rfl (by kernel_rfl) (by kernel_rfl) (by kernel_rfl) (fun _ _ _ _ _ h => h) _ (hst.drew) ?_
  have hst0 := hst.drew
  clear hst
  have hst := hst0
  refine stepD_d rfl rfl rfl rfl (does_load_ownN 3 rfl (by kernel_rfl) zf31 rfl rfl rfl) ?_
  refine stepD_d rfl rfl rfl rfl (does_load_ownN 1 rfl (by kernel_rfl) zf31 rfl rfl rfl) ?_
  refine stepD_d rfl rfl rfl rfl (does_load_ownN 3 rfl (by kernel_rfl) zf31 rfl rfl rfl) ?_
  refine stepD_d rfl rfl rfl rfl (does_load_ownN 0 rfl (by kernel_rfl) zf31 rfl rfl rfl) ?_
  refine stepD_d rfl rfl rfl rfl (does_load_ownN 3 rfl (by kernel_rfl) zf31 rfl rfl rfl) ?_
  refine stepD_call rfl rfl rfl rfl rfl rfl hst (Rat_Sub hst.agree hb h14 fx ff) (fun _ _ h hle => St.older h hle (by simp) hst0.ext hst0.le) ?_
  clear hst
  intro v11 g11 w11 hst hle11 hcs11 hp11
  have hlesum := hle11
  replace ha := ha.mono hle11
  replace hb := hb.mono hle11
  replace h7 := h7.mono hle11
  replace h14 := h14.mono hle11
  obtain ⟨p18, q18, a18, rfl, h18⟩ := hp11
  refine stepD_call rfl rfl rfl rfl rfl rfl hst (Rat_Inv hst.agree h18) (fun _ _ h hle => St.older h (Mem.le.trans hlesum hle) (by simp) hst0.ext hst0.le) ?_
  clear hst
  intro v12 g12 w12 hst hle12 hcs12 hp12
  replace hlesum := Mem.le.trans hlesum hle12
  replace ha := ha.mono hle12
  replace hb := hb.mono hle12
  replace h7 := h7.mono hle12
  replace h14 := h14.mono hle12
  replace h18 := h18.mono hle12
  obtain ⟨p19, q19, a19, rfl, h19⟩ := hp12
  refine stepD_call rfl rfl rfl rfl rfl rfl hst (Rat_Sub hst.agree ha h14 fr ff) (fun _ _ h hle => St.older h (Mem.le.trans hlesum hle) (by simp) hst0.ext hst0.le) ?_
  clear hst
  intro v13 g13 w13 hst hle13 hcs13 hp13
  replace hlesum := Mem.le.trans hlesum hle13
  replace ha := ha.mono hle13
  replace hb := hb.mono hle13
  replace h7 := h7.mono hle13
  replace h14 := h14.mono hle13
  replace h18 := h18.mono hle13
  replace h19 := h19.mono hle13
  obtain ⟨p22, q22, a22, rfl, h22⟩ := hp13
  refine stepD_call rfl rfl rfl rfl rfl rfl hst (Rat_Inv hst.agree h22) (fun _ _ h hle => St.older h (Mem.le.trans hlesum hle) (by simp) hst0.ext hst0.le) ?_
  clear hst
  intro v14 g14 w14 hst hle14 hcs14 hp14
  replace hlesum := Mem.le.trans hlesum hle14
  replace ha := ha.mono hle14
  replace hb := hb.mono hle14
  replace h7 := h7.mono hle14
  replace h14 := h14.mono hle14
  replace h18 := h18.mono hle14
  replace h19 := h19.mono hle14
  replace h22 := h22.mono hle14
  obtain ⟨p23, q23, a23, rfl, h23⟩ := hp14
  refine stepD_call rfl rfl rfl rfl rfl rfl hst (ih hst.agree h19 h23 hp hle2 s1 s2 (by omega)) (fun _ _ h hle => St.older h (Mem.le.trans hlesum hle) (by simp) hst0.ext hst0.le) ?_
  clear hst
  intro v15 g15 w15 hst hle15 hcs15 hp15
  replace hlesum := Mem.le.trans hlesum hle15
  replace ha := ha.mono hle15
  replace hb := hb.mono hle15
  replace h7 := h7.mono hle15
  replace h14 := h14.mono hle15
  replace h18 := h18.mono hle15
  replace h19 := h19.mono hle15
  replace h22 := h22.mono hle15
  replace h23 := h23.mono hle15
  obtain ⟨p24, q24, a24, rfl, h24⟩ := hp15
  refine stepD_call rfl rfl rfl rfl rfl rfl hst (Rat_Inv hst.agree h24) (fun _ _ h hle => St.older h (Mem.le.trans hlesum hle) (by simp) hst0.ext hst0.le) ?_
  clear hst
  intro v16 g16 w16 hst hle16 hcs16 hp16
  replace hlesum := Mem.le.trans hlesum hle16
  replace ha := ha.mono hle16
  replace hb := hb.mono hle16
  replace h7 := h7.mono hle16
  replace h14 := h14.mono hle16
  replace h18 := h18.mono hle16
  replace h19 := h19.mono hle16
  replace h22 := h22.mono hle16
  replace h23 := h23.mono hle16
  replace h24 := h24.mono hle16
  obtain ⟨p25, q25, a25, rfl, h25⟩ := hp16
  refine stepD_call rfl rfl rfl rfl rfl rfl hst (Rat_Add hst.agree h14 h25 ff (sr.inv.fit (by omega))) (fun _ _ h hle => St.older h (Mem.le.trans hlesum hle) (by simp) hst0.ext hst0.le) ?_
  clear hst
  intro v17 g17 w17 hst hle17 hcs17 hp17
  replace hlesum := Mem.le.trans hlesum hle17
  replace ha := ha.mono hle17
  replace hb := hb.mono hle17
  replace h7 := h7.mono hle17
  replace h14 := h14.mono hle17
  replace h18 := h18.mono hle17
  replace h19 := h19.mono hle17
  replace h22 := h22.mono hle17
  replace h23 := h23.mono hle17
  replace h24 := h24.mono hle17
  replace h25 := h25.mono hle17
  obtain ⟨p26, q26, a26, rfl, h26⟩ := hp17
  refine stepD_tail ?_
  refine stepK_store 2 rfl rfl rfl rfl rfl rfl zf31 rfl rfl hst rfl (by first | (simp [uN_length]; omega) | simp) ?_
  clear hst
  intro w18 hst
  simp only [zL, splice, Nat.reduceAdd] at hst
  refine znt ?_
  refine cp_ret ?_
  refine ret1c (k := 2) rfl rfl (by kernel_rfl) (by kernel_rfl) rfl hst rfl ?_
  rw [simpF_more hc]
  exact ⟨_, _, _, rfl, h26⟩


theorem nearest_simplest {k : Nat} (hk : k ≤ 100000) : ∀ (N : Nat) {g : Mem} {w : World} (hag : Agree g w) {p q : Int} {a : Option Addr} {r : Rat} (ha : IsRat g p q a r) {s t : Int} {b : Option Addr} {x : Rat} (hb : IsRat g s t b x), 0 < r → r ≤ x → Sz k r → Sz k x → r.den + x.den ≤ N → CallTo Tryz.prog 73 #[.agg #[.int .i64 p, .int .i64 q, .pointer a], .agg #[.int .i64 s, .int .i64 t, .pointer b]] w (Ret w g fun v g => ∃ p q a, v = .agg #[.int .i64 p, .int .i64 q, .pointer a] ∧ IsRat g p q a (simpF N r x))
  | 0, g, w, hag, p, q, a, r, ha, s, t, b, x, hb, h0, hle, hz1, hz2, hN => by have := r.den_nz; omega
  | N + 1, g, w, hag, p, q, a, r, ha, s, t, b, x, hb, h0, hle, hz1, hz2, hN => simplest_step hk (fun {_ _} hag {_ _ _ _} ha {_ _ _ _} hb h0 hle hz1 hz2 hN => nearest_simplest hk N hag ha hb h0 hle hz1 hz2 hN) hag ha hb h0 hle hz1 hz2 hN

end Go.Proofs.YtnbcedkpkcgmkaaGreatDoor

namespace Go.Proofs.YtnbcedkpkcgmkaaGreatDoor
open Go Go.RowKit Go.Proofs.Vc
set_option linter.unusedVariables false
set_option linter.unusedSimpArgs false

set_option maxHeartbeats 1000000 in
theorem nearest_Simplest {g : Mem} {w : World} (hag : Agree g w) (hT : TabG Tryz.prog g) {a b : ByteArray} (ha : a.size ≤ 60) (hb : b.size ≤ 60) :
    CallTo Tryz.prog 32 #[.string a, .string b] w (Ret w g fun v g => v = .tuple #[.string (if (readR a).isSome ∧ (readR b).isSome ∧ getR a ≤ getR b then ratS (simpZ (getR a) (getR b)) else ⟨#[]⟩), .int .i64 (if (readR a).isSome ∧ (readR b).isSome then (if getR a ≤ getR b then 0 else 3) else 1)]) := by
  refine CallTo.enter (vs := [.string a, .string b]) zf131 (by kernel_rfl) rfl rfl rfl ?_
  have hst := St.init hag
  have sx := (getR_sz a).mono (m := 61) (by omega)
  have sy := (getR_sz b).mono (m := 61) (by omega)
  have fx := sx.fit (by decide)
  have fy := sy.fit (by decide)
  refine zsr ?_
  refine zA rfl hst rfl ?_
  refine zA rfl hst rfl ?_
  refine zn4 ?_
  refine zM rfl hst rfl ?_
  refine stepK_call rfl rfl rfl rfl rfl hst (num_Of hst.agree (by omega)) ?_
  clear hst
  intro v1 g1 w1 hst hle1 hcs1 hp1
  replace hT := hT.mono hle1
  obtain ⟨p1, q1, a1, rfl, h1⟩ := hp1
  refine zM rfl hst rfl ?_
  refine zE rfl hst rfl rfl ?_
  refine zE rfl hst rfl rfl ?_
  refine stepK_alloc rfl rfl rfl rfl zf29 rfl hst ?_
  clear hst
  intro b2 w2 hst
  refine stepK_store 0 rfl rfl rfl rfl rfl rfl zf31 rfl rfl hst rfl (by first | (simp [uN_length]; omega) | simp) ?_
  clear hst
  intro w3 hst
  simp only [zL, splice, Nat.reduceAdd] at hst
  refine zA rfl hst rfl ?_
  refine zn4 ?_
  refine zM rfl hst rfl ?_
  refine stepK_call rfl rfl rfl rfl rfl hst (num_Of hst.agree (by omega)) ?_
  clear hst
  intro v4 g4 w4 hst hle4 hcs4 hp4
  replace hT := hT.mono hle4
  replace h1 := h1.mono hle4
  obtain ⟨p2, q2, a2, rfl, h2⟩ := hp4
  refine zM rfl hst rfl ?_
  refine zE rfl hst rfl rfl ?_
  refine zE rfl hst rfl rfl ?_
  refine stepK_alloc rfl rfl rfl rfl zf29 rfl hst ?_
  clear hst
  intro b5 w5 hst
  refine stepK_store 1 rfl rfl rfl rfl rfl rfl zf31 rfl rfl hst rfl (by first | (simp [uN_length]; omega) | simp) ?_
  clear hst
  intro w6 hst
  simp only [zL, splice, Nat.reduceAdd] at hst
  refine zA rfl hst rfl ?_
  refine znq ?_
  refine cp_block ?_
  refine zsr ?_
  refine zM rfl hst rfl ?_
  refine stepK_d rfl rfl rfl hst (does_not rfl rfl) ?_
  refine zM rfl hst rfl ?_
  refine wpK_splitb (t := 23) rfl ?_ ?_
  intro s23
  have hno : ¬ ((readR a).isSome ∧ (readR b).isSome) := fun h => by rw [h.1] at s23; cases s23
  refine stepK_pass rfl rfl rfl rfl rfl rfl rfl ?_
  refine stepK_pass rfl rfl rfl rfl rfl rfl rfl ?_
  refine stepK_d rfl rfl rfl hst (does_pick_true rfl rfl rfl) ?_
  refine zA rfl hst rfl ?_
  refine znt ?_
  refine cp_cond_true rfl ?_
  refine zsr ?_
  refine zA rfl hst rfl ?_
  refine zA rfl hst rfl ?_
  refine znt ?_
  refine cp_ret ?_
  refine at_block_ret ?_
  refine at_then_ret ?_
  refine ret2 rfl rfl rfl hst ?_
  rw [if_neg (fun h => hno ⟨h.1, h.2.1⟩), if_neg hno]
  intro s23
  have hs1 : (readR a).isSome = true := by simpa using s23
  refine stepK_guard rfl rfl rfl rfl rfl rfl hst (does_move rfl rfl) ?_
  refine stepK_guard rfl rfl rfl rfl rfl rfl hst (does_not rfl rfl) ?_
  refine stepK_d rfl rfl rfl hst (does_pick_false rfl rfl rfl) ?_
  refine zA rfl hst rfl ?_
  refine znt ?_
  refine cp_cond rfl ?_ ?_
  intro c20
  have hno : ¬ ((readR a).isSome ∧ (readR b).isSome) := fun h => by first | (rw [h.2] at c20; cases c20; done) | (rw [h.1] at c20; cases c20; done)
  refine zsr ?_
  refine zA rfl hst rfl ?_
  refine zA rfl hst rfl ?_
  refine znt ?_
  refine cp_ret ?_
  refine at_block_ret ?_
  refine at_then_ret ?_
  refine ret2 rfl rfl rfl hst ?_
  rw [if_neg (fun h => hno ⟨h.1, h.2.1⟩), if_neg hno]
  intro c20
  have hs2 : (readR b).isSome = true := by simpa using c20
  refine zsr ?_
  refine stepK_d rfl rfl rfl hst (does_load_ownN 1 rfl (by kernel_rfl) zf31 rfl rfl rfl) ?_
  refine stepK_d rfl rfl rfl hst (does_load_ownN 0 rfl (by kernel_rfl) zf31 rfl rfl rfl) ?_
  refine stepK_call rfl rfl rfl rfl rfl hst (Rat_Cmp hst.agree h2 h1 fy fx) ?_
  clear hst
  intro v7 g7 w7 hst hle7 hcs7 hp7
  replace hT := hT.mono hle7
  replace h1 := h1.mono hle7
  replace h2 := h2.mono hle7
  obtain rfl := hp7
  refine stepK_d rfl rfl rfl hst (does_lss rfl rfl rfl) ?_
  refine zA rfl hst rfl ?_
  refine znt ?_
  refine cp_if rfl ?_ ?_
  intro c27
  have hle : ¬ getR a ≤ getR b := fun h => sgn_lt.1 c27 h
  refine zsr ?_
  refine zA rfl hst rfl ?_
  refine zA rfl hst rfl ?_
  refine znt ?_
  refine cp_ret ?_
  refine at_block_ret ?_
  refine at_then_ret ?_
  refine ret2 rfl rfl rfl hst ?_
  first
  | rw [if_neg (fun h => hno ⟨h.1, h.2.1⟩), if_neg hno]
  | rw [if_neg (fun h => hle h.2.2), if_pos ⟨hs1, hs2⟩, if_neg hle]
  | rw [if_pos ⟨hs1, hs2, hle⟩, if_pos ⟨hs1, hs2⟩, if_pos hle, simpZ_pos h0]
  | rw [if_pos ⟨hs1, hs2, hle⟩, if_pos ⟨hs1, hs2⟩, if_pos hle, simpZ_neg h0 h9]
  | rw [if_pos ⟨hs1, hs2, hle⟩, if_pos ⟨hs1, hs2⟩, if_pos hle, simpZ_zero h0 h9, t0]
  intro c27
  have hle : getR a ≤ getR b := Decidable.byContradiction fun h => c27 (sgn_lt.2 h)
  refine zsr ?_
  refine stepK_d rfl rfl rfl hst (does_load_ownN 0 rfl (by kernel_rfl) zf31 rfl rfl rfl) ?_
  refine stepK_call rfl rfl rfl rfl rfl hst (Rat_Sign hst.agree h1) ?_
  clear hst
  intro v8 g8 w8 hst hle8 hcs8 hp8
  replace hT := hT.mono hle8
  replace h1 := h1.mono hle8
  replace h2 := h2.mono hle8
  obtain rfl := hp8
  refine stepK_d rfl rfl rfl hst (does_gtr rfl rfl rfl) ?_
  refine zA rfl hst rfl ?_
  refine znt ?_
  refine cp_if rfl ?_ ?_
  intro c32
  have h0 : 0 < getR a := sgn_pos.1 c32
  refine zsr ?_
  refine stepK_d rfl rfl rfl hst (does_load_ownN 0 rfl (by kernel_rfl) zf31 rfl rfl rfl) ?_
  refine stepK_d rfl rfl rfl hst (does_load_ownN 1 rfl (by kernel_rfl) zf31 rfl rfl rfl) ?_
  refine stepK_call rfl rfl rfl rfl rfl hst (nearest_simplest (k := 61) (by decide) ((getR a).den + (getR b).den) hst.agree h1 h2 h0 hle sx sy (Nat.le_refl _)) ?_
  clear hst
  intro v9 g9 w9 hst hle9 hcs9 hp9
  replace hT := hT.mono hle9
  replace h1 := h1.mono hle9
  replace h2 := h2.mono hle9
  obtain ⟨p3, q3, a3, rfl, h3⟩ := hp9
  refine stepK_call rfl rfl rfl rfl rfl hst (Rat_String hst.agree hT h3 ((simpF_sz h0 hle (Nat.le_refl _) sx).fit (by decide))) ?_
  clear hst
  intro v10 g10 w10 hst hle10 hcs10 hp10
  replace hT := hT.mono hle10
  replace h1 := h1.mono hle10
  replace h2 := h2.mono hle10
  replace h3 := h3.mono hle10
  obtain rfl := hp10
  refine zA rfl hst rfl ?_
  refine zA rfl hst rfl ?_
  refine znt ?_
  refine cp_ret ?_
  refine at_block_ret ?_
  refine at_then_ret ?_
  refine ret2 rfl rfl rfl hst ?_
  first
  | rw [if_neg (fun h => hno ⟨h.1, h.2.1⟩), if_neg hno]
  | rw [if_neg (fun h => hle h.2.2), if_pos ⟨hs1, hs2⟩, if_neg hle]
  | rw [if_pos ⟨hs1, hs2, hle⟩, if_pos ⟨hs1, hs2⟩, if_pos hle, simpZ_pos h0]
  | rw [if_pos ⟨hs1, hs2, hle⟩, if_pos ⟨hs1, hs2⟩, if_pos hle, simpZ_neg h0 h9]
  | rw [if_pos ⟨hs1, hs2, hle⟩, if_pos ⟨hs1, hs2⟩, if_pos hle, simpZ_zero h0 h9, t0]
  intro c32
  have h0 : ¬ 0 < getR a := fun h => c32 (sgn_pos.2 h)
  refine zsr ?_
  refine stepK_d rfl rfl rfl hst (does_load_ownN 1 rfl (by kernel_rfl) zf31 rfl rfl rfl) ?_
  refine stepK_call rfl rfl rfl rfl rfl hst (Rat_Sign hst.agree h2) ?_
  clear hst
  intro v11 g11 w11 hst hle11 hcs11 hp11
  replace hT := hT.mono hle11
  replace h1 := h1.mono hle11
  replace h2 := h2.mono hle11
  obtain rfl := hp11
  refine stepK_d rfl rfl rfl hst (does_lss rfl rfl rfl) ?_
  refine zA rfl hst rfl ?_
  refine znt ?_
  refine cp_if rfl ?_ ?_
  intro c40
  have h9 : getR b < 0 := sgn_neg.1 c40
  have hq0 := rat_neg_pos h9
  have hqle := Rat.neg_le_neg hle
  refine cp_seq ?_
  refine cp_drawn (by kernel_rfl) 9 [(0, true), (2, true), (1, false), (3, false), (4, false), (5, false), (6, false), (7, true), (8, true)] _ rfl (by kernel_rfl) (by kernel_rfl) (by kernel_rfl) (fun _ _ _ _ _ h => h) _ (hst.drew) ?_
  have hst0 := hst.drew
  clear hst
  have hst := hst0
  refine stepD_d rfl rfl rfl rfl (does_load_ownN 1 rfl (by kernel_rfl) zf31 rfl rfl rfl) ?_
  refine stepD_d rfl rfl rfl rfl (does_load_ownN 0 rfl (by kernel_rfl) zf31 rfl rfl rfl) ?_
  refine stepD_call rfl rfl rfl rfl rfl rfl hst (Rat_Neg hst.agree h2) (fun _ _ h hle => St.older h hle (by simp) hst0.ext hst0.le) ?_
  clear hst
  intro v12 g12 w12 hst hle12 hcs12 hp12
  have hlesum := hle12
  replace hT := hT.mono hle12
  replace h1 := h1.mono hle12
  replace h2 := h2.mono hle12
  obtain ⟨p4, q4, a4, rfl, h4⟩ := hp12
  refine stepD_call rfl rfl rfl rfl rfl rfl hst (Rat_Neg hst.agree h1) (fun _ _ h hle => St.older h (Mem.le.trans hlesum hle) (by simp) hst0.ext hst0.le) ?_
  clear hst
  intro v13 g13 w13 hst hle13 hcs13 hp13
  replace hlesum := Mem.le.trans hlesum hle13
  replace hT := hT.mono hle13
  replace h1 := h1.mono hle13
  replace h2 := h2.mono hle13
  replace h4 := h4.mono hle13
  obtain ⟨p5, q5, a5, rfl, h5⟩ := hp13
  refine stepD_call rfl rfl rfl rfl rfl rfl hst (nearest_simplest (k := 61) (by decide) ((-getR b).den + (-getR a).den) hst.agree h4 h5 hq0 hqle sy.neg sx.neg (Nat.le_refl _)) (fun _ _ h hle => St.older h (Mem.le.trans hlesum hle) (by simp) hst0.ext hst0.le) ?_
  clear hst
  intro v14 g14 w14 hst hle14 hcs14 hp14
  replace hlesum := Mem.le.trans hlesum hle14
  replace hT := hT.mono hle14
  replace h1 := h1.mono hle14
  replace h2 := h2.mono hle14
  replace h4 := h4.mono hle14
  replace h5 := h5.mono hle14
  obtain ⟨p6, q6, a6, rfl, h6⟩ := hp14
  refine stepD_call rfl rfl rfl rfl rfl rfl hst (Rat_Neg hst.agree h6) (fun _ _ h hle => St.older h (Mem.le.trans hlesum hle) (by simp) hst0.ext hst0.le) ?_
  clear hst
  intro v15 g15 w15 hst hle15 hcs15 hp15
  replace hlesum := Mem.le.trans hlesum hle15
  replace hT := hT.mono hle15
  replace h1 := h1.mono hle15
  replace h2 := h2.mono hle15
  replace h4 := h4.mono hle15
  replace h5 := h5.mono hle15
  replace h6 := h6.mono hle15
  obtain ⟨p7, q7, a7, rfl, h7⟩ := hp15
  refine stepD_call rfl rfl rfl rfl rfl rfl hst (Rat_String hst.agree hT h7 ((simpF_sz hq0 hqle (Nat.le_refl _) sy.neg).neg.fit (by decide))) (fun _ _ h hle => St.older h (Mem.le.trans hlesum hle) (by simp) hst0.ext hst0.le) ?_
  clear hst
  intro v16 g16 w16 hst hle16 hcs16 hp16
  replace hlesum := Mem.le.trans hlesum hle16
  replace hT := hT.mono hle16
  replace h1 := h1.mono hle16
  replace h2 := h2.mono hle16
  replace h4 := h4.mono hle16
  replace h5 := h5.mono hle16
  replace h6 := h6.mono hle16
  replace h7 := h7.mono hle16
  obtain rfl := hp16
  refine stepD_d rfl rfl rfl rfl (does_assign rfl rfl) ?_
  refine stepD_d rfl rfl rfl rfl (does_assign rfl rfl) ?_
  refine stepD_tail ?_
  refine znt ?_
  refine cp_ret ?_
  refine at_block_ret ?_
  refine at_then_ret ?_
  refine ret2 rfl rfl rfl hst ?_
  first
  | rw [if_neg (fun h => hno ⟨h.1, h.2.1⟩), if_neg hno]
  | rw [if_neg (fun h => hle h.2.2), if_pos ⟨hs1, hs2⟩, if_neg hle]
  | rw [if_pos ⟨hs1, hs2, hle⟩, if_pos ⟨hs1, hs2⟩, if_pos hle, simpZ_pos h0]
  | rw [if_pos ⟨hs1, hs2, hle⟩, if_pos ⟨hs1, hs2⟩, if_pos hle, simpZ_neg h0 h9]
  | rw [if_pos ⟨hs1, hs2, hle⟩, if_pos ⟨hs1, hs2⟩, if_pos hle, simpZ_zero h0 h9, t0]
  intro c40
  have h9 : ¬ getR b < 0 := fun h => c40 (sgn_neg.2 h)
  refine cp_skip ?_
  refine at_block_normal ?_
  refine cp_then ?_
  refine zsr ?_
  refine zA rfl hst rfl ?_
  refine zA rfl hst rfl ?_
  refine znt ?_
  refine cp_ret ?_
  refine ret2 rfl rfl rfl hst ?_
  first
  | rw [if_neg (fun h => hno ⟨h.1, h.2.1⟩), if_neg hno]
  | rw [if_neg (fun h => hle h.2.2), if_pos ⟨hs1, hs2⟩, if_neg hle]
  | rw [if_pos ⟨hs1, hs2, hle⟩, if_pos ⟨hs1, hs2⟩, if_pos hle, simpZ_pos h0]
  | rw [if_pos ⟨hs1, hs2, hle⟩, if_pos ⟨hs1, hs2⟩, if_pos hle, simpZ_neg h0 h9]
  | rw [if_pos ⟨hs1, hs2, hle⟩, if_pos ⟨hs1, hs2⟩, if_pos hle, simpZ_zero h0 h9, t0]

end Go.Proofs.YtnbcedkpkcgmkaaGreatDoor

namespace Go.Proofs.YtnbcedkpkcgmkaaGreatDoor
open Go Go.RowKit Go.Proofs.Vc
set_option linter.unusedVariables false
set_option linter.unusedSimpArgs false

set_option maxHeartbeats 1000000 in
theorem law28_known {g : Mem} {w : World} (hag : Agree g w) (hT : TabG Tryz.prog g) :
    CallTo Tryz.prog 9 #[] w (Ret w g fun v g => v = .bool true) := by
  refine CallTo.enter (vs := []) zf132 (by kernel_rfl) rfl rfl rfl ?_
  have hst := St.init hag
  refine zsr ?_
  refine zA rfl hst rfl ?_
  refine zn4 ?_
  refine stepK_call rfl rfl rfl rfl rfl hst (nearest_Simplest hst.agree hT (a := ⟨#[51, 47, 49, 48]⟩) (b := ⟨#[50, 47, 53]⟩) (by decide) (by decide)) ?_
  clear hst
  intro v1 g1 w1 hst hle1 hcs1 hp1
  replace hT := hT.mono hle1
  obtain rfl := hp1
  rw [known_text, known_state]
  refine zM rfl hst rfl ?_
  refine zE rfl hst rfl rfl ?_
  refine zE rfl hst rfl rfl ?_
  refine zA rfl hst rfl ?_
  refine zA rfl hst rfl ?_
  refine zn4 ?_
  refine zM rfl hst rfl ?_
  refine stepK_d rfl rfl rfl hst (Does.yes (does_eql rfl rfl rfl) rfl) ?_
  refine zM rfl hst rfl ?_
  refine stepK_guard rfl rfl rfl rfl rfl rfl hst (does_move rfl rfl) ?_
  refine stepK_guard rfl rfl rfl rfl rfl rfl hst (Does.yes (does_eql_string rfl rfl rfl) rfl) ?_
  refine stepK_d rfl rfl rfl hst (does_pick_true rfl rfl rfl) ?_
  refine zA rfl hst rfl ?_
  refine znt ?_
  refine cp_ret ?_
  refine ret1 rfl rfl hst ?_
  first
  | rfl
  | simp_all

end Go.Proofs.YtnbcedkpkcgmkaaGreatDoor
