/- A helper of the claim: general lemmas and walks of functions, printed by a program of this session. Conditions: none. -/
import Derived.Test.YtbamjcfdlgnicaaGreatDoorF5
import Derived.Test.YtbamjcfdlgnicaaGreatDoorXN
import Derived.Test.YtbamjcfdlgnicaaGreatDoorProg
import Derived.Test.YtbamjcfdlgnicaaGreatDoorF6
import Derived.Test.YtbamjcfdlgnicaaGreatDoorQ2
import Derived.Test.YtbamjcfdlgnicaaGreatDoorF8
import Derived.Test.YtbamjcfdlgnicaaGreatDoorQ3
import Derived.Test.YtbamjcfdlgnicaaGreatDoorF9
import Derived.Test.YtbamjcfdlgnicaaGreatDoorFB
import Derived.Test.YtbamjcfdlgnicaaGreatDoorF0
namespace Go.Proofs.YtbamjcfdlgnicaaGreatDoor
open Go Go.RowKit Go.Proofs.Vc
set_option linter.unusedVariables false
set_option linter.unusedSimpArgs false

set_option maxHeartbeats 1000000 in
theorem simplest_step {N k : Nat} (hk : k ≤ 100000) (ih : ∀ {g : Mem} {w : World} (hag : Agree g w) {p q : Int} {a : Option Addr} {r : Rat} (ha : IsRat g p q a r) {s t : Int} {b : Option Addr} {x : Rat} (hb : IsRat g s t b x), 0 < r → r ≤ x → Sz k r → Sz k x → r.den + x.den ≤ N → CallTo Tryz.prog 86 #[.agg #[.int .i64 p, .int .i64 q, .pointer a], .agg #[.int .i64 s, .int .i64 t, .pointer b]] w (Ret w g fun v g => ∃ p q a, v = .agg #[.int .i64 p, .int .i64 q, .pointer a] ∧ IsRat g p q a (simpF N r x))) {g : Mem} {w : World} (hag : Agree g w) {p q : Int} {a : Option Addr} {r : Rat} (ha : IsRat g p q a r) {s t : Int} {b : Option Addr} {x : Rat} (hb : IsRat g s t b x) (h0 : 0 < r) (hle : r ≤ x) (hz1 : Sz k r) (hz2 : Sz k x) (hN : r.den + x.den ≤ N + 1) :
    CallTo Tryz.prog 86 #[.agg #[.int .i64 p, .int .i64 q, .pointer a], .agg #[.int .i64 s, .int .i64 t, .pointer b]] w (Ret w g fun v g => ∃ p q a, v = .agg #[.int .i64 p, .int .i64 q, .pointer a] ∧ IsRat g p q a (simpF (N + 1) r x)) := by
  refine CallTo.enter (vs := [.agg #[.int .i64 p, .int .i64 q, .pointer a], .agg #[.int .i64 s, .int .i64 t, .pointer b]]) (by kernel_rfl : Tryz.prog.funcs[86]? = some Tryz.f86) (by kernel_rfl) rfl rfl rfl ?_
  have hst := St.init hag
  have sf := floor_sz hz1
  have sc : Sz k ((ceilR r : Int) : Rat) := by rw [ceilR_cast]; exact (floor_sz hz1.neg).neg
  have fr : Fit r := hz1.fit (by omega)
  have fx : Fit x := hz2.fit (by omega)
  have ff := sf.fit (by omega)
  have fc := sc.fit (by omega)
  refine zsr ?_
  refine stepK_box rfl rfl rfl rfl rfl rfl hst ?_
  clear hst
  intro b1 w1 hst
  refine stepK_box rfl rfl rfl rfl rfl rfl hst ?_
  clear hst
  intro b2 w2 hst
  refine stepK_alloc rfl rfl rfl rfl zf29 rfl hst ?_
  clear hst
  intro b3 w3 hst
  refine zn4 ?_
  refine stepK_d rfl rfl rfl hst (does_load_ownN 0 rfl (by kernel_rfl) zf31 rfl rfl rfl) ?_
  refine stepK_call rfl rfl rfl rfl rfl hst (Rat_Ceil hst.agree ha fr) ?_
  clear hst
  intro v4 g4 w4 hst hle4 hcs4 hp4
  replace ha := ha.mono hle4
  replace hb := hb.mono hle4
  obtain ⟨p7, q7, a7, rfl, h7⟩ := hp4
  rw [← ceilR_cast] at h7
  refine stepK_store 2 rfl rfl rfl rfl rfl rfl zf31 rfl rfl hst rfl (by first | (simp [uN_length]; omega) | simp) ?_
  clear hst
  intro w5 hst
  simp only [zL, splice, Nat.reduceAdd] at hst
  refine znq ?_
  refine zsr ?_
  refine stepK_d rfl rfl rfl hst (does_load_ownN 2 rfl (by kernel_rfl) zf31 rfl rfl rfl) ?_
  refine stepK_d rfl rfl rfl hst (does_load_ownN 1 rfl (by kernel_rfl) zf31 rfl rfl rfl) ?_
  refine stepK_call rfl rfl rfl rfl rfl hst (Rat_Cmp hst.agree h7 hb fc fx) ?_
  clear hst
  intro v6 g6 w6 hst hle6 hcs6 hp6
  replace ha := ha.mono hle6
  replace hb := hb.mono hle6
  replace h7 := h7.mono hle6
  obtain rfl := hp6
  refine stepK_d rfl rfl rfl hst (does_leq rfl rfl rfl) ?_
  refine znt ?_
  refine cp_if rfl ?_ ?_
  intro c11
  have hc := sgn_le.1 c11
  refine zsr ?_
  refine stepK_d rfl rfl rfl hst (does_load_ownN 2 rfl (by kernel_rfl) zf31 rfl rfl rfl) ?_
  refine stepK_store 2 rfl rfl rfl rfl rfl rfl zf31 rfl rfl hst rfl (by first | (simp [uN_length]; omega) | simp) ?_
  clear hst
  intro w7 hst
  simp only [zL, splice, Nat.reduceAdd] at hst
  refine zn5 ?_
  refine ret1c (k := 2) rfl rfl (by kernel_rfl) (by kernel_rfl) rfl hst rfl ?_
  rw [simpF_eq hc]
  exact ⟨_, _, _, rfl, h7⟩
  intro c11
  have hc := fun h => c11 (sgn_le.2 h)
  obtain ⟨s1, s2⟩ := simp_sz h0 hle hc hz1 hz2
  obtain ⟨d1, d2, d3, d4⟩ := simp_den h0 hle hc
  obtain ⟨_, _, _, _, _, hle2⟩ := simp_step h0 hle hc
  have hp := simp_pos h0 hle hc
  have sr := simpF_sz hp hle2 (n := N) (by omega) s1
  refine zk4 ?_
  refine stepK_d rfl rfl rfl hst (does_load_ownN 0 rfl (by kernel_rfl) zf31 rfl rfl rfl) ?_
  refine stepK_call rfl rfl rfl rfl rfl hst (Rat_Floor hst.agree ha fr) ?_
  clear hst
  intro v8 g8 w8 hst hle8 hcs8 hp8
  replace ha := ha.mono hle8
  replace hb := hb.mono hle8
  replace h7 := h7.mono hle8
  obtain ⟨p14, q14, a14, rfl, h14⟩ := hp8
  refine stepK_alloc rfl rfl rfl rfl zf29 rfl hst ?_
  clear hst
  intro b9 w9 hst
  refine stepK_store 3 rfl rfl rfl rfl rfl rfl zf31 rfl rfl hst rfl (by first | (simp [uN_length]; omega) | simp) ?_
  clear hst
  intro w10 hst
  simp only [zL, splice, Nat.reduceAdd] at hst
  refine znq ?_
  refine cp_drawn (by kernel_rfl) 12 [(0, true), (1, true), (2, true), (5, true), (6, true), (3, false), (4, false), (7, false), (8, false), (9, false), (10, false), (11, false)] _ rfl (by kernel_rfl) (by kernel_rfl) (by kernel_rfl) (fun _ _ _ _ _ h => h) _ (hst.drew) ?_
  have hst0 := hst.drew
  clear hst
  have hst := hst0
  refine stepD_d rfl rfl rfl rfl (does_load_ownN 3 rfl (by kernel_rfl) zf31 rfl rfl rfl) ?_
  refine stepD_d rfl rfl rfl rfl (does_load_ownN 1 rfl (by kernel_rfl) zf31 rfl rfl rfl) ?_
  refine stepD_d rfl rfl rfl rfl (does_load_ownN 3 rfl (by kernel_rfl) zf31 rfl rfl rfl) ?_
  refine stepD_d rfl rfl rfl rfl (does_load_ownN 0 rfl (by kernel_rfl) zf31 rfl rfl rfl) ?_
  refine stepD_d rfl rfl rfl rfl (does_load_ownN 3 rfl (by kernel_rfl) zf31 rfl rfl rfl) ?_
  refine stepD_call rfl rfl rfl rfl rfl rfl hst (Rat_Sub hst.agree hb h14 fx ff) (fun _ _ h hle => St.older h hle (by simp) hst0.ext hst0.le) ?_
  clear hst
  intro v11 g11 w11 hst hle11 hcs11 hp11
  have hlesum := hle11
  replace ha := ha.mono hle11
  replace hb := hb.mono hle11
  replace h7 := h7.mono hle11
  replace h14 := h14.mono hle11
  obtain ⟨p18, q18, a18, rfl, h18⟩ := hp11
  refine stepD_call rfl rfl rfl rfl rfl rfl hst (Rat_Inv hst.agree h18) (fun _ _ h hle => St.older h (Mem.le.trans hlesum hle) (by simp) hst0.ext hst0.le) ?_
  clear hst
  intro v12 g12 w12 hst hle12 hcs12 hp12
  replace hlesum := Mem.le.trans hlesum hle12
  replace ha := ha.mono hle12
  replace hb := hb.mono hle12
  replace h7 := h7.mono hle12
  replace h14 := h14.mono hle12
  replace h18 := h18.mono hle12
  obtain ⟨p19, q19, a19, rfl, h19⟩ := hp12
  refine stepD_call rfl rfl rfl rfl rfl rfl hst (Rat_Sub hst.agree ha h14 fr ff) (fun _ _ h hle => St.older h (Mem.le.trans hlesum hle) (by simp) hst0.ext hst0.le) ?_
  clear hst
  intro v13 g13 w13 hst hle13 hcs13 hp13
  replace hlesum := Mem.le.trans hlesum hle13
  replace ha := ha.mono hle13
  replace hb := hb.mono hle13
  replace h7 := h7.mono hle13
  replace h14 := h14.mono hle13
  replace h18 := h18.mono hle13
  replace h19 := h19.mono hle13
  obtain ⟨p22, q22, a22, rfl, h22⟩ := hp13
  refine stepD_call rfl rfl rfl rfl rfl rfl hst (Rat_Inv hst.agree h22) (fun _ _ h hle => St.older h (Mem.le.trans hlesum hle) (by simp) hst0.ext hst0.le) ?_
  clear hst
  intro v14 g14 w14 hst hle14 hcs14 hp14
  replace hlesum := Mem.le.trans hlesum hle14
  replace ha := ha.mono hle14
  replace hb := hb.mono hle14
  replace h7 := h7.mono hle14
  replace h14 := h14.mono hle14
  replace h18 := h18.mono hle14
  replace h19 := h19.mono hle14
  replace h22 := h22.mono hle14
  obtain ⟨p23, q23, a23, rfl, h23⟩ := hp14
  refine stepD_call rfl rfl rfl rfl rfl rfl hst (ih hst.agree h19 h23 hp hle2 s1 s2 (by omega)) (fun _ _ h hle => St.older h (Mem.le.trans hlesum hle) (by simp) hst0.ext hst0.le) ?_
  clear hst
  intro v15 g15 w15 hst hle15 hcs15 hp15
  replace hlesum := Mem.le.trans hlesum hle15
  replace ha := ha.mono hle15
  replace hb := hb.mono hle15
  replace h7 := h7.mono hle15
  replace h14 := h14.mono hle15
  replace h18 := h18.mono hle15
  replace h19 := h19.mono hle15
  replace h22 := h22.mono hle15
  replace h23 := h23.mono hle15
  obtain ⟨p24, q24, a24, rfl, h24⟩ := hp15
  refine stepD_call rfl rfl rfl rfl rfl rfl hst (Rat_Inv hst.agree h24) (fun _ _ h hle => St.older h (Mem.le.trans hlesum hle) (by simp) hst0.ext hst0.le) ?_
  clear hst
  intro v16 g16 w16 hst hle16 hcs16 hp16
  replace hlesum := Mem.le.trans hlesum hle16
  replace ha := ha.mono hle16
  replace hb := hb.mono hle16
  replace h7 := h7.mono hle16
  replace h14 := h14.mono hle16
  replace h18 := h18.mono hle16
  replace h19 := h19.mono hle16
  replace h22 := h22.mono hle16
  replace h23 := h23.mono hle16
  replace h24 := h24.mono hle16
  obtain ⟨p25, q25, a25, rfl, h25⟩ := hp16
  refine stepD_call rfl rfl rfl rfl rfl rfl hst (Rat_Add hst.agree h14 h25 ff (sr.inv.fit (by omega))) (fun _ _ h hle => St.older h (Mem.le.trans hlesum hle) (by simp) hst0.ext hst0.le) ?_
  clear hst
  intro v17 g17 w17 hst hle17 hcs17 hp17
  replace hlesum := Mem.le.trans hlesum hle17
  replace ha := ha.mono hle17
  replace hb := hb.mono hle17
  replace h7 := h7.mono hle17
  replace h14 := h14.mono hle17
  replace h18 := h18.mono hle17
  replace h19 := h19.mono hle17
  replace h22 := h22.mono hle17
  replace h23 := h23.mono hle17
  replace h24 := h24.mono hle17
  replace h25 := h25.mono hle17
  obtain ⟨p26, q26, a26, rfl, h26⟩ := hp17
  refine stepD_tail ?_
  refine stepK_store 2 rfl rfl rfl rfl rfl rfl zf31 rfl rfl hst rfl (by first | (simp [uN_length]; omega) | simp) ?_
  clear hst
  intro w18 hst
  simp only [zL, splice, Nat.reduceAdd] at hst
  refine znt ?_
  refine cp_ret ?_
  refine ret1c (k := 2) rfl rfl (by kernel_rfl) (by kernel_rfl) rfl hst rfl ?_
  rw [simpF_more hc]
  exact ⟨_, _, _, rfl, h26⟩


theorem nearest_simplest {k : Nat} (hk : k ≤ 100000) : ∀ (N : Nat) {g : Mem} {w : World} (hag : Agree g w) {p q : Int} {a : Option Addr} {r : Rat} (ha : IsRat g p q a r) {s t : Int} {b : Option Addr} {x : Rat} (hb : IsRat g s t b x), 0 < r → r ≤ x → Sz k r → Sz k x → r.den + x.den ≤ N → CallTo Tryz.prog 86 #[.agg #[.int .i64 p, .int .i64 q, .pointer a], .agg #[.int .i64 s, .int .i64 t, .pointer b]] w (Ret w g fun v g => ∃ p q a, v = .agg #[.int .i64 p, .int .i64 q, .pointer a] ∧ IsRat g p q a (simpF N r x))
  | 0, g, w, hag, p, q, a, r, ha, s, t, b, x, hb, h0, hle, hz1, hz2, hN => by have := r.den_nz; omega
  | N + 1, g, w, hag, p, q, a, r, ha, s, t, b, x, hb, h0, hle, hz1, hz2, hN => simplest_step hk (fun {_ _} hag {_ _ _ _} ha {_ _ _ _} hb h0 hle hz1 hz2 hN => nearest_simplest hk N hag ha hb h0 hle hz1 hz2 hN) hag ha hb h0 hle hz1 hz2 hN

end Go.Proofs.YtbamjcfdlgnicaaGreatDoor

namespace Go.Proofs.YtbamjcfdlgnicaaGreatDoor
open Go Go.RowKit Go.Proofs.Vc
set_option linter.unusedVariables false
set_option linter.unusedSimpArgs false

set_option maxHeartbeats 1000000 in
theorem nearest_Simplest {g : Mem} {w : World} (hag : Agree g w) (hT : TabG Tryz.prog g) {a b : ByteArray} (ha : a.size ≤ 60) (hb : b.size ≤ 60) :
    CallTo Tryz.prog 18 #[.string a, .string b] w (Ret w g fun v g => v = .tuple #[.string (if (readR a).isSome ∧ (readR b).isSome ∧ getR a ≤ getR b then ratS (simpZ (getR a) (getR b)) else ⟨#[]⟩), .int .i64 (if (readR a).isSome ∧ (readR b).isSome then (if getR a ≤ getR b then 0 else 3) else 1)]) := by
  refine CallTo.enter (vs := [.string a, .string b]) (by kernel_rfl : Tryz.prog.funcs[18]? = some Tryz.f18) (by kernel_rfl) rfl rfl rfl ?_
  have hst := St.init hag
  have sx := (getR_sz a).mono (m := 61) (by omega)
  have sy := (getR_sz b).mono (m := 61) (by omega)
  have fx := sx.fit (by decide)
  have fy := sy.fit (by decide)
  refine zsr ?_
  refine zA rfl hst rfl ?_
  refine zA rfl hst rfl ?_
  refine zn4 ?_
  refine zM rfl hst rfl ?_
  refine stepK_call rfl rfl rfl rfl rfl hst (num_Of hst.agree (by omega)) ?_
  clear hst
  intro v1 g1 w1 hst hle1 hcs1 hp1
  replace hT := hT.mono hle1
  obtain ⟨p1, q1, a1, rfl, h1⟩ := hp1
  refine zM rfl hst rfl ?_
  refine zE rfl hst rfl rfl ?_
  refine zE rfl hst rfl rfl ?_
  refine stepK_alloc rfl rfl rfl rfl zf29 rfl hst ?_
  clear hst
  intro b2 w2 hst
  refine stepK_store 0 rfl rfl rfl rfl rfl rfl zf31 rfl rfl hst rfl (by first | (simp [uN_length]; omega) | simp) ?_
  clear hst
  intro w3 hst
  simp only [zL, splice, Nat.reduceAdd] at hst
  refine zA rfl hst rfl ?_
  refine zn4 ?_
  refine zM rfl hst rfl ?_
  refine stepK_call rfl rfl rfl rfl rfl hst (num_Of hst.agree (by omega)) ?_
  clear hst
  intro v4 g4 w4 hst hle4 hcs4 hp4
  replace hT := hT.mono hle4
  replace h1 := h1.mono hle4
  obtain ⟨p2, q2, a2, rfl, h2⟩ := hp4
  refine zM rfl hst rfl ?_
  refine zE rfl hst rfl rfl ?_
  refine zE rfl hst rfl rfl ?_
  refine stepK_alloc rfl rfl rfl rfl zf29 rfl hst ?_
  clear hst
  intro b5 w5 hst
  refine stepK_store 1 rfl rfl rfl rfl rfl rfl zf31 rfl rfl hst rfl (by first | (simp [uN_length]; omega) | simp) ?_
  clear hst
  intro w6 hst
  simp only [zL, splice, Nat.reduceAdd] at hst
  refine zA rfl hst rfl ?_
  refine znq ?_
  refine cp_block ?_
  refine zsr ?_
  refine zM rfl hst rfl ?_
  refine stepK_d rfl rfl rfl hst (does_not rfl rfl) ?_
  refine zM rfl hst rfl ?_
  refine wpK_splitb (t := 23) rfl ?_ ?_
  intro s23
  have hno : ¬ ((readR a).isSome ∧ (readR b).isSome) := fun h => by rw [h.1] at s23; cases s23
  refine stepK_pass rfl rfl rfl rfl rfl rfl rfl ?_
  refine stepK_pass rfl rfl rfl rfl rfl rfl rfl ?_
  refine stepK_d rfl rfl rfl hst (does_pick_true rfl rfl rfl) ?_
  refine zA rfl hst rfl ?_
  refine znt ?_
  refine cp_cond_true rfl ?_
  refine zsr ?_
  refine zA rfl hst rfl ?_
  refine zA rfl hst rfl ?_
  refine znt ?_
  refine cp_ret ?_
  refine at_block_ret ?_
  refine at_then_ret ?_
  refine ret2 rfl rfl rfl hst ?_
  rw [if_neg (fun h => hno ⟨h.1, h.2.1⟩), if_neg hno]
  intro s23
  have hs1 : (readR a).isSome = true := by simpa using s23
  refine stepK_guard rfl rfl rfl rfl rfl rfl hst (does_move rfl rfl) ?_
  refine stepK_guard rfl rfl rfl rfl rfl rfl hst (does_not rfl rfl) ?_
  refine stepK_d rfl rfl rfl hst (does_pick_false rfl rfl rfl) ?_
  refine zA rfl hst rfl ?_
  refine znt ?_
  refine cp_cond rfl ?_ ?_
  intro c20
  have hno : ¬ ((readR a).isSome ∧ (readR b).isSome) := fun h => by first | (rw [h.2] at c20; cases c20; done) | (rw [h.1] at c20; cases c20; done)
  refine zsr ?_
  refine zA rfl hst rfl ?_
  refine zA rfl hst rfl ?_
  refine znt ?_
  refine cp_ret ?_
  refine at_block_ret ?_
  refine at_then_ret ?_
  refine ret2 rfl rfl rfl hst ?_
  rw [if_neg (fun h => hno ⟨h.1, h.2.1⟩), if_neg hno]
  intro c20
  have hs2 : (readR b).isSome = true := by simpa using c20
  refine zsr ?_
  refine stepK_d rfl rfl rfl hst (does_load_ownN 1 rfl (by kernel_rfl) zf31 rfl rfl rfl) ?_
  refine stepK_d rfl rfl rfl hst (does_load_ownN 0 rfl (by kernel_rfl) zf31 rfl rfl rfl) ?_
  refine stepK_call rfl rfl rfl rfl rfl hst (Rat_Cmp hst.agree h2 h1 fy fx) ?_
  clear hst
  intro v7 g7 w7 hst hle7 hcs7 hp7
  replace hT := hT.mono hle7
  replace h1 := h1.mono hle7
  replace h2 := h2.mono hle7
  obtain rfl := hp7
  refine stepK_d rfl rfl rfl hst (does_lss rfl rfl rfl) ?_
  refine zA rfl hst rfl ?_
  refine znt ?_
  refine cp_if rfl ?_ ?_
  intro c27
  have hle : ¬ getR a ≤ getR b := fun h => sgn_lt.1 c27 h
  refine zsr ?_
  refine zA rfl hst rfl ?_
  refine zA rfl hst rfl ?_
  refine znt ?_
  refine cp_ret ?_
  refine at_block_ret ?_
  refine at_then_ret ?_
  refine ret2 rfl rfl rfl hst ?_
  first
  | rw [if_neg (fun h => hno ⟨h.1, h.2.1⟩), if_neg hno]
  | rw [if_neg (fun h => hle h.2.2), if_pos ⟨hs1, hs2⟩, if_neg hle]
  | rw [if_pos ⟨hs1, hs2, hle⟩, if_pos ⟨hs1, hs2⟩, if_pos hle, simpZ_pos h0]
  | rw [if_pos ⟨hs1, hs2, hle⟩, if_pos ⟨hs1, hs2⟩, if_pos hle, simpZ_neg h0 h9]
  | rw [if_pos ⟨hs1, hs2, hle⟩, if_pos ⟨hs1, hs2⟩, if_pos hle, simpZ_zero h0 h9, t0]
  intro c27
  have hle : getR a ≤ getR b := Decidable.byContradiction fun h => c27 (sgn_lt.2 h)
  refine zsr ?_
  refine stepK_d rfl rfl rfl hst (does_load_ownN 0 rfl (by kernel_rfl) zf31 rfl rfl rfl) ?_
  refine stepK_call rfl rfl rfl rfl rfl hst (Rat_Sign hst.agree h1) ?_
  clear hst
  intro v8 g8 w8 hst hle8 hcs8 hp8
  replace hT := hT.mono hle8
  replace h1 := h1.mono hle8
  replace h2 := h2.mono hle8
  obtain rfl := hp8
  refine stepK_d rfl rfl rfl hst (does_gtr rfl rfl rfl) ?_
  refine zA rfl hst rfl ?_
  refine znt ?_
  refine cp_if rfl ?_ ?_
  intro c32
  have h0 : 0 < getR a := sgn_pos.1 c32
  refine zsr ?_
  refine stepK_d rfl rfl rfl hst (does_load_ownN 0 rfl (by kernel_rfl) zf31 rfl rfl rfl) ?_
  refine stepK_d rfl rfl rfl hst (does_load_ownN 1 rfl (by kernel_rfl) zf31 rfl rfl rfl) ?_
  refine stepK_call rfl rfl rfl rfl rfl hst (nearest_simplest (k := 61) (by decide) ((getR a).den + (getR b).den) hst.agree h1 h2 h0 hle sx sy (Nat.le_refl _)) ?_
  clear hst
  intro v9 g9 w9 hst hle9 hcs9 hp9
  replace hT := hT.mono hle9
  replace h1 := h1.mono hle9
  replace h2 := h2.mono hle9
  obtain ⟨p3, q3, a3, rfl, h3⟩ := hp9
  refine stepK_call rfl rfl rfl rfl rfl hst (Rat_String hst.agree hT h3 ((simpF_sz h0 hle (Nat.le_refl _) sx).fit (by decide))) ?_
  clear hst
  intro v10 g10 w10 hst hle10 hcs10 hp10
  replace hT := hT.mono hle10
  replace h1 := h1.mono hle10
  replace h2 := h2.mono hle10
  replace h3 := h3.mono hle10
  obtain rfl := hp10
  refine zA rfl hst rfl ?_
  refine zA rfl hst rfl ?_
  refine znt ?_
  refine cp_ret ?_
  refine at_block_ret ?_
  refine at_then_ret ?_
  refine ret2 rfl rfl rfl hst ?_
  first
  | rw [if_neg (fun h => hno ⟨h.1, h.2.1⟩), if_neg hno]
  | rw [if_neg (fun h => hle h.2.2), if_pos ⟨hs1, hs2⟩, if_neg hle]
  | rw [if_pos ⟨hs1, hs2, hle⟩, if_pos ⟨hs1, hs2⟩, if_pos hle, simpZ_pos h0]
  | rw [if_pos ⟨hs1, hs2, hle⟩, if_pos ⟨hs1, hs2⟩, if_pos hle, simpZ_neg h0 h9]
  | rw [if_pos ⟨hs1, hs2, hle⟩, if_pos ⟨hs1, hs2⟩, if_pos hle, simpZ_zero h0 h9, t0]
  intro c32
  have h0 : ¬ 0 < getR a := fun h => c32 (sgn_pos.2 h)
  refine zsr ?_
  refine stepK_d rfl rfl rfl hst (does_load_ownN 1 rfl (by kernel_rfl) zf31 rfl rfl rfl) ?_
  refine stepK_call rfl rfl rfl rfl rfl hst (Rat_Sign hst.agree h2) ?_
  clear hst
  intro v11 g11 w11 hst hle11 hcs11 hp11
  replace hT := hT.mono hle11
  replace h1 := h1.mono hle11
  replace h2 := h2.mono hle11
  obtain rfl := hp11
  refine stepK_d rfl rfl rfl hst (does_lss rfl rfl rfl) ?_
  refine zA rfl hst rfl ?_
  refine znt ?_
  refine cp_if rfl ?_ ?_
  intro c40
  have h9 : getR b < 0 := sgn_neg.1 c40
  have hq0 := rat_neg_pos h9
  have hqle := Rat.neg_le_neg hle
  refine cp_seq ?_
  refine cp_drawn (by kernel_rfl) 9 [(0, true), (2, true), (1, false), (3, false), (4, false), (5, false), (6, false), (7, true), (8, true)] _ rfl (by kernel_rfl) (by kernel_rfl) (by kernel_rfl) (fun _ _ _ _ _ h => h) _ (hst.drew) ?_
  have hst0 := hst.drew
  clear hst
  have hst := hst0
  refine stepD_d rfl rfl rfl rfl (does_load_ownN 1 rfl (by kernel_rfl) zf31 rfl rfl rfl) ?_
  refine stepD_d rfl rfl rfl rfl (does_load_ownN 0 rfl (by kernel_rfl) zf31 rfl rfl rfl) ?_
  refine stepD_call rfl rfl rfl rfl rfl rfl hst (Rat_Neg hst.agree h2) (fun _ _ h hle => St.older h hle (by simp) hst0.ext hst0.le) ?_
  clear hst
  intro v12 g12 w12 hst hle12 hcs12 hp12
  have hlesum := hle12
  replace hT := hT.mono hle12
  replace h1 := h1.mono hle12
  replace h2 := h2.mono hle12
  obtain ⟨p4, q4, a4, rfl, h4⟩ := hp12
  refine stepD_call rfl rfl rfl rfl rfl rfl hst (Rat_Neg hst.agree h1) (fun _ _ h hle => St.older h (Mem.le.trans hlesum hle) (by simp) hst0.ext hst0.le) ?_
  clear hst
  intro v13 g13 w13 hst hle13 hcs13 hp13
  replace hlesum := Mem.le.trans hlesum hle13
  replace hT := hT.mono hle13
  replace h1 := h1.mono hle13
  replace h2 := h2.mono hle13
  replace h4 := h4.mono hle13
  obtain ⟨p5, q5, a5, rfl, h5⟩ := hp13
  refine stepD_call rfl rfl rfl rfl rfl rfl hst (nearest_simplest (k := 61) (by decide) ((-getR b).den + (-getR a).den) hst.agree h4 h5 hq0 hqle sy.neg sx.neg (Nat.le_refl _)) (fun _ _ h hle => St.older h (Mem.le.trans hlesum hle) (by simp) hst0.ext hst0.le) ?_
  clear hst
  intro v14 g14 w14 hst hle14 hcs14 hp14
  replace hlesum := Mem.le.trans hlesum hle14
  replace hT := hT.mono hle14
  replace h1 := h1.mono hle14
  replace h2 := h2.mono hle14
  replace h4 := h4.mono hle14
  replace h5 := h5.mono hle14
  obtain ⟨p6, q6, a6, rfl, h6⟩ := hp14
  refine stepD_call rfl rfl rfl rfl rfl rfl hst (Rat_Neg hst.agree h6) (fun _ _ h hle => St.older h (Mem.le.trans hlesum hle) (by simp) hst0.ext hst0.le) ?_
  clear hst
  intro v15 g15 w15 hst hle15 hcs15 hp15
  replace hlesum := Mem.le.trans hlesum hle15
  replace hT := hT.mono hle15
  replace h1 := h1.mono hle15
  replace h2 := h2.mono hle15
  replace h4 := h4.mono hle15
  replace h5 := h5.mono hle15
  replace h6 := h6.mono hle15
  obtain ⟨p7, q7, a7, rfl, h7⟩ := hp15
  refine stepD_call rfl rfl rfl rfl rfl rfl hst (Rat_String hst.agree hT h7 ((simpF_sz hq0 hqle (Nat.le_refl _) sy.neg).neg.fit (by decide))) (fun _ _ h hle => St.older h (Mem.le.trans hlesum hle) (by simp) hst0.ext hst0.le) ?_
  clear hst
  intro v16 g16 w16 hst hle16 hcs16 hp16
  replace hlesum := Mem.le.trans hlesum hle16
  replace hT := hT.mono hle16
  replace h1 := h1.mono hle16
  replace h2 := h2.mono hle16
  replace h4 := h4.mono hle16
  replace h5 := h5.mono hle16
  replace h6 := h6.mono hle16
  replace h7 := h7.mono hle16
  obtain rfl := hp16
  refine stepD_d rfl rfl rfl rfl (does_assign rfl rfl) ?_
  refine stepD_d rfl rfl rfl rfl (does_assign rfl rfl) ?_
  refine stepD_tail ?_
  refine znt ?_
  refine cp_ret ?_
  refine at_block_ret ?_
  refine at_then_ret ?_
  refine ret2 rfl rfl rfl hst ?_
  first
  | rw [if_neg (fun h => hno ⟨h.1, h.2.1⟩), if_neg hno]
  | rw [if_neg (fun h => hle h.2.2), if_pos ⟨hs1, hs2⟩, if_neg hle]
  | rw [if_pos ⟨hs1, hs2, hle⟩, if_pos ⟨hs1, hs2⟩, if_pos hle, simpZ_pos h0]
  | rw [if_pos ⟨hs1, hs2, hle⟩, if_pos ⟨hs1, hs2⟩, if_pos hle, simpZ_neg h0 h9]
  | rw [if_pos ⟨hs1, hs2, hle⟩, if_pos ⟨hs1, hs2⟩, if_pos hle, simpZ_zero h0 h9, t0]
  intro c40
  have h9 : ¬ getR b < 0 := fun h => c40 (sgn_neg.2 h)
  refine cp_skip ?_
  refine at_block_normal ?_
  refine cp_then ?_
  refine zsr ?_
  refine zA rfl hst rfl ?_
  refine zA rfl hst rfl ?_
  refine znt ?_
  refine cp_ret ?_
  refine ret2 rfl rfl rfl hst ?_
  first
  | rw [if_neg (fun h => hno ⟨h.1, h.2.1⟩), if_neg hno]
  | rw [if_neg (fun h => hle h.2.2), if_pos ⟨hs1, hs2⟩, if_neg hle]
  | rw [if_pos ⟨hs1, hs2, hle⟩, if_pos ⟨hs1, hs2⟩, if_pos hle, simpZ_pos h0]
  | rw [if_pos ⟨hs1, hs2, hle⟩, if_pos ⟨hs1, hs2⟩, if_pos hle, simpZ_neg h0 h9]
  | rw [if_pos ⟨hs1, hs2, hle⟩, if_pos ⟨hs1, hs2⟩, if_pos hle, simpZ_zero h0 h9, t0]

end Go.Proofs.YtbamjcfdlgnicaaGreatDoor

namespace Go.Proofs.YtbamjcfdlgnicaaGreatDoor
open Go Go.RowKit Go.Proofs.Vc
set_option linter.unusedVariables false
set_option linter.unusedSimpArgs false

set_option maxHeartbeats 1000000 in
theorem sref_One {g : Mem} {w : World} (hag : Agree g w) :
    CallTo Tryz.prog 93 #[] w (Ret w g fun v g => ∃ na A n c nb B m d, v = .agg #[.bool na, .slice A n c, .bool nb, .slice B m d] ∧ IsQ g na A n nb B m (1)) := by
  refine CallTo.enter (vs := []) (by kernel_rfl : Tryz.prog.funcs[93]? = some Tryz.f93) (by kernel_rfl) rfl rfl rfl ?_
  have hst := St.init hag
  refine zsr ?_
  refine stepK_alloc rfl rfl rfl rfl zf121 rfl hst ?_
  clear hst
  intro b1 w1 hst
  refine zn4 ?_
  refine stepK_call rfl rfl rfl rfl rfl hst (snum_R hst.agree (x := 1) (by decide) (by decide)) ?_
  clear hst
  intro v2 g2 w2 hst hle2 hcs2 hp2
  obtain ⟨_, _, _, _, _, _, _, _, rfl, h1⟩ := hp2
  refine stepK_store 0 rfl rfl rfl rfl rfl rfl zf119 rfl rfl hst rfl (by first | (simp [uN_length]; omega) | simp) ?_
  clear hst
  intro w3 hst
  simp only [zL, splice, Nat.reduceAdd] at hst
  refine znt ?_
  refine cp_ret ?_
  refine ret1c (k := 0) rfl rfl (by kernel_rfl) (by kernel_rfl) rfl hst rfl ?_
  exact ⟨_, _, _, _, _, _, _, _, rfl, h1.to rfl⟩

end Go.Proofs.YtbamjcfdlgnicaaGreatDoor

namespace Go.Proofs.YtbamjcfdlgnicaaGreatDoor
open Go Go.RowKit Go.Proofs.Vc
set_option linter.unusedVariables false
set_option linter.unusedSimpArgs false

set_option maxHeartbeats 4000000 in
theorem sref_step {N k : Nat} (hk : k ≤ 100000) (ih : ∀ {g : Mem} {w : World} (hag : Agree g w) {na nb : Bool} {A B : Option Addr} {n c m d : Nat} {r : Rat} (ha : IsQ g na A n nb B m r) {na2 nb2 : Bool} {A2 B2 : Option Addr} {n2 c2 m2 d2 : Nat} {x : Rat} (hb : IsQ g na2 A2 n2 nb2 B2 m2 x), 0 < r → r ≤ x → Sz k r → Sz k x → r.den + x.den ≤ N → CallTo Tryz.prog 22 #[.agg #[.bool na, .slice A n c, .bool nb, .slice B m d], .agg #[.bool na2, .slice A2 n2 c2, .bool nb2, .slice B2 m2 d2]] w (Ret w g fun v g => ∃ na A n c nb B m d, v = .agg #[.bool na, .slice A n c, .bool nb, .slice B m d] ∧ IsQ g na A n nb B m (simpF N r x))) {g : Mem} {w : World} (hag : Agree g w) {na nb : Bool} {A B : Option Addr} {n c m d : Nat} {r : Rat} (ha : IsQ g na A n nb B m r) {na2 nb2 : Bool} {A2 B2 : Option Addr} {n2 c2 m2 d2 : Nat} {x : Rat} (hb : IsQ g na2 A2 n2 nb2 B2 m2 x) (h0 : 0 < r) (hle : r ≤ x) (hz1 : Sz k r) (hz2 : Sz k x) (hN : r.den + x.den ≤ N + 1) :
    CallTo Tryz.prog 22 #[.agg #[.bool na, .slice A n c, .bool nb, .slice B m d], .agg #[.bool na2, .slice A2 n2 c2, .bool nb2, .slice B2 m2 d2]] w (Ret w g fun v g => ∃ na A n c nb B m d, v = .agg #[.bool na, .slice A n c, .bool nb, .slice B m d] ∧ IsQ g na A n nb B m (simpF (N + 1) r x)) := by
  refine CallTo.enter (vs := [.agg #[.bool na, .slice A n c, .bool nb, .slice B m d], .agg #[.bool na2, .slice A2 n2 c2, .bool nb2, .slice B2 m2 d2]]) (by kernel_rfl : Tryz.prog.funcs[22]? = some Tryz.f22) (by kernel_rfl) rfl rfl rfl ?_
  have hst := St.init hag
  have sf := floor_sz hz1
  have so : Sz 1 (1 : Rat) := ⟨by decide +kernel, by decide +kernel⟩
  have f1 : FitH (1 : Rat) := so.fitH (by decide)
  have fr : FitH r := hz1.fitH (by omega)
  have fx : FitH x := hz2.fitH (by omega)
  have ff := sf.fitH (by omega)
  have fc := (sf.add so).fitH (by omega)
  have fs1 := (hz2.sub sf).fitH (by omega)
  have fs2 := (hz1.sub sf).fitH (by omega)
  refine zsr ?_
  refine stepK_box rfl rfl rfl rfl rfl rfl hst ?_
  clear hst
  intro b2 w1 hst
  refine stepK_box rfl rfl rfl rfl rfl rfl hst ?_
  clear hst
  intro b3 w2 hst
  refine stepK_alloc rfl rfl rfl rfl zf121 rfl hst ?_
  clear hst
  intro b4 w3 hst
  refine znq ?_
  refine zsr ?_
  refine stepK_d rfl rfl rfl hst (does_load_ownN 0 rfl (by kernel_rfl) zf119 rfl rfl rfl) ?_
  refine stepK_call rfl rfl rfl rfl rfl hst (snum_RSign hst.agree ha) ?_
  clear hst
  intro v4 g4 w4 hst hle4 hcs4 hp4
  replace ha := ha.mono hle4
  replace hb := hb.mono hle4
  obtain rfl := hp4
  refine stepK_d rfl rfl rfl hst (Does.no (does_leq rfl rfl rfl) (fun h => by have := sgn_pos.2 h0; omega)) ?_
  refine zM rfl hst rfl ?_
  refine stepK_pass rfl rfl rfl rfl rfl rfl rfl ?_
  refine stepK_pass rfl rfl rfl rfl rfl rfl rfl ?_
  refine stepK_pass rfl rfl rfl rfl rfl rfl rfl ?_
  refine stepK_d rfl rfl rfl hst (does_pick_false rfl rfl rfl) ?_
  refine znt ?_
  refine cp_cond_false rfl ?_
  refine cp_skip ?_
  refine cp_then ?_
  refine cp_seq ?_
  refine zsr ?_
  refine stepK_d rfl rfl rfl hst (does_load_ownN 1 rfl (by kernel_rfl) zf119 rfl rfl rfl) ?_
  refine stepK_call rfl rfl rfl rfl rfl hst (snum_RSign hst.agree hb) ?_
  clear hst
  intro v5 g5 w5 hst hle5 hcs5 hp5
  replace ha := ha.mono hle5
  replace hb := hb.mono hle5
  obtain rfl := hp5
  refine stepK_d rfl rfl rfl hst (does_lss rfl rfl rfl) ?_
  refine znt ?_
  refine cp_if rfl ?_ ?_
  intro c19
  exact absurd (Std.lt_of_lt_of_le h0 hle) (fun h9 => absurd (sgn_pos.2 h9) (by omega))
  intro c19
  refine zk4 ?_
  refine stepK_d rfl rfl rfl hst (does_load_ownN 0 rfl (by kernel_rfl) zf119 rfl rfl rfl) ?_
  refine stepK_call rfl rfl rfl rfl rfl hst (snum_Floor hst.agree ha fr) ?_
  clear hst
  intro v6 g6 w6 hst hle6 hcs6 hp6
  replace ha := ha.mono hle6
  replace hb := hb.mono hle6
  obtain ⟨nf, Af, lf, cf, rfl, hf⟩ := hp6
  refine stepK_d rfl rfl rfl hst (does_build rfl zf122 rfl rfl) ?_
  refine stepK_alloc rfl rfl rfl rfl zf121 rfl hst ?_
  clear hst
  intro b5 w7 hst
  refine stepK_store 3 rfl rfl rfl rfl rfl rfl zf119 rfl rfl hst rfl (by first | (simp [uN_length]; omega) | simp) ?_
  clear hst
  intro w8 hst
  simp only [zL, splice, Nat.reduceAdd] at hst
  refine znq ?_
  refine zsr ?_
  refine stepK_d rfl rfl rfl hst (does_load_ownN 3 rfl (by kernel_rfl) zf119 rfl rfl rfl) ?_
  refine stepK_d rfl rfl rfl hst (does_load_ownN 0 rfl (by kernel_rfl) zf119 rfl rfl rfl) ?_
  refine stepK_call rfl rfl rfl rfl rfl hst (snum_RCmp hst.agree (IsQ.int hf) ha ff fr) ?_
  clear hst
  intro v9 g9 w9 hst hle9 hcs9 hp9
  replace ha := ha.mono hle9
  replace hb := hb.mono hle9
  replace hf := hf.mono hle9
  obtain rfl := hp9
  refine stepK_d rfl rfl rfl hst (does_eql rfl rfl rfl) ?_
  refine znt ?_
  refine cp_if rfl ?_ ?_
  intro c32
  have he := sgn_zero.1 c32
  have hcl : ((ceilR r : Int) : Rat) ≤ x := by rw [ceilR_eq, if_pos he, he]; exact hle
  refine zsr ?_
  refine stepK_d rfl rfl rfl hst (does_load_ownN 3 rfl (by kernel_rfl) zf119 rfl rfl rfl) ?_
  refine stepK_store 2 rfl rfl rfl rfl rfl rfl zf119 rfl rfl hst rfl (by first | (simp [uN_length]; omega) | simp) ?_
  clear hst
  intro w10 hst
  simp only [zL, splice, Nat.reduceAdd] at hst
  refine zn5 ?_
  refine ret1c (k := 2) rfl rfl (by kernel_rfl) (by kernel_rfl) rfl hst rfl ?_
  rw [simpF_eq hcl, ceilR_eq, if_pos he]
  exact ⟨_, _, _, _, _, _, _, _, rfl, IsQ.int hf⟩
  intro c32
  have hne : (r.floor : Rat) ≠ r := fun e => c32 (sgn_zero.2 e)
  have hce : ((ceilR r : Int) : Rat) = (r.floor : Rat) + 1 := by rw [ceilR_eq, if_neg hne, Rat.intCast_add]; rfl
  refine cp_skip ?_
  refine cp_then ?_
  refine cp_seq ?_
  refine cp_join (ι := (Bool × Option Addr × Nat × Nat × Bool × Option Addr × Nat × Nat) × Nat) (fun ((na6, A6, n6, c6, nb6, B6, m6, d6), b6) => [(2, .pointer (some ⟨b2, 0, none⟩)), (3, .pointer (some ⟨b3, 0, none⟩)), (4, .pointer (some ⟨b4, 0, none⟩)), (5, .pointer (some ⟨b5, 0, none⟩)), (6, .pointer (some ⟨b6, 0, none⟩))]) (fun ((na6, A6, n6, c6, nb6, B6, m6, d6), b6) w2 => ∃ g2, St w [] g g2 [(b2, .cells #[.bool na, .slice A n c, .bool nb, .slice B m d] 30 (0, 0)), (b3, .cells #[.bool na2, .slice A2 n2 c2, .bool nb2, .slice B2 m2 d2] 30 (0, 0)), (b4, .cells #[.bool false, .slice none 0 0, .bool false, .slice none 0 0] 30 (0, 0)), (b5, .cells #[.bool nf, .slice Af lf cf, .bool false, .slice none 0 0] 30 (0, 0)), (b6, .cells #[.bool na6, .slice A6 n6 c6, .bool nb6, .slice B6 m6 d6] 30 (0, 0))] w2 ∧ IsQ g2 na A n nb B m r ∧ IsQ g2 na2 A2 n2 nb2 B2 m2 x ∧ IsQ g2 nf Af lf false none 0 (r.floor : Rat) ∧ IsQ g2 na6 A6 n6 nb6 B6 m6 ((r.floor : Rat) + 1)) ?c11 ?d11
  case c11 =>
    refine cp_drawnT (by kernel_rfl) 4 (.d 0 (.e 1 (.e 2 (.e 3 .fin .no) (.e 3 (.e 2 .fin .no) .no)) (.e 3 (.e 1 (.e 2 .fin .no) .no) .no))) _ rfl (by kernel_rfl) (by kernel_rfl) (by kernel_rfl) (fun _ _ _ _ _ h => h) _ hst.drew ?_
    have hst0 := hst.drew
    have hst9 := hst.drew
    clear hst
    have hst := hst9
    clear hst9
    refine stepT_d rfl rfl rfl rfl (does_load_ownN 3 rfl (by kernel_rfl) zf119 rfl rfl rfl) ?_
    refine stepT_call rfl rfl rfl rfl rfl rfl hst0 hst (Mem.le.refl _) (by repeat (first | exact zR _ | apply zC | apply zD)) (sref_One hst.agree) ?_ ?_
    clear hst
    intro v12 g12 w12 hst hle12 hcs12 hp12
    have hlesum := hle12
    replace ha := ha.mono hle12
    replace hb := hb.mono hle12
    replace hf := hf.mono hle12
    obtain ⟨_, _, _, _, _, _, _, _, rfl, h35⟩ := hp12
    refine stepT_call rfl rfl rfl rfl rfl rfl hst0 hst hlesum (by repeat (first | exact zR _ | apply zC | apply zD)) (snum_RAdd hst.agree (IsQ.int hf) h35 ff f1) ?_ ?_
    clear hst
    intro v13 g13 w13 hst hle13 hcs13 hp13
    replace hlesum := Mem.le.trans hlesum hle13
    replace ha := ha.mono hle13
    replace hb := hb.mono hle13
    replace hf := hf.mono hle13
    replace h35 := h35.mono hle13
    obtain ⟨na6, A6, n6, c6, nb6, B6, m6, d6, rfl, h6⟩ := hp13
    refine stepT_alloc rfl rfl rfl rfl rfl zf121 rfl hst0 hst hlesum (by repeat (first | exact zR _ | apply zC | apply zD)) ?_ ?_
    clear hst
    intro b6 w14 hst
    refine stepT_tail ?_
    refine stepK_store 4 rfl rfl rfl rfl rfl rfl zf119 rfl rfl hst rfl (by first | (simp [uN_length]; omega) | simp) ?_
    clear hst
    intro w15 hst
    simp only [zL, splice, Nat.reduceAdd] at hst
    refine wpK_nil ?_
    refine join_end (((na6, A6, n6, c6, nb6, B6, m6, d6), b6)) ?_ ?_
    exact ⟨rfl, rfl, rfl, rfl, rfl, trivial⟩
    exact ⟨_, hst, ha, hb, IsQ.int hf, h6⟩
    exact stepT_no
    refine stepT_alloc rfl rfl rfl rfl rfl zf121 rfl hst0 hst hlesum (by repeat (first | exact zR _ | apply zC | apply zD)) ?_ ?_
    clear hst
    intro b6 w16 hst
    refine stepT_call rfl rfl rfl rfl rfl rfl hst0 hst hlesum (by repeat (first | exact zR _ | apply zC | apply zD)) (snum_RAdd hst.agree (IsQ.int hf) h35 ff f1) ?_ ?_
    clear hst
    intro v17 g17 w17 hst hle17 hcs17 hp17
    replace hlesum := Mem.le.trans hlesum hle17
    replace ha := ha.mono hle17
    replace hb := hb.mono hle17
    replace hf := hf.mono hle17
    replace h35 := h35.mono hle17
    obtain ⟨na6, A6, n6, c6, nb6, B6, m6, d6, rfl, h6⟩ := hp17
    refine stepT_tail ?_
    refine stepK_store 4 rfl rfl rfl rfl rfl rfl zf119 rfl rfl hst rfl (by first | (simp [uN_length]; omega) | simp) ?_
    clear hst
    intro w18 hst
    simp only [zL, splice, Nat.reduceAdd] at hst
    refine wpK_nil ?_
    refine join_end (((na6, A6, n6, c6, nb6, B6, m6, d6), b6)) ?_ ?_
    exact ⟨rfl, rfl, rfl, rfl, rfl, trivial⟩
    exact ⟨_, hst, ha, hb, IsQ.int hf, h6⟩
    exact stepT_no
    exact stepT_no
    refine stepT_alloc rfl rfl rfl rfl rfl zf121 rfl hst0 hst (Mem.le.refl _) (by repeat (first | exact zR _ | apply zC | apply zD)) ?_ ?_
    clear hst
    intro b6 w19 hst
    refine stepT_call rfl rfl rfl rfl rfl rfl hst0 hst (Mem.le.refl _) (by repeat (first | exact zR _ | apply zC | apply zD)) (sref_One hst.agree) ?_ ?_
    clear hst
    intro v20 g20 w20 hst hle20 hcs20 hp20
    have hlesum := hle20
    replace ha := ha.mono hle20
    replace hb := hb.mono hle20
    replace hf := hf.mono hle20
    obtain ⟨_, _, _, _, _, _, _, _, rfl, h35⟩ := hp20
    refine stepT_call rfl rfl rfl rfl rfl rfl hst0 hst hlesum (by repeat (first | exact zR _ | apply zC | apply zD)) (snum_RAdd hst.agree (IsQ.int hf) h35 ff f1) ?_ ?_
    clear hst
    intro v21 g21 w21 hst hle21 hcs21 hp21
    replace hlesum := Mem.le.trans hlesum hle21
    replace ha := ha.mono hle21
    replace hb := hb.mono hle21
    replace hf := hf.mono hle21
    replace h35 := h35.mono hle21
    obtain ⟨na6, A6, n6, c6, nb6, B6, m6, d6, rfl, h6⟩ := hp21
    refine stepT_tail ?_
    refine stepK_store 4 rfl rfl rfl rfl rfl rfl zf119 rfl rfl hst rfl (by first | (simp [uN_length]; omega) | simp) ?_
    clear hst
    intro w22 hst
    simp only [zL, splice, Nat.reduceAdd] at hst
    refine wpK_nil ?_
    refine join_end (((na6, A6, n6, c6, nb6, B6, m6, d6), b6)) ?_ ?_
    exact ⟨rfl, rfl, rfl, rfl, rfl, trivial⟩
    exact ⟨_, hst, ha, hb, IsQ.int hf, h6⟩
    exact stepT_no
    exact stepT_no
    exact stepT_no
  case d11 =>
    clear hst
    clear ha hb hf
    rintro ⟨⟨na6, A6, n6, c6, nb6, B6, m6, d6⟩, b6⟩ w2 ⟨g2, hst, ha, hb, hf9, h6⟩
    simp only
    refine zsr ?_
    refine stepK_d rfl rfl rfl hst (does_load_ownN 4 rfl (by kernel_rfl) zf119 rfl rfl rfl) ?_
    refine stepK_d rfl rfl rfl hst (does_load_ownN 1 rfl (by kernel_rfl) zf119 rfl rfl rfl) ?_
    refine stepK_call rfl rfl rfl rfl rfl hst (snum_RCmp hst.agree h6 hb fc fx) ?_
    clear hst
    intro v23 g23 w23 hst hle23 hcs23 hp23
    replace ha := ha.mono hle23
    replace hb := hb.mono hle23
    replace hf9 := hf9.mono hle23
    replace h6 := h6.mono hle23
    obtain rfl := hp23
    refine stepK_d rfl rfl rfl hst (does_leq rfl rfl rfl) ?_
    refine znt ?_
    refine cp_if rfl ?_ ?_
    intro c40
    have hcl : ((ceilR r : Int) : Rat) ≤ x := by rw [hce]; exact sgn_le.1 c40
    refine zsr ?_
    refine stepK_d rfl rfl rfl hst (does_load_ownN 4 rfl (by kernel_rfl) zf119 rfl rfl rfl) ?_
    refine stepK_store 2 rfl rfl rfl rfl rfl rfl zf119 rfl rfl hst rfl (by first | (simp [uN_length]; omega) | simp) ?_
    clear hst
    intro w24 hst
    simp only [zL, splice, Nat.reduceAdd] at hst
    refine zn5 ?_
    refine ret1c (k := 2) rfl rfl (by kernel_rfl) (by kernel_rfl) rfl hst rfl ?_
    rw [simpF_eq hcl, hce]
    exact ⟨_, _, _, _, _, _, _, _, rfl, h6⟩
    intro c40
    have hc : ¬ ((ceilR r : Int) : Rat) ≤ x := fun h => c40 (sgn_le.2 (by rw [← hce]; exact h))
    obtain ⟨s1, s2⟩ := simp_sz h0 hle hc hz1 hz2
    obtain ⟨dd1, dd2, dd3, dd4⟩ := simp_den h0 hle hc
    obtain ⟨_, _, _, _, _, hle2⟩ := simp_step h0 hle hc
    have hp := simp_pos h0 hle hc
    have sr := simpF_sz hp hle2 (n := N) (by omega) s1
    refine cp_skip ?_
    refine cp_then ?_
    refine cp_join (ι := (Bool × Option Addr × Nat × Nat × Bool × Option Addr × Nat × Nat) × Nat) (fun ((na7, A7, n7, c7, nb7, B7, m7, d7), b7) => [(2, .pointer (some ⟨b2, 0, none⟩)), (3, .pointer (some ⟨b3, 0, none⟩)), (4, .pointer (some ⟨b4, 0, none⟩)), (5, .pointer (some ⟨b5, 0, none⟩)), (6, .pointer (some ⟨b6, 0, none⟩)), (7, .pointer (some ⟨b7, 0, none⟩))]) (fun ((na7, A7, n7, c7, nb7, B7, m7, d7), b7) w3 => ∃ g2, St w [] g g2 [(b2, .cells #[.bool na, .slice A n c, .bool nb, .slice B m d] 30 (0, 0)), (b3, .cells #[.bool na2, .slice A2 n2 c2, .bool nb2, .slice B2 m2 d2] 30 (0, 0)), (b4, .cells #[.bool false, .slice none 0 0, .bool false, .slice none 0 0] 30 (0, 0)), (b5, .cells #[.bool nf, .slice Af lf cf, .bool false, .slice none 0 0] 30 (0, 0)), (b6, .cells #[.bool na6, .slice A6 n6 c6, .bool nb6, .slice B6 m6 d6] 30 (0, 0)), (b7, .cells #[.bool na7, .slice A7 n7 c7, .bool nb7, .slice B7 m7 d7] 30 (0, 0))] w3 ∧ IsQ g2 na A n nb B m r ∧ IsQ g2 na2 A2 n2 nb2 B2 m2 x ∧ IsQ g2 nf Af lf false none 0 (r.floor : Rat) ∧ IsQ g2 na7 A7 n7 nb7 B7 m7 (simpF N (x - (r.floor : Rat))⁻¹ (r - (r.floor : Rat))⁻¹)) ?c25 ?d25
    case c25 =>
      refine cp_drawnT (by kernel_rfl) 12 (.d 1 (.d 2 (.d 6 (.d 7 (.e 0 (.e 3 (.e 4 (.e 5 (.e 8 (.e 9 (.e 10 (.e 11 .fin .no) (.e 11 (.e 10 .fin .no) .no)) (.e 11 (.e 9 (.e 10 .fin .no) .no) .no)) (.e 11 (.e 8 (.e 9 (.e 10 .fin .no) .no) .no) .no)) (.e 11 (.e 5 (.e 8 (.e 9 (.e 10 .fin .no) .no) .no) .no) .no)) (.e 11 (.e 4 (.e 5 (.e 8 (.e 9 (.e 10 .fin .no) .no) .no) .no) .no) .no)) (.e 11 (.e 3 (.e 4 (.e 5 (.e 8 (.e 9 (.e 10 .fin .no) .no) .no) .no) .no) .no) .no)) (.e 11 (.e 0 (.e 3 (.e 4 (.e 5 (.e 8 (.e 9 (.e 10 .fin .no) .no) .no) .no) .no) .no) .no) .no)))))) _ rfl (by kernel_rfl) (by kernel_rfl) (by kernel_rfl) (fun _ _ _ _ _ h => h) _ hst.drew ?_
      have hst0 := hst.drew
      have hst9 := hst.drew
      clear hst
      have hst := hst9
      clear hst9
      refine stepT_d rfl rfl rfl rfl (does_load_ownN 1 rfl (by kernel_rfl) zf119 rfl rfl rfl) ?_
      refine stepT_d rfl rfl rfl rfl (does_load_ownN 3 rfl (by kernel_rfl) zf119 rfl rfl rfl) ?_
      refine stepT_d rfl rfl rfl rfl (does_load_ownN 0 rfl (by kernel_rfl) zf119 rfl rfl rfl) ?_
      refine stepT_d rfl rfl rfl rfl (does_load_ownN 3 rfl (by kernel_rfl) zf119 rfl rfl rfl) ?_
      refine stepT_call rfl rfl rfl rfl rfl rfl hst0 hst (Mem.le.refl _) (by repeat (first | exact zR _ | apply zC | apply zD)) (sref_One hst.agree) ?_ ?_
      clear hst
      intro v26 g26 w26 hst hle26 hcs26 hp26
      have hlesum := hle26
      replace ha := ha.mono hle26
      replace hb := hb.mono hle26
      replace hf9 := hf9.mono hle26
      replace h6 := h6.mono hle26
      obtain ⟨_, _, _, _, _, _, _, _, rfl, h42⟩ := hp26
      refine stepT_call rfl rfl rfl rfl rfl rfl hst0 hst hlesum (by repeat (first | exact zR _ | apply zC | apply zD)) (snum_RSub hst.agree hb hf9 fx ff) ?_ ?_
      clear hst
      intro v27 g27 w27 hst hle27 hcs27 hp27
      replace hlesum := Mem.le.trans hlesum hle27
      replace ha := ha.mono hle27
      replace hb := hb.mono hle27
      replace hf9 := hf9.mono hle27
      replace h6 := h6.mono hle27
      replace h42 := h42.mono hle27
      obtain ⟨_, _, _, _, _, _, _, _, rfl, h45⟩ := hp27
      refine stepT_call rfl rfl rfl rfl rfl rfl hst0 hst hlesum (by repeat (first | exact zR _ | apply zC | apply zD)) (snum_RDiv hst.agree h42 h45 f1 fs1) ?_ ?_
      clear hst
      intro v28 g28 w28 hst hle28 hcs28 hp28
      replace hlesum := Mem.le.trans hlesum hle28
      replace ha := ha.mono hle28
      replace hb := hb.mono hle28
      replace hf9 := hf9.mono hle28
      replace h6 := h6.mono hle28
      replace h42 := h42.mono hle28
      replace h45 := h45.mono hle28
      obtain ⟨_, _, _, _, _, _, _, _, rfl, h46⟩ := hp28
      refine stepT_call rfl rfl rfl rfl rfl rfl hst0 hst hlesum (by repeat (first | exact zR _ | apply zC | apply zD)) (sref_One hst.agree) ?_ ?_
      clear hst
      intro v29 g29 w29 hst hle29 hcs29 hp29
      replace hlesum := Mem.le.trans hlesum hle29
      replace ha := ha.mono hle29
      replace hb := hb.mono hle29
      replace hf9 := hf9.mono hle29
      replace h6 := h6.mono hle29
      replace h42 := h42.mono hle29
      replace h45 := h45.mono hle29
      replace h46 := h46.mono hle29
      obtain ⟨_, _, _, _, _, _, _, _, rfl, h47⟩ := hp29
      refine stepT_call rfl rfl rfl rfl rfl rfl hst0 hst hlesum (by repeat (first | exact zR _ | apply zC | apply zD)) (snum_RSub hst.agree ha hf9 fr ff) ?_ ?_
      clear hst
      intro v30 g30 w30 hst hle30 hcs30 hp30
      replace hlesum := Mem.le.trans hlesum hle30
      replace ha := ha.mono hle30
      replace hb := hb.mono hle30
      replace hf9 := hf9.mono hle30
      replace h6 := h6.mono hle30
      replace h42 := h42.mono hle30
      replace h45 := h45.mono hle30
      replace h46 := h46.mono hle30
      replace h47 := h47.mono hle30
      obtain ⟨_, _, _, _, _, _, _, _, rfl, h50⟩ := hp30
      refine stepT_call rfl rfl rfl rfl rfl rfl hst0 hst hlesum (by repeat (first | exact zR _ | apply zC | apply zD)) (snum_RDiv hst.agree h47 h50 f1 fs2) ?_ ?_
      clear hst
      intro v31 g31 w31 hst hle31 hcs31 hp31
      replace hlesum := Mem.le.trans hlesum hle31
      replace ha := ha.mono hle31
      replace hb := hb.mono hle31
      replace hf9 := hf9.mono hle31
      replace h6 := h6.mono hle31
      replace h42 := h42.mono hle31
      replace h45 := h45.mono hle31
      replace h46 := h46.mono hle31
      replace h47 := h47.mono hle31
      replace h50 := h50.mono hle31
      obtain ⟨_, _, _, _, _, _, _, _, rfl, h51⟩ := hp31
      refine stepT_call rfl rfl rfl rfl rfl rfl hst0 hst hlesum (by repeat (first | exact zR _ | apply zC | apply zD)) (ih hst.agree (h46.to (by rw [Rat.div_def, Rat.one_mul])) (h51.to (by rw [Rat.div_def, Rat.one_mul])) hp hle2 s1 s2 (by omega)) ?_ ?_
      clear hst
      intro v32 g32 w32 hst hle32 hcs32 hp32
      replace hlesum := Mem.le.trans hlesum hle32
      replace ha := ha.mono hle32
      replace hb := hb.mono hle32
      replace hf9 := hf9.mono hle32
      replace h6 := h6.mono hle32
      replace h42 := h42.mono hle32
      replace h45 := h45.mono hle32
      replace h46 := h46.mono hle32
      replace h47 := h47.mono hle32
      replace h50 := h50.mono hle32
      replace h51 := h51.mono hle32
      obtain ⟨na7, A7, n7, c7, nb7, B7, m7, d7, rfl, h7⟩ := hp32
      refine stepT_alloc rfl rfl rfl rfl rfl zf121 rfl hst0 hst hlesum (by repeat (first | exact zR _ | apply zC | apply zD)) ?_ ?_
      clear hst
      intro b7 w33 hst
      refine stepT_tail ?_
      refine stepK_store 5 rfl rfl rfl rfl rfl rfl zf119 rfl rfl hst rfl (by first | (simp [uN_length]; omega) | simp) ?_
      clear hst
      intro w34 hst
      simp only [zL, splice, Nat.reduceAdd] at hst
      refine wpK_nil ?_
      refine join_end (((na7, A7, n7, c7, nb7, B7, m7, d7), b7)) ?_ ?_
      exact ⟨rfl, rfl, rfl, rfl, rfl, rfl, trivial⟩
      exact ⟨_, hst, ha, hb, hf9, h7⟩
      exact stepT_no
      refine stepT_alloc rfl rfl rfl rfl rfl zf121 rfl hst0 hst hlesum (by repeat (first | exact zR _ | apply zC | apply zD)) ?_ ?_
      clear hst
      intro b7 w35 hst
      refine stepT_call rfl rfl rfl rfl rfl rfl hst0 hst hlesum (by repeat (first | exact zR _ | apply zC | apply zD)) (ih hst.agree (h46.to (by rw [Rat.div_def, Rat.one_mul])) (h51.to (by rw [Rat.div_def, Rat.one_mul])) hp hle2 s1 s2 (by omega)) ?_ ?_
      clear hst
      intro v36 g36 w36 hst hle36 hcs36 hp36
      replace hlesum := Mem.le.trans hlesum hle36
      replace ha := ha.mono hle36
      replace hb := hb.mono hle36
      replace hf9 := hf9.mono hle36
      replace h6 := h6.mono hle36
      replace h42 := h42.mono hle36
      replace h45 := h45.mono hle36
      replace h46 := h46.mono hle36
      replace h47 := h47.mono hle36
      replace h50 := h50.mono hle36
      replace h51 := h51.mono hle36
      obtain ⟨na7, A7, n7, c7, nb7, B7, m7, d7, rfl, h7⟩ := hp36
      refine stepT_tail ?_
      refine stepK_store 5 rfl rfl rfl rfl rfl rfl zf119 rfl rfl hst rfl (by first | (simp [uN_length]; omega) | simp) ?_
      clear hst
      intro w37 hst
      simp only [zL, splice, Nat.reduceAdd] at hst
      refine wpK_nil ?_
      refine join_end (((na7, A7, n7, c7, nb7, B7, m7, d7), b7)) ?_ ?_
      exact ⟨rfl, rfl, rfl, rfl, rfl, rfl, trivial⟩
      exact ⟨_, hst, ha, hb, hf9, h7⟩
      exact stepT_no
      exact stepT_no
      refine stepT_alloc rfl rfl rfl rfl rfl zf121 rfl hst0 hst hlesum (by repeat (first | exact zR _ | apply zC | apply zD)) ?_ ?_
      clear hst
      intro b7 w38 hst
      refine stepT_call rfl rfl rfl rfl rfl rfl hst0 hst hlesum (by repeat (first | exact zR _ | apply zC | apply zD)) (snum_RDiv hst.agree h47 h50 f1 fs2) ?_ ?_
      clear hst
      intro v39 g39 w39 hst hle39 hcs39 hp39
      replace hlesum := Mem.le.trans hlesum hle39
      replace ha := ha.mono hle39
      replace hb := hb.mono hle39
      replace hf9 := hf9.mono hle39
      replace h6 := h6.mono hle39
      replace h42 := h42.mono hle39
      replace h45 := h45.mono hle39
      replace h46 := h46.mono hle39
      replace h47 := h47.mono hle39
      replace h50 := h50.mono hle39
      obtain ⟨_, _, _, _, _, _, _, _, rfl, h51⟩ := hp39
      refine stepT_call rfl rfl rfl rfl rfl rfl hst0 hst hlesum (by repeat (first | exact zR _ | apply zC | apply zD)) (ih hst.agree (h46.to (by rw [Rat.div_def, Rat.one_mul])) (h51.to (by rw [Rat.div_def, Rat.one_mul])) hp hle2 s1 s2 (by omega)) ?_ ?_
      clear hst
      intro v40 g40 w40 hst hle40 hcs40 hp40
      replace hlesum := Mem.le.trans hlesum hle40
      replace ha := ha.mono hle40
      replace hb := hb.mono hle40
      replace hf9 := hf9.mono hle40
      replace h6 := h6.mono hle40
      replace h42 := h42.mono hle40
      replace h45 := h45.mono hle40
      replace h46 := h46.mono hle40
      replace h47 := h47.mono hle40
      replace h50 := h50.mono hle40
      replace h51 := h51.mono hle40
      obtain ⟨na7, A7, n7, c7, nb7, B7, m7, d7, rfl, h7⟩ := hp40
      refine stepT_tail ?_
      refine stepK_store 5 rfl rfl rfl rfl rfl rfl zf119 rfl rfl hst rfl (by first | (simp [uN_length]; omega) | simp) ?_
      clear hst
      intro w41 hst
      simp only [zL, splice, Nat.reduceAdd] at hst
      refine wpK_nil ?_
      refine join_end (((na7, A7, n7, c7, nb7, B7, m7, d7), b7)) ?_ ?_
      exact ⟨rfl, rfl, rfl, rfl, rfl, rfl, trivial⟩
      exact ⟨_, hst, ha, hb, hf9, h7⟩
      exact stepT_no
      exact stepT_no
      exact stepT_no
      refine stepT_alloc rfl rfl rfl rfl rfl zf121 rfl hst0 hst hlesum (by repeat (first | exact zR _ | apply zC | apply zD)) ?_ ?_
      clear hst
      intro b7 w42 hst
      refine stepT_call rfl rfl rfl rfl rfl rfl hst0 hst hlesum (by repeat (first | exact zR _ | apply zC | apply zD)) (snum_RSub hst.agree ha hf9 fr ff) ?_ ?_
      clear hst
      intro v43 g43 w43 hst hle43 hcs43 hp43
      replace hlesum := Mem.le.trans hlesum hle43
      replace ha := ha.mono hle43
      replace hb := hb.mono hle43
      replace hf9 := hf9.mono hle43
      replace h6 := h6.mono hle43
      replace h42 := h42.mono hle43
      replace h45 := h45.mono hle43
      replace h46 := h46.mono hle43
      replace h47 := h47.mono hle43
      obtain ⟨_, _, _, _, _, _, _, _, rfl, h50⟩ := hp43
      refine stepT_call rfl rfl rfl rfl rfl rfl hst0 hst hlesum (by repeat (first | exact zR _ | apply zC | apply zD)) (snum_RDiv hst.agree h47 h50 f1 fs2) ?_ ?_
      clear hst
      intro v44 g44 w44 hst hle44 hcs44 hp44
      replace hlesum := Mem.le.trans hlesum hle44
      replace ha := ha.mono hle44
      replace hb := hb.mono hle44
      replace hf9 := hf9.mono hle44
      replace h6 := h6.mono hle44
      replace h42 := h42.mono hle44
      replace h45 := h45.mono hle44
      replace h46 := h46.mono hle44
      replace h47 := h47.mono hle44
      replace h50 := h50.mono hle44
      obtain ⟨_, _, _, _, _, _, _, _, rfl, h51⟩ := hp44
      refine stepT_call rfl rfl rfl rfl rfl rfl hst0 hst hlesum (by repeat (first | exact zR _ | apply zC | apply zD)) (ih hst.agree (h46.to (by rw [Rat.div_def, Rat.one_mul])) (h51.to (by rw [Rat.div_def, Rat.one_mul])) hp hle2 s1 s2 (by omega)) ?_ ?_
      clear hst
      intro v45 g45 w45 hst hle45 hcs45 hp45
      replace hlesum := Mem.le.trans hlesum hle45
      replace ha := ha.mono hle45
      replace hb := hb.mono hle45
      replace hf9 := hf9.mono hle45
      replace h6 := h6.mono hle45
      replace h42 := h42.mono hle45
      replace h45 := h45.mono hle45
      replace h46 := h46.mono hle45
      replace h47 := h47.mono hle45
      replace h50 := h50.mono hle45
      replace h51 := h51.mono hle45
      obtain ⟨na7, A7, n7, c7, nb7, B7, m7, d7, rfl, h7⟩ := hp45
      refine stepT_tail ?_
      refine stepK_store 5 rfl rfl rfl rfl rfl rfl zf119 rfl rfl hst rfl (by first | (simp [uN_length]; omega) | simp) ?_
      clear hst
      intro w46 hst
      simp only [zL, splice, Nat.reduceAdd] at hst
      refine wpK_nil ?_
      refine join_end (((na7, A7, n7, c7, nb7, B7, m7, d7), b7)) ?_ ?_
      exact ⟨rfl, rfl, rfl, rfl, rfl, rfl, trivial⟩
      exact ⟨_, hst, ha, hb, hf9, h7⟩
      exact stepT_no
      exact stepT_no
      exact stepT_no
      exact stepT_no
      refine stepT_alloc rfl rfl rfl rfl rfl zf121 rfl hst0 hst hlesum (by repeat (first | exact zR _ | apply zC | apply zD)) ?_ ?_
      clear hst
      intro b7 w47 hst
      refine stepT_call rfl rfl rfl rfl rfl rfl hst0 hst hlesum (by repeat (first | exact zR _ | apply zC | apply zD)) (sref_One hst.agree) ?_ ?_
      clear hst
      intro v48 g48 w48 hst hle48 hcs48 hp48
      replace hlesum := Mem.le.trans hlesum hle48
      replace ha := ha.mono hle48
      replace hb := hb.mono hle48
      replace hf9 := hf9.mono hle48
      replace h6 := h6.mono hle48
      replace h42 := h42.mono hle48
      replace h45 := h45.mono hle48
      replace h46 := h46.mono hle48
      obtain ⟨_, _, _, _, _, _, _, _, rfl, h47⟩ := hp48
      refine stepT_call rfl rfl rfl rfl rfl rfl hst0 hst hlesum (by repeat (first | exact zR _ | apply zC | apply zD)) (snum_RSub hst.agree ha hf9 fr ff) ?_ ?_
      clear hst
      intro v49 g49 w49 hst hle49 hcs49 hp49
      replace hlesum := Mem.le.trans hlesum hle49
      replace ha := ha.mono hle49
      replace hb := hb.mono hle49
      replace hf9 := hf9.mono hle49
      replace h6 := h6.mono hle49
      replace h42 := h42.mono hle49
      replace h45 := h45.mono hle49
      replace h46 := h46.mono hle49
      replace h47 := h47.mono hle49
      obtain ⟨_, _, _, _, _, _, _, _, rfl, h50⟩ := hp49
      refine stepT_call rfl rfl rfl rfl rfl rfl hst0 hst hlesum (by repeat (first | exact zR _ | apply zC | apply zD)) (snum_RDiv hst.agree h47 h50 f1 fs2) ?_ ?_
      clear hst
      intro v50 g50 w50 hst hle50 hcs50 hp50
      replace hlesum := Mem.le.trans hlesum hle50
      replace ha := ha.mono hle50
      replace hb := hb.mono hle50
      replace hf9 := hf9.mono hle50
      replace h6 := h6.mono hle50
      replace h42 := h42.mono hle50
      replace h45 := h45.mono hle50
      replace h46 := h46.mono hle50
      replace h47 := h47.mono hle50
      replace h50 := h50.mono hle50
      obtain ⟨_, _, _, _, _, _, _, _, rfl, h51⟩ := hp50
      refine stepT_call rfl rfl rfl rfl rfl rfl hst0 hst hlesum (by repeat (first | exact zR _ | apply zC | apply zD)) (ih hst.agree (h46.to (by rw [Rat.div_def, Rat.one_mul])) (h51.to (by rw [Rat.div_def, Rat.one_mul])) hp hle2 s1 s2 (by omega)) ?_ ?_
      clear hst
      intro v51 g51 w51 hst hle51 hcs51 hp51
      replace hlesum := Mem.le.trans hlesum hle51
      replace ha := ha.mono hle51
      replace hb := hb.mono hle51
      replace hf9 := hf9.mono hle51
      replace h6 := h6.mono hle51
      replace h42 := h42.mono hle51
      replace h45 := h45.mono hle51
      replace h46 := h46.mono hle51
      replace h47 := h47.mono hle51
      replace h50 := h50.mono hle51
      replace h51 := h51.mono hle51
      obtain ⟨na7, A7, n7, c7, nb7, B7, m7, d7, rfl, h7⟩ := hp51
      refine stepT_tail ?_
      refine stepK_store 5 rfl rfl rfl rfl rfl rfl zf119 rfl rfl hst rfl (by first | (simp [uN_length]; omega) | simp) ?_
      clear hst
      intro w52 hst
      simp only [zL, splice, Nat.reduceAdd] at hst
      refine wpK_nil ?_
      refine join_end (((na7, A7, n7, c7, nb7, B7, m7, d7), b7)) ?_ ?_
      exact ⟨rfl, rfl, rfl, rfl, rfl, rfl, trivial⟩
      exact ⟨_, hst, ha, hb, hf9, h7⟩
      exact stepT_no
      exact stepT_no
      exact stepT_no
      exact stepT_no
      exact stepT_no
      refine stepT_alloc rfl rfl rfl rfl rfl zf121 rfl hst0 hst hlesum (by repeat (first | exact zR _ | apply zC | apply zD)) ?_ ?_
      clear hst
      intro b7 w53 hst
      refine stepT_call rfl rfl rfl rfl rfl rfl hst0 hst hlesum (by repeat (first | exact zR _ | apply zC | apply zD)) (snum_RDiv hst.agree h42 h45 f1 fs1) ?_ ?_
      clear hst
      intro v54 g54 w54 hst hle54 hcs54 hp54
      replace hlesum := Mem.le.trans hlesum hle54
      replace ha := ha.mono hle54
      replace hb := hb.mono hle54
      replace hf9 := hf9.mono hle54
      replace h6 := h6.mono hle54
      replace h42 := h42.mono hle54
      replace h45 := h45.mono hle54
      obtain ⟨_, _, _, _, _, _, _, _, rfl, h46⟩ := hp54
      refine stepT_call rfl rfl rfl rfl rfl rfl hst0 hst hlesum (by repeat (first | exact zR _ | apply zC | apply zD)) (sref_One hst.agree) ?_ ?_
      clear hst
      intro v55 g55 w55 hst hle55 hcs55 hp55
      replace hlesum := Mem.le.trans hlesum hle55
      replace ha := ha.mono hle55
      replace hb := hb.mono hle55
      replace hf9 := hf9.mono hle55
      replace h6 := h6.mono hle55
      replace h42 := h42.mono hle55
      replace h45 := h45.mono hle55
      replace h46 := h46.mono hle55
      obtain ⟨_, _, _, _, _, _, _, _, rfl, h47⟩ := hp55
      refine stepT_call rfl rfl rfl rfl rfl rfl hst0 hst hlesum (by repeat (first | exact zR _ | apply zC | apply zD)) (snum_RSub hst.agree ha hf9 fr ff) ?_ ?_
      clear hst
      intro v56 g56 w56 hst hle56 hcs56 hp56
      replace hlesum := Mem.le.trans hlesum hle56
      replace ha := ha.mono hle56
      replace hb := hb.mono hle56
      replace hf9 := hf9.mono hle56
      replace h6 := h6.mono hle56
      replace h42 := h42.mono hle56
      replace h45 := h45.mono hle56
      replace h46 := h46.mono hle56
      replace h47 := h47.mono hle56
      obtain ⟨_, _, _, _, _, _, _, _, rfl, h50⟩ := hp56
      refine stepT_call rfl rfl rfl rfl rfl rfl hst0 hst hlesum (by repeat (first | exact zR _ | apply zC | apply zD)) (snum_RDiv hst.agree h47 h50 f1 fs2) ?_ ?_
      clear hst
      intro v57 g57 w57 hst hle57 hcs57 hp57
      replace hlesum := Mem.le.trans hlesum hle57
      replace ha := ha.mono hle57
      replace hb := hb.mono hle57
      replace hf9 := hf9.mono hle57
      replace h6 := h6.mono hle57
      replace h42 := h42.mono hle57
      replace h45 := h45.mono hle57
      replace h46 := h46.mono hle57
      replace h47 := h47.mono hle57
      replace h50 := h50.mono hle57
      obtain ⟨_, _, _, _, _, _, _, _, rfl, h51⟩ := hp57
      refine stepT_call rfl rfl rfl rfl rfl rfl hst0 hst hlesum (by repeat (first | exact zR _ | apply zC | apply zD)) (ih hst.agree (h46.to (by rw [Rat.div_def, Rat.one_mul])) (h51.to (by rw [Rat.div_def, Rat.one_mul])) hp hle2 s1 s2 (by omega)) ?_ ?_
      clear hst
      intro v58 g58 w58 hst hle58 hcs58 hp58
      replace hlesum := Mem.le.trans hlesum hle58
      replace ha := ha.mono hle58
      replace hb := hb.mono hle58
      replace hf9 := hf9.mono hle58
      replace h6 := h6.mono hle58
      replace h42 := h42.mono hle58
      replace h45 := h45.mono hle58
      replace h46 := h46.mono hle58
      replace h47 := h47.mono hle58
      replace h50 := h50.mono hle58
      replace h51 := h51.mono hle58
      obtain ⟨na7, A7, n7, c7, nb7, B7, m7, d7, rfl, h7⟩ := hp58
      refine stepT_tail ?_
      refine stepK_store 5 rfl rfl rfl rfl rfl rfl zf119 rfl rfl hst rfl (by first | (simp [uN_length]; omega) | simp) ?_
      clear hst
      intro w59 hst
      simp only [zL, splice, Nat.reduceAdd] at hst
      refine wpK_nil ?_
      refine join_end (((na7, A7, n7, c7, nb7, B7, m7, d7), b7)) ?_ ?_
      exact ⟨rfl, rfl, rfl, rfl, rfl, rfl, trivial⟩
      exact ⟨_, hst, ha, hb, hf9, h7⟩
      exact stepT_no
      exact stepT_no
      exact stepT_no
      exact stepT_no
      exact stepT_no
      exact stepT_no
      refine stepT_alloc rfl rfl rfl rfl rfl zf121 rfl hst0 hst hlesum (by repeat (first | exact zR _ | apply zC | apply zD)) ?_ ?_
      clear hst
      intro b7 w60 hst
      refine stepT_call rfl rfl rfl rfl rfl rfl hst0 hst hlesum (by repeat (first | exact zR _ | apply zC | apply zD)) (snum_RSub hst.agree hb hf9 fx ff) ?_ ?_
      clear hst
      intro v61 g61 w61 hst hle61 hcs61 hp61
      replace hlesum := Mem.le.trans hlesum hle61
      replace ha := ha.mono hle61
      replace hb := hb.mono hle61
      replace hf9 := hf9.mono hle61
      replace h6 := h6.mono hle61
      replace h42 := h42.mono hle61
      obtain ⟨_, _, _, _, _, _, _, _, rfl, h45⟩ := hp61
      refine stepT_call rfl rfl rfl rfl rfl rfl hst0 hst hlesum (by repeat (first | exact zR _ | apply zC | apply zD)) (snum_RDiv hst.agree h42 h45 f1 fs1) ?_ ?_
      clear hst
      intro v62 g62 w62 hst hle62 hcs62 hp62
      replace hlesum := Mem.le.trans hlesum hle62
      replace ha := ha.mono hle62
      replace hb := hb.mono hle62
      replace hf9 := hf9.mono hle62
      replace h6 := h6.mono hle62
      replace h42 := h42.mono hle62
      replace h45 := h45.mono hle62
      obtain ⟨_, _, _, _, _, _, _, _, rfl, h46⟩ := hp62
      refine stepT_call rfl rfl rfl rfl rfl rfl hst0 hst hlesum (by repeat (first | exact zR _ | apply zC | apply zD)) (sref_One hst.agree) ?_ ?_
      clear hst
      intro v63 g63 w63 hst hle63 hcs63 hp63
      replace hlesum := Mem.le.trans hlesum hle63
      replace ha := ha.mono hle63
      replace hb := hb.mono hle63
      replace hf9 := hf9.mono hle63
      replace h6 := h6.mono hle63
      replace h42 := h42.mono hle63
      replace h45 := h45.mono hle63
      replace h46 := h46.mono hle63
      obtain ⟨_, _, _, _, _, _, _, _, rfl, h47⟩ := hp63
      refine stepT_call rfl rfl rfl rfl rfl rfl hst0 hst hlesum (by repeat (first | exact zR _ | apply zC | apply zD)) (snum_RSub hst.agree ha hf9 fr ff) ?_ ?_
      clear hst
      intro v64 g64 w64 hst hle64 hcs64 hp64
      replace hlesum := Mem.le.trans hlesum hle64
      replace ha := ha.mono hle64
      replace hb := hb.mono hle64
      replace hf9 := hf9.mono hle64
      replace h6 := h6.mono hle64
      replace h42 := h42.mono hle64
      replace h45 := h45.mono hle64
      replace h46 := h46.mono hle64
      replace h47 := h47.mono hle64
      obtain ⟨_, _, _, _, _, _, _, _, rfl, h50⟩ := hp64
      refine stepT_call rfl rfl rfl rfl rfl rfl hst0 hst hlesum (by repeat (first | exact zR _ | apply zC | apply zD)) (snum_RDiv hst.agree h47 h50 f1 fs2) ?_ ?_
      clear hst
      intro v65 g65 w65 hst hle65 hcs65 hp65
      replace hlesum := Mem.le.trans hlesum hle65
      replace ha := ha.mono hle65
      replace hb := hb.mono hle65
      replace hf9 := hf9.mono hle65
      replace h6 := h6.mono hle65
      replace h42 := h42.mono hle65
      replace h45 := h45.mono hle65
      replace h46 := h46.mono hle65
      replace h47 := h47.mono hle65
      replace h50 := h50.mono hle65
      obtain ⟨_, _, _, _, _, _, _, _, rfl, h51⟩ := hp65
      refine stepT_call rfl rfl rfl rfl rfl rfl hst0 hst hlesum (by repeat (first | exact zR _ | apply zC | apply zD)) (ih hst.agree (h46.to (by rw [Rat.div_def, Rat.one_mul])) (h51.to (by rw [Rat.div_def, Rat.one_mul])) hp hle2 s1 s2 (by omega)) ?_ ?_
      clear hst
      intro v66 g66 w66 hst hle66 hcs66 hp66
      replace hlesum := Mem.le.trans hlesum hle66
      replace ha := ha.mono hle66
      replace hb := hb.mono hle66
      replace hf9 := hf9.mono hle66
      replace h6 := h6.mono hle66
      replace h42 := h42.mono hle66
      replace h45 := h45.mono hle66
      replace h46 := h46.mono hle66
      replace h47 := h47.mono hle66
      replace h50 := h50.mono hle66
      replace h51 := h51.mono hle66
      obtain ⟨na7, A7, n7, c7, nb7, B7, m7, d7, rfl, h7⟩ := hp66
      refine stepT_tail ?_
      refine stepK_store 5 rfl rfl rfl rfl rfl rfl zf119 rfl rfl hst rfl (by first | (simp [uN_length]; omega) | simp) ?_
      clear hst
      intro w67 hst
      simp only [zL, splice, Nat.reduceAdd] at hst
      refine wpK_nil ?_
      refine join_end (((na7, A7, n7, c7, nb7, B7, m7, d7), b7)) ?_ ?_
      exact ⟨rfl, rfl, rfl, rfl, rfl, rfl, trivial⟩
      exact ⟨_, hst, ha, hb, hf9, h7⟩
      exact stepT_no
      exact stepT_no
      exact stepT_no
      exact stepT_no
      exact stepT_no
      exact stepT_no
      exact stepT_no
      refine stepT_alloc rfl rfl rfl rfl rfl zf121 rfl hst0 hst (Mem.le.refl _) (by repeat (first | exact zR _ | apply zC | apply zD)) ?_ ?_
      clear hst
      intro b7 w68 hst
      refine stepT_call rfl rfl rfl rfl rfl rfl hst0 hst (Mem.le.refl _) (by repeat (first | exact zR _ | apply zC | apply zD)) (sref_One hst.agree) ?_ ?_
      clear hst
      intro v69 g69 w69 hst hle69 hcs69 hp69
      have hlesum := hle69
      replace ha := ha.mono hle69
      replace hb := hb.mono hle69
      replace hf9 := hf9.mono hle69
      replace h6 := h6.mono hle69
      obtain ⟨_, _, _, _, _, _, _, _, rfl, h42⟩ := hp69
      refine stepT_call rfl rfl rfl rfl rfl rfl hst0 hst hlesum (by repeat (first | exact zR _ | apply zC | apply zD)) (snum_RSub hst.agree hb hf9 fx ff) ?_ ?_
      clear hst
      intro v70 g70 w70 hst hle70 hcs70 hp70
      replace hlesum := Mem.le.trans hlesum hle70
      replace ha := ha.mono hle70
      replace hb := hb.mono hle70
      replace hf9 := hf9.mono hle70
      replace h6 := h6.mono hle70
      replace h42 := h42.mono hle70
      obtain ⟨_, _, _, _, _, _, _, _, rfl, h45⟩ := hp70
      refine stepT_call rfl rfl rfl rfl rfl rfl hst0 hst hlesum (by repeat (first | exact zR _ | apply zC | apply zD)) (snum_RDiv hst.agree h42 h45 f1 fs1) ?_ ?_
      clear hst
      intro v71 g71 w71 hst hle71 hcs71 hp71
      replace hlesum := Mem.le.trans hlesum hle71
      replace ha := ha.mono hle71
      replace hb := hb.mono hle71
      replace hf9 := hf9.mono hle71
      replace h6 := h6.mono hle71
      replace h42 := h42.mono hle71
      replace h45 := h45.mono hle71
      obtain ⟨_, _, _, _, _, _, _, _, rfl, h46⟩ := hp71
      refine stepT_call rfl rfl rfl rfl rfl rfl hst0 hst hlesum (by repeat (first | exact zR _ | apply zC | apply zD)) (sref_One hst.agree) ?_ ?_
      clear hst
      intro v72 g72 w72 hst hle72 hcs72 hp72
      replace hlesum := Mem.le.trans hlesum hle72
      replace ha := ha.mono hle72
      replace hb := hb.mono hle72
      replace hf9 := hf9.mono hle72
      replace h6 := h6.mono hle72
      replace h42 := h42.mono hle72
      replace h45 := h45.mono hle72
      replace h46 := h46.mono hle72
      obtain ⟨_, _, _, _, _, _, _, _, rfl, h47⟩ := hp72
      refine stepT_call rfl rfl rfl rfl rfl rfl hst0 hst hlesum (by repeat (first | exact zR _ | apply zC | apply zD)) (snum_RSub hst.agree ha hf9 fr ff) ?_ ?_
      clear hst
      intro v73 g73 w73 hst hle73 hcs73 hp73
      replace hlesum := Mem.le.trans hlesum hle73
      replace ha := ha.mono hle73
      replace hb := hb.mono hle73
      replace hf9 := hf9.mono hle73
      replace h6 := h6.mono hle73
      replace h42 := h42.mono hle73
      replace h45 := h45.mono hle73
      replace h46 := h46.mono hle73
      replace h47 := h47.mono hle73
      obtain ⟨_, _, _, _, _, _, _, _, rfl, h50⟩ := hp73
      refine stepT_call rfl rfl rfl rfl rfl rfl hst0 hst hlesum (by repeat (first | exact zR _ | apply zC | apply zD)) (snum_RDiv hst.agree h47 h50 f1 fs2) ?_ ?_
      clear hst
      intro v74 g74 w74 hst hle74 hcs74 hp74
      replace hlesum := Mem.le.trans hlesum hle74
      replace ha := ha.mono hle74
      replace hb := hb.mono hle74
      replace hf9 := hf9.mono hle74
      replace h6 := h6.mono hle74
      replace h42 := h42.mono hle74
      replace h45 := h45.mono hle74
      replace h46 := h46.mono hle74
      replace h47 := h47.mono hle74
      replace h50 := h50.mono hle74
      obtain ⟨_, _, _, _, _, _, _, _, rfl, h51⟩ := hp74
      refine stepT_call rfl rfl rfl rfl rfl rfl hst0 hst hlesum (by repeat (first | exact zR _ | apply zC | apply zD)) (ih hst.agree (h46.to (by rw [Rat.div_def, Rat.one_mul])) (h51.to (by rw [Rat.div_def, Rat.one_mul])) hp hle2 s1 s2 (by omega)) ?_ ?_
      clear hst
      intro v75 g75 w75 hst hle75 hcs75 hp75
      replace hlesum := Mem.le.trans hlesum hle75
      replace ha := ha.mono hle75
      replace hb := hb.mono hle75
      replace hf9 := hf9.mono hle75
      replace h6 := h6.mono hle75
      replace h42 := h42.mono hle75
      replace h45 := h45.mono hle75
      replace h46 := h46.mono hle75
      replace h47 := h47.mono hle75
      replace h50 := h50.mono hle75
      replace h51 := h51.mono hle75
      obtain ⟨na7, A7, n7, c7, nb7, B7, m7, d7, rfl, h7⟩ := hp75
      refine stepT_tail ?_
      refine stepK_store 5 rfl rfl rfl rfl rfl rfl zf119 rfl rfl hst rfl (by first | (simp [uN_length]; omega) | simp) ?_
      clear hst
      intro w76 hst
      simp only [zL, splice, Nat.reduceAdd] at hst
      refine wpK_nil ?_
      refine join_end (((na7, A7, n7, c7, nb7, B7, m7, d7), b7)) ?_ ?_
      exact ⟨rfl, rfl, rfl, rfl, rfl, rfl, trivial⟩
      exact ⟨_, hst, ha, hb, hf9, h7⟩
      exact stepT_no
      exact stepT_no
      exact stepT_no
      exact stepT_no
      exact stepT_no
      exact stepT_no
      exact stepT_no
      exact stepT_no
    case d25 =>
      clear hst
      clear ha hb hf9 h6
      rintro ⟨⟨na7, A7, n7, c7, nb7, B7, m7, d7⟩, b7⟩ w3 ⟨g2, hst, ha, hb, hf9, h7⟩
      simp only
      refine cp_seq ?_
      refine cp_drawn (by kernel_rfl) 5 [(0, true), (2, true), (1, false), (3, false), (4, false)] _ rfl (by kernel_rfl) (by kernel_rfl) (by kernel_rfl) (fun _ _ _ _ _ h => h) _ (hst.drew) ?_
      have hst0 := hst.drew
      clear hst
      have hst := hst0
      refine stepD_d rfl rfl rfl rfl (does_load_ownN 3 rfl (by kernel_rfl) zf119 rfl rfl rfl) ?_
      refine stepD_d rfl rfl rfl rfl (does_load_ownN 5 rfl (by kernel_rfl) zf119 rfl rfl rfl) ?_
      refine stepD_call rfl rfl rfl rfl rfl rfl hst (sref_One hst.agree) (fun _ _ h hle => St.older h hle (by simp) hst0.ext hst0.le) ?_
      clear hst
      intro v77 g77 w77 hst hle77 hcs77 hp77
      have hlesum := hle77
      replace ha := ha.mono hle77
      replace hb := hb.mono hle77
      replace hf9 := hf9.mono hle77
      replace h7 := h7.mono hle77
      obtain ⟨_, _, _, _, _, _, _, _, rfl, h54⟩ := hp77
      refine stepD_call rfl rfl rfl rfl rfl rfl hst (snum_RDiv hst.agree h54 h7 f1 (sr.fitH (by omega))) (fun _ _ h hle => St.older h (Mem.le.trans hlesum hle) (by simp) hst0.ext hst0.le) ?_
      clear hst
      intro v78 g78 w78 hst hle78 hcs78 hp78
      replace hlesum := Mem.le.trans hlesum hle78
      replace ha := ha.mono hle78
      replace hb := hb.mono hle78
      replace hf9 := hf9.mono hle78
      replace h7 := h7.mono hle78
      replace h54 := h54.mono hle78
      obtain ⟨_, _, _, _, _, _, _, _, rfl, h56⟩ := hp78
      refine stepD_call rfl rfl rfl rfl rfl rfl hst (snum_RAdd hst.agree hf9 (h56.to (by rw [Rat.div_def, Rat.one_mul])) ff (sr.inv.fitH (by omega))) (fun _ _ h hle => St.older h (Mem.le.trans hlesum hle) (by simp) hst0.ext hst0.le) ?_
      clear hst
      intro v79 g79 w79 hst hle79 hcs79 hp79
      replace hlesum := Mem.le.trans hlesum hle79
      replace ha := ha.mono hle79
      replace hb := hb.mono hle79
      replace hf9 := hf9.mono hle79
      replace h7 := h7.mono hle79
      replace h54 := h54.mono hle79
      replace h56 := h56.mono hle79
      obtain ⟨na8, A8, n8, c8, nb8, B8, m8, d8, rfl, h8⟩ := hp79
      refine stepD_tail ?_
      refine stepK_store 2 rfl rfl rfl rfl rfl rfl zf119 rfl rfl hst rfl (by first | (simp [uN_length]; omega) | simp) ?_
      clear hst
      intro w80 hst
      simp only [zL, splice, Nat.reduceAdd] at hst
      refine znt ?_
      refine cp_ret ?_
      refine ret1c (k := 2) rfl rfl (by kernel_rfl) (by kernel_rfl) rfl hst rfl ?_
      rw [simpF_more hc]
      exact ⟨_, _, _, _, _, _, _, _, rfl, h8⟩


theorem sref_SimplestP {k : Nat} (hk : k ≤ 100000) : ∀ (N : Nat) {g : Mem} {w : World} (hag : Agree g w) {na nb : Bool} {A B : Option Addr} {n c m d : Nat} {r : Rat} (ha : IsQ g na A n nb B m r) {na2 nb2 : Bool} {A2 B2 : Option Addr} {n2 c2 m2 d2 : Nat} {x : Rat} (hb : IsQ g na2 A2 n2 nb2 B2 m2 x), 0 < r → r ≤ x → Sz k r → Sz k x → r.den + x.den ≤ N → CallTo Tryz.prog 22 #[.agg #[.bool na, .slice A n c, .bool nb, .slice B m d], .agg #[.bool na2, .slice A2 n2 c2, .bool nb2, .slice B2 m2 d2]] w (Ret w g fun v g => ∃ na A n c nb B m d, v = .agg #[.bool na, .slice A n c, .bool nb, .slice B m d] ∧ IsQ g na A n nb B m (simpF N r x))
  | 0, g, w, hag, na, nb, A, B, n, c, m, d, r, ha, na2, nb2, A2, B2, n2, c2, m2, d2, x, hb, h0, hle, hz1, hz2, hN => by have := r.den_nz; omega
  | N + 1, g, w, hag, na, nb, A, B, n, c, m, d, r, ha, na2, nb2, A2, B2, n2, c2, m2, d2, x, hb, h0, hle, hz1, hz2, hN => sref_step hk (fun {_ _} hag {_ _ _ _ _ _ _ _ _} ha {_ _ _ _ _ _ _ _ _} hb h0 hle hz1 hz2 hN => sref_SimplestP hk N hag ha hb h0 hle hz1 hz2 hN) hag ha hb h0 hle hz1 hz2 hN

end Go.Proofs.YtbamjcfdlgnicaaGreatDoor

namespace Go.Proofs.YtbamjcfdlgnicaaGreatDoor
open Go Go.RowKit Go.Proofs.Vc
set_option linter.unusedVariables false
set_option linter.unusedSimpArgs false

set_option maxHeartbeats 1000000 in
theorem sref_simpZ {k : Nat} (hk : k ≤ 100000) {g : Mem} {w : World} (hag : Agree g w) {na nb : Bool} {A B : Option Addr} {n c m d : Nat} {r : Rat} (ha : IsQ g na A n nb B m r) {na2 nb2 : Bool} {A2 B2 : Option Addr} {n2 c2 m2 d2 : Nat} {x : Rat} (hb : IsQ g na2 A2 n2 nb2 B2 m2 x) (h0 : ¬ 0 < r) (hle : r ≤ x) (hz1 : Sz k r) (hz2 : Sz k x) :
    CallTo Tryz.prog 22 #[.agg #[.bool na, .slice A n c, .bool nb, .slice B m d], .agg #[.bool na2, .slice A2 n2 c2, .bool nb2, .slice B2 m2 d2]] w (Ret w g fun v g => ∃ na A n c nb B m d, v = .agg #[.bool na, .slice A n c, .bool nb, .slice B m d] ∧ IsQ g na A n nb B m (simpZ r x)) := by
  refine CallTo.enter (vs := [.agg #[.bool na, .slice A n c, .bool nb, .slice B m d], .agg #[.bool na2, .slice A2 n2 c2, .bool nb2, .slice B2 m2 d2]]) (by kernel_rfl : Tryz.prog.funcs[22]? = some Tryz.f22) (by kernel_rfl) rfl rfl rfl ?_
  have hst := St.init hag
  refine zsr ?_
  refine stepK_box rfl rfl rfl rfl rfl rfl hst ?_
  clear hst
  intro b2 w1 hst
  refine stepK_box rfl rfl rfl rfl rfl rfl hst ?_
  clear hst
  intro b3 w2 hst
  refine stepK_alloc rfl rfl rfl rfl zf121 rfl hst ?_
  clear hst
  intro b4 w3 hst
  refine znq ?_
  refine zsr ?_
  refine stepK_d rfl rfl rfl hst (does_load_ownN 0 rfl (by kernel_rfl) zf119 rfl rfl rfl) ?_
  refine stepK_call rfl rfl rfl rfl rfl hst (snum_RSign hst.agree ha) ?_
  clear hst
  intro v4 g4 w4 hst hle4 hcs4 hp4
  replace ha := ha.mono hle4
  replace hb := hb.mono hle4
  obtain rfl := hp4
  refine stepK_d rfl rfl rfl hst (Does.yes (does_leq rfl rfl rfl) (sgn_nonpos.2 h0)) ?_
  refine zM rfl hst rfl ?_
  refine stepK_guard rfl rfl rfl rfl rfl rfl hst (does_load_ownN 1 rfl (by kernel_rfl) zf119 rfl rfl rfl) ?_
  refine stepK_call_guard rfl rfl rfl rfl rfl rfl rfl rfl hst (snum_RSign hst.agree hb) ?_
  clear hst
  intro v5 g5 w5 hst hle5 hcs5 hp5
  replace ha := ha.mono hle5
  replace hb := hb.mono hle5
  obtain rfl := hp5
  refine stepK_guard rfl rfl rfl rfl rfl rfl hst (does_geq rfl rfl rfl) ?_
  refine stepK_d rfl rfl rfl hst (does_pick_true rfl rfl rfl) ?_
  refine znt ?_
  refine cp_if rfl ?_ ?_
  intro c15
  have h9 : ¬ x < 0 := fun h => by have := sgn_neg.2 h; omega
  refine zsr ?_
  refine stepK_d rfl rfl rfl hst (does_build rfl zf122 rfl rfl) ?_
  refine stepK_store 2 rfl rfl rfl rfl rfl rfl zf119 rfl rfl hst rfl (by first | (simp [uN_length]; omega) | simp) ?_
  clear hst
  intro w6 hst
  simp only [zL, splice, Nat.reduceAdd] at hst
  refine zn5 ?_
  refine ret1c (k := 2) rfl rfl (by kernel_rfl) (by kernel_rfl) rfl hst rfl ?_
  rw [simpZ_zero h0 h9]
  exact ⟨_, _, _, _, _, _, _, _, rfl, IsQ.zero _⟩
  intro c15
  have h9 : x < 0 := sgn_neg.1 (by omega)
  have hq0 := rat_neg_pos h9
  have hqle := Rat.neg_le_neg hle
  refine cp_skip ?_
  refine cp_then ?_
  refine cp_seq ?_
  refine zsr ?_
  refine stepK_d rfl rfl rfl hst (does_load_ownN 1 rfl (by kernel_rfl) zf119 rfl rfl rfl) ?_
  refine stepK_call rfl rfl rfl rfl rfl hst (snum_RSign hst.agree hb) ?_
  clear hst
  intro v7 g7 w7 hst hle7 hcs7 hp7
  replace ha := ha.mono hle7
  replace hb := hb.mono hle7
  obtain rfl := hp7
  refine stepK_d rfl rfl rfl hst (does_lss rfl rfl rfl) ?_
  refine znt ?_
  refine cp_if rfl ?_ ?_
  intro c19
  refine cp_seq ?_
  refine cp_drawn (by kernel_rfl) 6 [(0, true), (2, true), (1, false), (3, false), (4, false), (5, false)] _ rfl (by kernel_rfl) (by kernel_rfl) (by kernel_rfl) (fun _ _ _ _ _ h => h) _ (hst.drew) ?_
  have hst0 := hst.drew
  clear hst
  have hst := hst0
  refine stepD_d rfl rfl rfl rfl (does_load_ownN 1 rfl (by kernel_rfl) zf119 rfl rfl rfl) ?_
  refine stepD_d rfl rfl rfl rfl (does_load_ownN 0 rfl (by kernel_rfl) zf119 rfl rfl rfl) ?_
  refine stepD_call rfl rfl rfl rfl rfl rfl hst (snum_RNeg hst.agree hb) (fun _ _ h hle => St.older h hle (by simp) hst0.ext hst0.le) ?_
  clear hst
  intro v8 g8 w8 hst hle8 hcs8 hp8
  have hlesum := hle8
  replace ha := ha.mono hle8
  replace hb := hb.mono hle8
  obtain ⟨_, _, _, _, _, _, _, _, rfl, h21⟩ := hp8
  refine stepD_call rfl rfl rfl rfl rfl rfl hst (snum_RNeg hst.agree ha) (fun _ _ h hle => St.older h (Mem.le.trans hlesum hle) (by simp) hst0.ext hst0.le) ?_
  clear hst
  intro v9 g9 w9 hst hle9 hcs9 hp9
  replace hlesum := Mem.le.trans hlesum hle9
  replace ha := ha.mono hle9
  replace hb := hb.mono hle9
  replace h21 := h21.mono hle9
  obtain ⟨_, _, _, _, _, _, _, _, rfl, h23⟩ := hp9
  refine stepD_call rfl rfl rfl rfl rfl rfl hst (sref_SimplestP hk ((-x).den + (-r).den) hst.agree h21 h23 hq0 hqle hz2.neg hz1.neg (Nat.le_refl _)) (fun _ _ h hle => St.older h (Mem.le.trans hlesum hle) (by simp) hst0.ext hst0.le) ?_
  clear hst
  intro v10 g10 w10 hst hle10 hcs10 hp10
  replace hlesum := Mem.le.trans hlesum hle10
  replace ha := ha.mono hle10
  replace hb := hb.mono hle10
  replace h21 := h21.mono hle10
  replace h23 := h23.mono hle10
  obtain ⟨_, _, _, _, _, _, _, _, rfl, h24⟩ := hp10
  refine stepD_call rfl rfl rfl rfl rfl rfl hst (snum_RNeg hst.agree h24) (fun _ _ h hle => St.older h (Mem.le.trans hlesum hle) (by simp) hst0.ext hst0.le) ?_
  clear hst
  intro v11 g11 w11 hst hle11 hcs11 hp11
  replace hlesum := Mem.le.trans hlesum hle11
  replace ha := ha.mono hle11
  replace hb := hb.mono hle11
  replace h21 := h21.mono hle11
  replace h23 := h23.mono hle11
  replace h24 := h24.mono hle11
  obtain ⟨_, _, _, _, _, _, _, _, rfl, h25⟩ := hp11
  refine stepD_tail ?_
  refine stepK_store 2 rfl rfl rfl rfl rfl rfl zf119 rfl rfl hst rfl (by first | (simp [uN_length]; omega) | simp) ?_
  clear hst
  intro w12 hst
  simp only [zL, splice, Nat.reduceAdd] at hst
  refine zn5 ?_
  refine ret1c (k := 2) rfl rfl (by kernel_rfl) (by kernel_rfl) rfl hst rfl ?_
  rw [simpZ_neg h0 h9]
  exact ⟨_, _, _, _, _, _, _, _, rfl, h25⟩
  intro c19
  exact absurd (sgn_neg.2 h9) c19


theorem sref_Simplest {k : Nat} (hk : k ≤ 100000) {g : Mem} {w : World} (hag : Agree g w) {na nb : Bool} {A B : Option Addr} {n c m d : Nat} {r : Rat} (ha : IsQ g na A n nb B m r) {na2 nb2 : Bool} {A2 B2 : Option Addr} {n2 c2 m2 d2 : Nat} {x : Rat} (hb : IsQ g na2 A2 n2 nb2 B2 m2 x) (hle : r ≤ x) (hz1 : Sz k r) (hz2 : Sz k x) : CallTo Tryz.prog 22 #[.agg #[.bool na, .slice A n c, .bool nb, .slice B m d], .agg #[.bool na2, .slice A2 n2 c2, .bool nb2, .slice B2 m2 d2]] w (Ret w g fun v g => ∃ na A n c nb B m d, v = .agg #[.bool na, .slice A n c, .bool nb, .slice B m d] ∧ IsQ g na A n nb B m (simpZ r x)) := by
  by_cases h0 : 0 < r
  rw [simpZ_pos h0]
  exact sref_SimplestP hk (r.den + x.den) hag ha hb h0 hle hz1 hz2 (Nat.le_refl _)
  exact sref_simpZ hk hag ha hb h0 hle hz1 hz2

end Go.Proofs.YtbamjcfdlgnicaaGreatDoor

namespace Go.Proofs.YtbamjcfdlgnicaaGreatDoor
open Go Go.RowKit Go.Proofs.Vc
set_option linter.unusedVariables false
set_option linter.unusedSimpArgs false

set_option maxHeartbeats 1000000 in
theorem law28_known {g : Mem} {w : World} (hag : Agree g w) (hT : TabG Tryz.prog g) :
    CallTo Tryz.prog 17 #[] w (Ret w g fun v g => v = .bool true) := by
  refine CallTo.enter (vs := []) (by kernel_rfl : Tryz.prog.funcs[17]? = some Tryz.f17) (by kernel_rfl) rfl rfl rfl ?_
  have hst := St.init hag
  refine zsr ?_
  refine zA rfl hst rfl ?_
  refine zn4 ?_
  refine stepK_call rfl rfl rfl rfl rfl hst (nearest_Simplest hst.agree hT (a := ⟨#[51, 47, 49, 48]⟩) (b := ⟨#[50, 47, 53]⟩) (by decide) (by decide)) ?_
  clear hst
  intro v1 g1 w1 hst hle1 hcs1 hp1
  replace hT := hT.mono hle1
  obtain rfl := hp1
  rw [known_text, known_state]
  refine zM rfl hst rfl ?_
  refine zE rfl hst rfl rfl ?_
  refine zE rfl hst rfl rfl ?_
  refine zA rfl hst rfl ?_
  refine zA rfl hst rfl ?_
  refine zn4 ?_
  refine zM rfl hst rfl ?_
  refine stepK_d rfl rfl rfl hst (Does.yes (does_eql rfl rfl rfl) rfl) ?_
  refine zM rfl hst rfl ?_
  refine stepK_guard rfl rfl rfl rfl rfl rfl hst (does_move rfl rfl) ?_
  refine stepK_guard rfl rfl rfl rfl rfl rfl hst (Does.yes (does_eql_string rfl rfl rfl) rfl) ?_
  refine stepK_d rfl rfl rfl hst (does_pick_true rfl rfl rfl) ?_
  refine zA rfl hst rfl ?_
  refine znt ?_
  refine cp_ret ?_
  refine ret1 rfl rfl hst ?_
  first
  | rfl
  | simp_all

end Go.Proofs.YtbamjcfdlgnicaaGreatDoor
