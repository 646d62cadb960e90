/- The walks of functions, printed by a program of this session out of its specs. -/
import Derived.Test.YtcjhnkmoloiepaaDoorFV
import Derived.Test.YtcjhnkmoloiepaaDoorProg
import Derived.Test.YtcjhnkmoloiepaaDoorF0
namespace Go.Proofs.YtcjhnkmoloiepaaDoor
open Go Go.RowKit Go.Proofs.Vc
set_option linter.unusedVariables false
set_option linter.unusedSimpArgs false

set_option maxHeartbeats 1000000 in
theorem num_GCD {g : Mem} {w : World} (hag : Agree g w) {p q : Int} {a : Option Addr} {r : Rat} (ha : IsRat g p q a r) {s t : Int} {b : Option Addr} {x : Rat} (hb : IsRat g s t b x) (hfa : Fit r) (hfb : Fit x) :
    CallTo Tryd.prog 43 #[.agg #[.int .i64 p, .int .i64 q, .pointer a], .agg #[.int .i64 s, .int .i64 t, .pointer b]] w (Ret w g fun v g => ∃ p q a, v = .agg #[.int .i64 p, .int .i64 q, .pointer a] ∧ IsRat g p q a (gcdR r x)) := by
  refine CallTo.enter (vs := [.agg #[.int .i64 p, .int .i64 q, .pointer a], .agg #[.int .i64 s, .int .i64 t, .pointer b]]) zf80 (by kernel_rfl) rfl rfl rfl ?_
  have hst := St.init hag
  refine zsr ?_
  refine stepK_box rfl rfl rfl rfl rfl rfl hst ?_
  clear hst
  intro b1 w1 hst
  refine stepK_box rfl rfl rfl rfl rfl rfl hst ?_
  clear hst
  intro b2 w2 hst
  refine stepK_alloc rfl rfl rfl rfl zf29 rfl hst ?_
  clear hst
  intro b3 w3 hst
  refine zn4 ?_
  refine stepK_d rfl rfl rfl hst (does_load_ownN 0 rfl (by kernel_rfl) zf31 rfl rfl rfl) ?_
  refine stepK_call rfl rfl rfl rfl rfl hst (Rat_parts hst.agree ha) ?_
  clear hst
  intro v4 g4 w4 hst hle4 hcs4 hp4
  replace ha := ha.mono hle4
  replace hb := hb.mono hle4
  obtain ⟨A1, n1, c1, B1, m1, d1, rfl, hN1, hD1⟩ := hp4
  refine zM rfl hst rfl ?_
  refine zE rfl hst rfl rfl ?_
  refine zE rfl hst rfl rfl ?_
  refine zE rfl hst rfl rfl ?_
  refine zA rfl hst rfl ?_
  refine zA rfl hst rfl ?_
  refine zA rfl hst rfl ?_
  refine zn4 ?_
  refine stepK_d rfl rfl rfl hst (does_load_ownN 1 rfl (by kernel_rfl) zf31 rfl rfl rfl) ?_
  refine stepK_call rfl rfl rfl rfl rfl hst (Rat_parts hst.agree hb) ?_
  clear hst
  intro v5 g5 w5 hst hle5 hcs5 hp5
  replace ha := ha.mono hle5
  replace hb := hb.mono hle5
  replace hN1 := hN1.mono hle5
  replace hD1 := hD1.mono hle5
  obtain ⟨A2, n2, c2, B2, m2, d2, rfl, hN2, hD2⟩ := hp5
  refine zM rfl hst rfl ?_
  refine zE rfl hst rfl rfl ?_
  refine zE rfl hst rfl rfl ?_
  refine zE rfl hst rfl rfl ?_
  refine zA rfl hst rfl ?_
  refine zA rfl hst rfl ?_
  refine zA rfl hst rfl ?_
  refine znq ?_
  have l1 := hN1.len hfa.1
  have l2 := hD1.len hfa.2
  have l3 := hN2.len hfb.1
  have l4 := hD2.len hfb.2
  refine cp_region ?_
  refine zM rfl hst rfl ?_
  refine zM rfl hst rfl ?_
  refine stepK_call rfl rfl rfl rfl rfl hst (num_product hst.agree hN1 hD2 (by omega) (by omega)) ?_
  clear hst
  intro v6 g6 w6 hst hle6 hcs6 hp6
  replace ha := ha.mono hle6
  replace hb := hb.mono hle6
  replace hN1 := hN1.mono hle6
  replace hD1 := hD1.mono hle6
  replace hN2 := hN2.mono hle6
  replace hD2 := hD2.mono hle6
  obtain ⟨A3, n3, c3, rfl, hU⟩ := hp6
  have k1 := lenMul hU hfa.1 hfb.2
  refine zM rfl hst rfl ?_
  refine zM rfl hst rfl ?_
  refine stepK_call rfl rfl rfl rfl rfl hst (num_product hst.agree hN2 hD1 (by omega) (by omega)) ?_
  clear hst
  intro v7 g7 w7 hst hle7 hcs7 hp7
  replace ha := ha.mono hle7
  replace hb := hb.mono hle7
  replace hN1 := hN1.mono hle7
  replace hD1 := hD1.mono hle7
  replace hN2 := hN2.mono hle7
  replace hD2 := hD2.mono hle7
  replace hU := hU.mono hle7
  obtain ⟨A4, n4, c4, rfl, hV⟩ := hp7
  have k2 := lenMul hV hfb.1 hfa.2
  refine stepK_call rfl rfl rfl rfl rfl hst (num_divisor hst.agree hU hV (by omega) (by omega)) ?_
  clear hst
  intro v8 g8 w8 hst hle8 hcs8 hp8
  replace ha := ha.mono hle8
  replace hb := hb.mono hle8
  replace hN1 := hN1.mono hle8
  replace hD1 := hD1.mono hle8
  replace hN2 := hN2.mono hle8
  replace hD2 := hD2.mono hle8
  replace hU := hU.mono hle8
  replace hV := hV.mono hle8
  obtain ⟨A5, n5, c5, rfl, hG⟩ := hp8
  refine zM rfl hst rfl ?_
  refine zM rfl hst rfl ?_
  refine stepK_call rfl rfl rfl rfl rfl hst (num_product hst.agree hD1 hD2 (by omega) (by omega)) ?_
  clear hst
  intro v9 g9 w9 hst hle9 hcs9 hp9
  replace ha := ha.mono hle9
  replace hb := hb.mono hle9
  replace hN1 := hN1.mono hle9
  replace hD1 := hD1.mono hle9
  replace hN2 := hN2.mono hle9
  replace hD2 := hD2.mono hle9
  replace hU := hU.mono hle9
  replace hV := hV.mono hle9
  replace hG := hG.mono hle9
  obtain ⟨A6, n6, c6, rfl, hW⟩ := hp9
  have k3 := lenMul hW hfa.2 hfb.2
  have hWp : 0 < r.den * x.den := Nat.mul_pos (Nat.pos_of_ne_zero r.den_nz) (Nat.pos_of_ne_zero x.den_nz)
  have k4 : n5 ≤ 1099511627776 + 1099511627776 := by
    rcases Nat.eq_zero_or_pos (r.num.natAbs * x.den) with h0 | h0
    rw [h0, Nat.gcd_zero_left] at hG
    exact lenMul hG hfb.1 hfa.2
    exact lenLe hG (Nat.gcd_le_left _ h0) hfa.1 hfb.2
  refine stepK_call rfl rfl rfl rfl rfl hst (num_reduce (neg := false) hst.agree hG hW hWp (by omega) (by omega)) ?_
  clear hst
  intro v10 g10 w10 hst hle10 hcs10 hp10
  replace ha := ha.mono hle10
  replace hb := hb.mono hle10
  replace hN1 := hN1.mono hle10
  replace hD1 := hD1.mono hle10
  replace hN2 := hN2.mono hle10
  replace hD2 := hD2.mono hle10
  replace hU := hU.mono hle10
  replace hV := hV.mono hle10
  replace hG := hG.mono hle10
  replace hW := hW.mono hle10
  obtain ⟨p9, q9, a9, rfl, hr9⟩ := hp10
  refine stepK_store 2 rfl rfl rfl rfl rfl rfl zf31 rfl rfl hst rfl (by first | (simp [uN_length]; omega) | simp) ?_
  clear hst
  intro w11 hst
  simp only [zL, splice, Nat.reduceAdd] at hst
  refine znt ?_
  refine cp_ret ?_
  refine ret1c (k := 2) rfl rfl (by kernel_rfl) (by kernel_rfl) rfl hst rfl ?_
  exact ⟨_, _, _, rfl, hr9⟩

end Go.Proofs.YtcjhnkmoloiepaaDoor
