/- A helper of the claim: general lemmas and walks of functions, printed by a program of this session. Conditions: none. -/
import Derived.Test.YtbamjcfdlgnicaaDoorK6
import Derived.Test.YtbamjcfdlgnicaaDoorK3
import Derived.Test.YtbamjcfdlgnicaaDoorProg
namespace Go.Proofs.YtbamjcfdlgnicaaDoor
open Go Go.RowKit Go.Proofs.Vc
set_option linter.unusedVariables false
set_option linter.unusedSimpArgs false

set_option maxHeartbeats 1000000 in
theorem num_GCD {g : Mem} {w : World} (hag : Agree g w) {p q : Int} {a : Option Addr} {r : Rat} (ha : IsRat g p q a r) {s t : Int} {b : Option Addr} {x : Rat} (hb : IsRat g s t b x) (hfa : Fit r) (hfb : Fit x) :
    CallTo Tryd.prog 33 #[.agg #[.int .i64 p, .int .i64 q, .pointer a], .agg #[.int .i64 s, .int .i64 t, .pointer b]] w (Ret w g fun v g => ∃ p q a, v = .agg #[.int .i64 p, .int .i64 q, .pointer a] ∧ IsRat g p q a (gcdR r x)) := by
  refine CallTo.enter (vs := [.agg #[.int .i64 p, .int .i64 q, .pointer a], .agg #[.int .i64 s, .int .i64 t, .pointer b]]) (by kernel_rfl : Tryd.prog.funcs[33]? = some Tryd.f33) (by kernel_rfl) rfl rfl rfl ?_
  have hst := St.init hag
  refine cp_seq ?_
  refine cp_region ?_
  refine stepK_box rfl rfl rfl rfl rfl rfl hst ?_
  clear hst
  intro b1 w1 hst
  refine stepK_box rfl rfl rfl rfl rfl rfl hst ?_
  clear hst
  intro b2 w2 hst
  refine stepK_alloc rfl rfl rfl rfl (by kernel_rfl : zeroOf Tryd.prog 41 = some (.agg #[.int .i64 0, .int .i64 0, .pointer none])) rfl hst ?_
  clear hst
  intro b3 w3 hst
  refine wpK_nil ?_
  refine cp_then ?_
  refine cp_seq ?_
  refine cp_region ?_
  refine stepK_d rfl rfl rfl hst (does_load_ownN 0 rfl (by kernel_rfl) (by kernel_rfl : sizeB Tryd.prog 41 = some 3) rfl rfl rfl) ?_
  refine stepK_call rfl rfl rfl rfl rfl hst (Rat_parts hst.agree ha) ?_
  clear hst
  intro v4 g4 w4 hst hle4 hcs4 hp4
  replace ha := ha.mono hle4
  replace hb := hb.mono hle4
  obtain ⟨A1, n1, c1, B1, m1, d1, rfl, hN1, hD1⟩ := hp4
  refine stepK_d rfl rfl rfl hst (does_move rfl rfl) ?_
  refine stepK_d rfl rfl rfl hst (does_extract rfl rfl rfl) ?_
  refine stepK_d rfl rfl rfl hst (does_extract rfl rfl rfl) ?_
  refine stepK_d rfl rfl rfl hst (does_extract rfl rfl rfl) ?_
  refine stepK_d rfl rfl rfl hst (does_assign rfl rfl) ?_
  refine stepK_d rfl rfl rfl hst (does_assign rfl rfl) ?_
  refine stepK_d rfl rfl rfl hst (does_assign rfl rfl) ?_
  refine wpK_nil ?_
  refine cp_then ?_
  refine cp_seq ?_
  refine cp_region ?_
  refine stepK_d rfl rfl rfl hst (does_load_ownN 1 rfl (by kernel_rfl) (by kernel_rfl : sizeB Tryd.prog 41 = some 3) rfl rfl rfl) ?_
  refine stepK_call rfl rfl rfl rfl rfl hst (Rat_parts hst.agree hb) ?_
  clear hst
  intro v5 g5 w5 hst hle5 hcs5 hp5
  replace ha := ha.mono hle5
  replace hb := hb.mono hle5
  replace hN1 := hN1.mono hle5
  replace hD1 := hD1.mono hle5
  obtain ⟨A2, n2, c2, B2, m2, d2, rfl, hN2, hD2⟩ := hp5
  refine stepK_d rfl rfl rfl hst (does_move rfl rfl) ?_
  refine stepK_d rfl rfl rfl hst (does_extract rfl rfl rfl) ?_
  refine stepK_d rfl rfl rfl hst (does_extract rfl rfl rfl) ?_
  refine stepK_d rfl rfl rfl hst (does_extract rfl rfl rfl) ?_
  refine stepK_d rfl rfl rfl hst (does_assign rfl rfl) ?_
  refine stepK_d rfl rfl rfl hst (does_assign rfl rfl) ?_
  refine stepK_d rfl rfl rfl hst (does_assign rfl rfl) ?_
  refine wpK_nil ?_
  refine cp_then ?_
  refine cp_seq ?_
  have l1 := hN1.len hfa.1
  have l2 := hD1.len hfa.2
  have l3 := hN2.len hfb.1
  have l4 := hD2.len hfb.2
  refine cp_region ?_
  refine stepK_d rfl rfl rfl hst (does_move rfl rfl) ?_
  refine stepK_d rfl rfl rfl hst (does_move rfl rfl) ?_
  refine stepK_call rfl rfl rfl rfl rfl hst (num_product hst.agree hN1 hD2 (by omega) (by omega)) ?_
  clear hst
  intro v6 g6 w6 hst hle6 hcs6 hp6
  replace ha := ha.mono hle6
  replace hb := hb.mono hle6
  replace hN1 := hN1.mono hle6
  replace hD1 := hD1.mono hle6
  replace hN2 := hN2.mono hle6
  replace hD2 := hD2.mono hle6
  obtain ⟨A3, n3, c3, rfl, hU⟩ := hp6
  have k1 := lenMul hU hfa.1 hfb.2
  refine stepK_d rfl rfl rfl hst (does_move rfl rfl) ?_
  refine stepK_d rfl rfl rfl hst (does_move rfl rfl) ?_
  refine stepK_call rfl rfl rfl rfl rfl hst (num_product hst.agree hN2 hD1 (by omega) (by omega)) ?_
  clear hst
  intro v7 g7 w7 hst hle7 hcs7 hp7
  replace ha := ha.mono hle7
  replace hb := hb.mono hle7
  replace hN1 := hN1.mono hle7
  replace hD1 := hD1.mono hle7
  replace hN2 := hN2.mono hle7
  replace hD2 := hD2.mono hle7
  replace hU := hU.mono hle7
  obtain ⟨A4, n4, c4, rfl, hV⟩ := hp7
  have k2 := lenMul hV hfb.1 hfa.2
  refine stepK_call rfl rfl rfl rfl rfl hst (num_divisor hst.agree hU hV (by omega) (by omega)) ?_
  clear hst
  intro v8 g8 w8 hst hle8 hcs8 hp8
  replace ha := ha.mono hle8
  replace hb := hb.mono hle8
  replace hN1 := hN1.mono hle8
  replace hD1 := hD1.mono hle8
  replace hN2 := hN2.mono hle8
  replace hD2 := hD2.mono hle8
  replace hU := hU.mono hle8
  replace hV := hV.mono hle8
  obtain ⟨A5, n5, c5, rfl, hG⟩ := hp8
  refine stepK_d rfl rfl rfl hst (does_move rfl rfl) ?_
  refine stepK_d rfl rfl rfl hst (does_move rfl rfl) ?_
  refine stepK_call rfl rfl rfl rfl rfl hst (num_product hst.agree hD1 hD2 (by omega) (by omega)) ?_
  clear hst
  intro v9 g9 w9 hst hle9 hcs9 hp9
  replace ha := ha.mono hle9
  replace hb := hb.mono hle9
  replace hN1 := hN1.mono hle9
  replace hD1 := hD1.mono hle9
  replace hN2 := hN2.mono hle9
  replace hD2 := hD2.mono hle9
  replace hU := hU.mono hle9
  replace hV := hV.mono hle9
  replace hG := hG.mono hle9
  obtain ⟨A6, n6, c6, rfl, hW⟩ := hp9
  have k3 := lenMul hW hfa.2 hfb.2
  have hWp : 0 < r.den * x.den := Nat.mul_pos (Nat.pos_of_ne_zero r.den_nz) (Nat.pos_of_ne_zero x.den_nz)
  have k4 : n5 ≤ 1099511627776 + 1099511627776 := by
    rcases Nat.eq_zero_or_pos (r.num.natAbs * x.den) with h0 | h0
    · rw [h0, Nat.gcd_zero_left] at hG
      exact lenMul hG hfb.1 hfa.2
    · exact lenLe hG (Nat.gcd_le_left _ h0) hfa.1 hfb.2
  refine stepK_call rfl rfl rfl rfl rfl hst (num_reduce (neg := false) hst.agree hG hW hWp (by omega) (by omega)) ?_
  clear hst
  intro v10 g10 w10 hst hle10 hcs10 hp10
  replace ha := ha.mono hle10
  replace hb := hb.mono hle10
  replace hN1 := hN1.mono hle10
  replace hD1 := hD1.mono hle10
  replace hN2 := hN2.mono hle10
  replace hD2 := hD2.mono hle10
  replace hU := hU.mono hle10
  replace hV := hV.mono hle10
  replace hG := hG.mono hle10
  replace hW := hW.mono hle10
  obtain ⟨p9, q9, a9, rfl, hr9⟩ := hp10
  refine stepK_store 2 rfl rfl rfl rfl rfl rfl (by kernel_rfl : sizeB Tryd.prog 41 = some 3) rfl rfl hst rfl (by first | (simp [uN_length]; omega) | simp) ?_
  clear hst
  intro w11 hst
  simp only [List.nil_append, List.cons_append, List.set_cons_zero, List.set_cons_succ, splice, List.toList_toArray, List.take_zero, List.take_succ_cons, List.take_nil, List.drop_zero, List.drop_succ_cons, List.drop_nil, List.length_cons, List.length_nil, Nat.zero_add, Nat.add_zero, Nat.reduceAdd, List.append_nil] at hst
  refine wpK_nil ?_
  refine cp_then ?_
  refine cp_ret ?_
  refine ret1c (k := 2) rfl rfl (by kernel_rfl) (by kernel_rfl) rfl hst rfl ?_
  exact ⟨_, _, _, rfl, hr9⟩

end Go.Proofs.YtbamjcfdlgnicaaDoor

namespace Go.Proofs.YtbamjcfdlgnicaaDoor
open Go Go.RowKit Go.Proofs.Vc
set_option linter.unusedVariables false
set_option linter.unusedSimpArgs false

set_option maxHeartbeats 1000000 in
theorem rational_Floor {g : Mem} {w : World} (hag : Agree g w) (hT : TabG Tryd.prog g) {a : ByteArray} (ha : a.size < 50000000) :
    CallTo Tryd.prog 17 #[.string a] w (Ret w g fun v g => v = .string (ratS (((getR a).floor : Rat)))) := by
  refine CallTo.enter (vs := [.string a]) (by kernel_rfl : Tryd.prog.funcs[17]? = some Tryd.f17) (by kernel_rfl) rfl rfl rfl ?_
  have hst := St.init hag
  have sa := getR_sz a
  have fa := sa.fit (by omega)
  refine cp_seq ?_
  refine cp_region ?_
  refine stepK_d rfl rfl rfl hst (does_assign rfl rfl) ?_
  refine wpK_nil ?_
  refine cp_then ?_
  refine cp_seq ?_
  refine cp_region ?_
  refine stepK_d rfl rfl rfl hst (does_move rfl rfl) ?_
  refine stepK_call rfl rfl rfl rfl rfl hst (num_Get hst.agree (by omega)) ?_
  clear hst
  intro v1 g1 w1 hst hle1 hcs1 hp1
  replace hT := hT.mono hle1
  obtain ⟨p1, q1, a1, rfl, h1⟩ := hp1
  refine stepK_call rfl rfl rfl rfl rfl hst (Rat_Floor hst.agree h1 fa) ?_
  clear hst
  intro v2 g2 w2 hst hle2 hcs2 hp2
  replace hT := hT.mono hle2
  replace h1 := h1.mono hle2
  obtain ⟨p3, q3, a3, rfl, h3⟩ := hp2
  refine stepK_call rfl rfl rfl rfl rfl hst (Rat_String hst.agree hT h3 ((floor_sz sa).fit (by omega))) ?_
  clear hst
  intro v3 g3 w3 hst hle3 hcs3 hp3
  replace hT := hT.mono hle3
  replace h1 := h1.mono hle3
  replace h3 := h3.mono hle3
  obtain rfl := hp3
  refine stepK_d rfl rfl rfl hst (does_assign rfl rfl) ?_
  refine wpK_nil ?_
  refine cp_then ?_
  refine cp_ret ?_
  refine ret1 rfl rfl hst ?_
  rfl

set_option maxHeartbeats 1000000 in
theorem rational_Sign {g : Mem} {w : World} (hag : Agree g w) {a : ByteArray} (ha : a.size < 50000000) :
    CallTo Tryd.prog 16 #[.string a] w (Ret w g fun v g => v = .int .i64 (getR a).num.sign) := by
  refine CallTo.enter (vs := [.string a]) (by kernel_rfl : Tryd.prog.funcs[16]? = some Tryd.f16) (by kernel_rfl) rfl rfl rfl ?_
  have hst := St.init hag
  refine cp_seq ?_
  refine cp_region ?_
  refine stepK_d rfl rfl rfl hst (does_assign rfl rfl) ?_
  refine wpK_nil ?_
  refine cp_then ?_
  refine cp_seq ?_
  refine cp_region ?_
  refine stepK_d rfl rfl rfl hst (does_move rfl rfl) ?_
  refine stepK_call rfl rfl rfl rfl rfl hst (num_Get hst.agree (by omega)) ?_
  clear hst
  intro v1 g1 w1 hst hle1 hcs1 hp1
  obtain ⟨p1, q1, a1, rfl, h1⟩ := hp1
  refine stepK_call rfl rfl rfl rfl rfl hst (Rat_Sign hst.agree h1) ?_
  clear hst
  intro v2 g2 w2 hst hle2 hcs2 hp2
  replace h1 := h1.mono hle2
  obtain rfl := hp2
  refine stepK_d rfl rfl rfl hst (does_assign rfl rfl) ?_
  refine wpK_nil ?_
  refine cp_then ?_
  refine cp_ret ?_
  refine ret1 rfl rfl hst ?_
  rfl

set_option maxHeartbeats 1000000 in
theorem rational_FromInt {g : Mem} {w : World} (hag : Agree g w) (hT : TabG Tryd.prog g) {x : Int} (h1 : -9223372036854775808 ≤ x) (h2 : x ≤ 9223372036854775807) :
    CallTo Tryd.prog 18 #[.int .i64 x] w (Ret w g fun v g => v = .string (ratS (x : Rat))) := by
  refine CallTo.enter (vs := [.int .i64 x]) (by kernel_rfl : Tryd.prog.funcs[18]? = some Tryd.f18) (by kernel_rfl) rfl rfl rfl ?_
  have hst := St.init hag
  refine cp_seq ?_
  refine cp_region ?_
  refine stepK_d rfl rfl rfl hst (does_assign rfl rfl) ?_
  refine wpK_nil ?_
  refine cp_then ?_
  refine cp_seq ?_
  refine cp_region ?_
  refine stepK_d rfl rfl rfl hst (does_move rfl rfl) ?_
  refine stepK_call rfl rfl rfl rfl rfl hst (num_Int hst.agree h1 h2) ?_
  clear hst
  intro v1 g1 w1 hst hle1 hcs1 hp1
  replace hT := hT.mono hle1
  obtain ⟨p3, q3, a3, rfl, h3⟩ := hp1
  refine stepK_call rfl rfl rfl rfl rfl hst (Rat_String hst.agree hT h3 ((int_sz h1 h2).fit (by decide))) ?_
  clear hst
  intro v2 g2 w2 hst hle2 hcs2 hp2
  replace hT := hT.mono hle2
  replace h3 := h3.mono hle2
  obtain rfl := hp2
  refine stepK_d rfl rfl rfl hst (does_assign rfl rfl) ?_
  refine wpK_nil ?_
  refine cp_then ?_
  refine cp_ret ?_
  refine ret1 rfl rfl hst ?_
  rfl

end Go.Proofs.YtbamjcfdlgnicaaDoor

namespace Go.Proofs.YtbamjcfdlgnicaaDoor
open Go Go.RowKit Go.Proofs.Vc
set_option linter.unusedVariables false
set_option linter.unusedSimpArgs false

set_option maxHeartbeats 1000000 in
theorem rational_GCD {g : Mem} {w : World} (hag : Agree g w) (hT : TabG Tryd.prog g) {a b : ByteArray} (ha : a.size < 50000000) (hb : b.size < 50000000) :
    CallTo Tryd.prog 15 #[.string a, .string b] w (Ret w g fun v g => v = .string (ratS (gcdR (getR a) (getR b)))) := by
  refine CallTo.enter (vs := [.string a, .string b]) (by kernel_rfl : Tryd.prog.funcs[15]? = some Tryd.f15) (by kernel_rfl) rfl rfl rfl ?_
  have hst := St.init hag
  have sa := getR_sz a
  have sb := getR_sz b
  have fa := sa.fit (by omega)
  have fb := sb.fit (by omega)
  refine cp_seq ?_
  refine cp_region ?_
  refine stepK_d rfl rfl rfl hst (does_assign rfl rfl) ?_
  refine wpK_nil ?_
  refine cp_then ?_
  refine cp_seq ?_
  refine cp_region ?_
  refine stepK_d rfl rfl rfl hst (does_move rfl rfl) ?_
  refine stepK_call rfl rfl rfl rfl rfl hst (num_Get hst.agree (by omega)) ?_
  clear hst
  intro v1 g1 w1 hst hle1 hcs1 hp1
  replace hT := hT.mono hle1
  obtain ⟨p1, q1, a1, rfl, h1⟩ := hp1
  refine stepK_d rfl rfl rfl hst (does_move rfl rfl) ?_
  refine stepK_call rfl rfl rfl rfl rfl hst (num_Get hst.agree (by omega)) ?_
  clear hst
  intro v2 g2 w2 hst hle2 hcs2 hp2
  replace hT := hT.mono hle2
  replace h1 := h1.mono hle2
  obtain ⟨p2, q2, a2, rfl, h2⟩ := hp2
  refine stepK_call rfl rfl rfl rfl rfl hst (num_GCD hst.agree h1 h2 fa fb) ?_
  clear hst
  intro v3 g3 w3 hst hle3 hcs3 hp3
  replace hT := hT.mono hle3
  replace h1 := h1.mono hle3
  replace h2 := h2.mono hle3
  obtain ⟨p3, q3, a3, rfl, h3⟩ := hp3
  refine stepK_call rfl rfl rfl rfl rfl hst (Rat_String hst.agree hT h3 ((gcdR_sz sa sb).fit (by omega))) ?_
  clear hst
  intro v4 g4 w4 hst hle4 hcs4 hp4
  replace hT := hT.mono hle4
  replace h1 := h1.mono hle4
  replace h2 := h2.mono hle4
  replace h3 := h3.mono hle4
  obtain rfl := hp4
  refine stepK_d rfl rfl rfl hst (does_assign rfl rfl) ?_
  refine wpK_nil ?_
  refine cp_then ?_
  refine cp_ret ?_
  refine ret1 rfl rfl hst ?_
  rfl

end Go.Proofs.YtbamjcfdlgnicaaDoor

namespace Go.Proofs.YtbamjcfdlgnicaaDoor
open Go Go.RowKit Go.Proofs.Vc
set_option linter.unusedVariables false
set_option linter.unusedSimpArgs false

set_option maxHeartbeats 1000000 in
theorem keep_Short {g : Mem} {w : World} (hag : Agree g w) {bl : Nat} {ss : List ByteArray} (hc : ∀ (j : Nat) s, ss[j]? = some s → gcell g bl j = some (.string s)) (hl : ss.length ≤ 1000000) {n : Nat} :
    CallTo Tryd.prog 9 #[.int .i64 (n : Int), .slice (some ⟨bl, 0, none⟩) ss.length ss.length] w (Ret w g fun v g => v = .bool (decide (∀ s ∈ ss, s.size ≤ n))) := by
  refine CallTo.enter (vs := [.int .i64 (n : Int), .slice (some ⟨bl, 0, none⟩) ss.length ss.length]) (by kernel_rfl : Tryd.prog.funcs[9]? = some Tryd.f9) (by kernel_rfl) rfl rfl rfl ?_
  have hst := St.init hag
  refine cp_seq ?_
  refine cp_region ?_
  refine stepK_d rfl rfl rfl hst (does_assign rfl rfl) ?_
  refine wpK_nil ?_
  refine cp_then ?_
  refine cp_seq ?_
  refine cp_seq ?_
  refine cp_region ?_
  refine stepK_d rfl rfl rfl hst (does_assign rfl rfl) ?_
  refine wpK_nil ?_
  refine cp_then ?_
  refine cp_block ?_
  refine cp_loop (ι := Nat) (fun k => [(0, .int .i64 (n : Int)), (1, .slice (some ⟨bl, 0, none⟩) ss.length ss.length), (5, .int .i64 (k : Int))]) (fun k w1 => St w [] g g [] w1 ∧ k ≤ ss.length ∧ ∀ s ∈ ss.take k, s.size ≤ n) (fun k => ss.length - k) 0 ?k1 ?i1 ?r1
  case k1 => exact ⟨rfl, rfl, rfl, trivial⟩
  case i1 =>
    exact ⟨hst, Nat.zero_le _, by simp⟩
  case r1 =>
    clear hst
    rintro k w1 ⟨hst, hk, hd⟩
    refine cp_seq ?_
    refine cp_seq ?_
    refine cp_region ?_
    refine stepK_d rfl rfl rfl hst (does_move rfl rfl) ?_
    refine stepK_d rfl rfl rfl hst (does_move rfl rfl) ?_
    refine stepK_d rfl rfl rfl hst (does_len_slice rfl (by kernel_rfl : Program.underlying Tryd.prog 48 = some (.slice 9)) rfl) ?_
    refine stepK_d rfl rfl rfl hst (does_lss rfl rfl rfl) ?_
    refine wpK_nil ?_
    refine cp_then ?_
    refine cp_if rfl ?_ ?_
    · intro c9
      refine cp_skip ?_
      refine cp_then ?_
      refine cp_seq ?_
      refine cp_block ?_
      refine cp_seq ?_
      obtain ⟨x, hx⟩ : ∃ x, ss[k]? = some x := ⟨_, List.getElem?_eq_getElem (by omega)⟩
      refine cp_region ?_
      refine stepK_d rfl rfl rfl hst (does_move rfl rfl) ?_
      refine stepK_d rfl rfl rfl hst (does_move rfl rfl) ?_
      refine stepK_d rfl rfl rfl hst (does_indexAddr1 rfl (by kernel_rfl : Program.underlying Tryd.prog 48 = some (.slice 9)) (by kernel_rfl) rfl rfl rfl (by omega)) ?_
      refine stepK_d rfl rfl rfl hst (does_load_g1 rfl (by kernel_rfl) rfl (by rw [Nat.zero_add]; exact hc _ _ hx)) ?_
      refine stepK_d rfl rfl rfl hst (does_len_string rfl (by kernel_rfl) rfl) ?_
      refine stepK_d rfl rfl rfl hst (does_move rfl rfl) ?_
      refine stepK_d rfl rfl rfl hst (does_gtr rfl rfl rfl) ?_
      refine wpK_nil ?_
      refine cp_then ?_
      refine cp_if rfl ?_ ?_
      · intro c18
        refine cp_seq ?_
        refine cp_region ?_
        refine stepK_d rfl rfl rfl hst (does_assign rfl rfl) ?_
        refine wpK_nil ?_
        refine cp_then ?_
        refine cp_ret ?_
        refine at_block_ret ?_
        refine at_then_ret ?_
        refine at_then_ret ?_
        refine at_block_ret ?_
        refine at_then_ret ?_
        refine ret1 rfl rfl hst ?_
        rw [decide_eq_false (fun h => by have := h x (List.mem_of_getElem? hx); omega)]
      · intro c18
        refine cp_skip ?_
        refine at_block_normal ?_
        refine cp_then ?_
        refine cp_region ?_
        refine stepK_d rfl rfl rfl hst (does_move rfl rfl) ?_
        refine stepK_d rfl rfl rfl hst (Does.int (does_add rfl rfl rfl) (wrap_i64 (by omega) (by omega))) ?_
        refine stepK_d rfl rfl rfl hst (does_assign rfl rfl) ?_
        refine wpK_nil ?_
        refine round_end (k + 1) ?_ ?_ ?_
        · exact ⟨rfl, rfl, rfl, trivial⟩
        · refine ⟨hst, by omega, fun y hy => ?_⟩
          rw [List.take_add_one, hx] at hy
          rcases List.mem_append.1 hy with hy | hy
          · exact hd y hy
          · have : y = x := by simpa using hy
            subst this
            omega
        · omega
    · intro c9
      refine cp_exit ?_
      refine at_then_exit ?_
      refine at_then_exit ?_
      refine cp_exit_here ?_
      refine cp_then ?_
      refine cp_seq ?_
      refine cp_region ?_
      refine stepK_d rfl rfl rfl hst (does_assign rfl rfl) ?_
      refine wpK_nil ?_
      refine cp_then ?_
      refine cp_ret ?_
      refine ret1 rfl rfl hst ?_
      rw [decide_eq_true]
      intro s hs
      exact hd s (by rw [List.take_of_length_le (by omega)]; exact hs)

end Go.Proofs.YtbamjcfdlgnicaaDoor

namespace Go.Proofs.YtbamjcfdlgnicaaDoor
open Go Go.RowKit Go.Proofs.Vc
set_option linter.unusedVariables false
set_option linter.unusedSimpArgs false

set_option maxHeartbeats 4000000 in
theorem RationalGCD_walk {g : Mem} {w : World} (hag : Agree g w) (hT : TabG Tryd.prog g) {a b : ByteArray} {k : Int} (h1 : -9223372036854775808 ≤ k) (h2 : k ≤ 9223372036854775807) :
    CallTo Tryd.prog 5 #[.string a, .string b, .int .i64 k] w (Ret w g fun v g => v = .bool true) := by
  refine CallTo.enter (vs := [.string a, .string b, .int .i64 k]) (by kernel_rfl : Tryd.prog.funcs[5]? = some Tryd.f5) (by kernel_rfl) rfl rfl rfl ?_
  have hst := St.init hag
  refine cp_seq ?_
  refine cp_region ?_
  refine stepK_d rfl rfl rfl hst (does_assign rfl rfl) ?_
  refine wpK_nil ?_
  refine cp_then ?_
  refine cp_seq ?_
  refine cp_seq ?_
  refine cp_region ?_
  refine stepK_d rfl rfl rfl hst (does_move rfl rfl) ?_
  refine stepK_d rfl rfl rfl hst (does_move rfl rfl) ?_
  refine stepK_buildSlice rfl rfl rfl rfl (by kernel_rfl : Program.underlying Tryd.prog 48 = some (.slice 9)) (by kernel_rfl : elemInfo Tryd.prog 9 = some ((.string ByteArray.empty), 1, 16)) rfl rfl (by decide) (by decide) (by decide) rfl rfl hst ?_
  clear hst
  intro bs w1 hst
  obtain ⟨hst, hleS⟩ := hst.publish 0 rfl
  replace hT := hT.mono hleS
  refine stepK_call rfl rfl rfl rfl rfl hst (keep_Short (ss := [a, b]) (n := 100) hst.agree (fun j s hj => by rw [gcell_put]; match j, hj with | 0, hj => simpa using hj | 1, hj => simpa using hj) (by simp)) ?_
  clear hst
  intro v2 g2 w2 hst hle2 hcs2 hp2
  replace hT := hT.mono hle2
  obtain rfl := hp2
  refine stepK_d rfl rfl rfl hst (does_not rfl rfl) ?_
  refine wpK_nil ?_
  refine cp_then ?_
  refine cp_cond rfl ?_ ?_
  · intro c16
    refine cp_seq ?_
    refine cp_region ?_
    refine stepK_call rfl rfl rfl rfl rfl hst (law01_awake hst.agree hT) ?_
    clear hst
    intro v3 g3 w3 hst hle3 hcs3 hp3
    replace hT := hT.mono hle3
    obtain rfl := hp3
    refine stepK_d rfl rfl rfl hst (does_assign rfl rfl) ?_
    refine wpK_nil ?_
    refine cp_then ?_
    refine cp_ret ?_
    refine at_then_ret ?_
    refine ret1 rfl rfl hst ?_
    first
    | rfl
    | contradiction
    | simp_all
  · intro c16
    have hsh : ∀ s ∈ [a, b], s.size ≤ 100 := dec_of c16
    have ha : a.size ≤ 100 := hsh a (by simp)
    have hb : b.size ≤ 100 := hsh b (by simp)
    have sx := (getR_sz a).mono (m := 101) (by omega)
    have sy := (getR_sz b).mono (m := 101) (by omega)
    have sG := gcdR_sz sx sy
    have sk := int_sz h1 h2
    have zk := ratS_size sk
    have zyk := ratS_size (sy.mul sk)
    have zs := ratS_size (sx.add (sy.mul sk))
    refine cp_skip ?_
    refine cp_then ?_
    refine cp_seq ?_
    refine cp_region ?_
    refine stepK_d rfl rfl rfl hst (does_move rfl rfl) ?_
    refine stepK_d rfl rfl rfl hst (does_move rfl rfl) ?_
    refine stepK_call rfl rfl rfl rfl rfl hst (rational_GCD hst.agree hT (a := a) (b := b) (by omega) (by omega)) ?_
    clear hst
    intro v4 g4 w4 hst hle4 hcs4 hp4
    replace hT := hT.mono hle4
    obtain rfl := hp4
    obtain ⟨G, hGe⟩ : ∃ G, G = gcdR (getR a) (getR b) := ⟨_, rfl⟩
    rw [← hGe] at sG
    rw [← hGe]
    have zG := ratS_size sG
    refine stepK_d rfl rfl rfl hst (does_assign rfl rfl) ?_
    refine wpK_nil ?_
    refine cp_then ?_
    refine cp_seq ?_
    refine cp_seq ?_
    refine cp_region ?_
    refine stepK_d rfl rfl rfl hst (does_move rfl rfl) ?_
    refine stepK_call rfl rfl rfl rfl rfl hst (rational_Sign hst.agree (a := ratS G) (by omega)) ?_
    clear hst
    intro v5 g5 w5 hst hle5 hcs5 hp5
    replace hT := hT.mono hle5
    obtain rfl := hp5
    rw [getR_text]
    refine stepK_d rfl rfl rfl hst (does_eql rfl rfl rfl) ?_
    refine wpK_nil ?_
    refine cp_then ?_
    refine cp_if rfl ?_ ?_
    · intro c23
      have hxy := gcdR_zero.1 (hGe.symm.trans (Rat.num_eq_zero.1 (Int.sign_eq_zero_iff_zero.1 c23)))
      refine cp_seq ?_
      refine cp_region ?_
      refine stepK_d rfl rfl rfl hst (does_move rfl rfl) ?_
      refine stepK_call rfl rfl rfl rfl rfl hst (rational_Sign hst.agree (a := a) (by omega)) ?_
      clear hst
      intro v6 g6 w6 hst hle6 hcs6 hp6
      replace hT := hT.mono hle6
      obtain rfl := hp6
      refine stepK_d rfl rfl rfl hst (Does.yes (does_eql rfl rfl rfl) (by rw [hxy.1]; rfl)) ?_
      refine stepK_d rfl rfl rfl hst (does_move rfl rfl) ?_
      refine stepK_guard rfl rfl rfl rfl rfl rfl hst (does_move rfl rfl) ?_
      refine stepK_call_guard rfl rfl rfl rfl rfl rfl rfl rfl hst (rational_Sign hst.agree (a := b) (by omega)) ?_
      clear hst
      intro v7 g7 w7 hst hle7 hcs7 hp7
      replace hT := hT.mono hle7
      obtain rfl := hp7
      refine stepK_guard rfl rfl rfl rfl rfl rfl hst (Does.yes (does_eql rfl rfl rfl) (by rw [hxy.2]; rfl)) ?_
      refine stepK_d rfl rfl rfl hst (does_pick_true rfl rfl rfl) ?_
      refine stepK_d rfl rfl rfl hst (does_move rfl rfl) ?_
      refine stepK_call_guard rfl rfl rfl rfl rfl rfl rfl rfl hst (law01_awake hst.agree hT) ?_
      clear hst
      intro v8 g8 w8 hst hle8 hcs8 hp8
      replace hT := hT.mono hle8
      obtain rfl := hp8
      refine stepK_d rfl rfl rfl hst (does_pick_true rfl rfl rfl) ?_
      refine stepK_d rfl rfl rfl hst (does_assign rfl rfl) ?_
      refine wpK_nil ?_
      refine cp_then ?_
      refine cp_ret ?_
      refine at_then_ret ?_
      refine ret1 rfl rfl hst ?_
      first
      | rfl
      | contradiction
      | simp_all
    · intro c23
      have hG : G ≠ 0 := fun e => c23 (by rw [e]; rfl)
      obtain ⟨m, n, hP, hm, hn⟩ := gcdR_split (r := getR a) (x := getR b) (by rw [← hGe]; exact hG)
      rw [← hGe] at hP hm hn
      have hdm : getR a / G = (m : Rat) := by rw [hm]; exact div_self_mul hG _
      have hdn : getR b / G = (n : Rat) := by rw [hn]; exact div_self_mul hG _
      have sm := sx.div sG
      have sn := sy.div sG
      rw [hdm] at sm
      rw [hdn] at sn
      have zm := ratS_size sm
      have zn := ratS_size sn
      have hsh9 : gcdR (getR b) (getR a + getR b * (k : Rat)) = G := by rw [hm, hn]; exact hP.shift k
      refine cp_skip ?_
      refine cp_then ?_
      refine cp_seq ?_
      refine cp_region ?_
      refine stepK_d rfl rfl rfl hst (does_move rfl rfl) ?_
      refine stepK_d rfl rfl rfl hst (does_move rfl rfl) ?_
      refine stepK_call rfl rfl rfl rfl rfl hst (rational_Div hst.agree hT (a := a) (b := ratS G) (by omega) (by omega)) ?_
      clear hst
      intro v9 g9 w9 hst hle9 hcs9 hp9
      replace hT := hT.mono hle9
      obtain rfl := hp9
      rw [getR_text, if_neg hG, decide_eq_true hG, hdm]
      refine stepK_d rfl rfl rfl hst (does_move rfl rfl) ?_
      refine stepK_d rfl rfl rfl hst (does_extract rfl rfl rfl) ?_
      refine stepK_d rfl rfl rfl hst (does_extract rfl rfl rfl) ?_
      refine stepK_d rfl rfl rfl hst (does_assign rfl rfl) ?_
      refine stepK_d rfl rfl rfl hst (does_assign rfl rfl) ?_
      refine wpK_nil ?_
      refine cp_then ?_
      refine cp_seq ?_
      refine cp_region ?_
      refine stepK_d rfl rfl rfl hst (does_move rfl rfl) ?_
      refine stepK_d rfl rfl rfl hst (does_move rfl rfl) ?_
      refine stepK_call rfl rfl rfl rfl rfl hst (rational_Div hst.agree hT (a := b) (b := ratS G) (by omega) (by omega)) ?_
      clear hst
      intro v10 g10 w10 hst hle10 hcs10 hp10
      replace hT := hT.mono hle10
      obtain rfl := hp10
      rw [getR_text, if_neg hG, decide_eq_true hG, hdn]
      refine stepK_d rfl rfl rfl hst (does_move rfl rfl) ?_
      refine stepK_d rfl rfl rfl hst (does_extract rfl rfl rfl) ?_
      refine stepK_d rfl rfl rfl hst (does_extract rfl rfl rfl) ?_
      refine stepK_d rfl rfl rfl hst (does_assign rfl rfl) ?_
      refine stepK_d rfl rfl rfl hst (does_assign rfl rfl) ?_
      refine wpK_nil ?_
      refine cp_then ?_
      refine cp_seq ?_
      refine cp_region ?_
      refine stepK_d rfl rfl rfl hst (does_move rfl rfl) ?_
      refine stepK_d rfl rfl rfl hst (does_move rfl rfl) ?_
      refine wpK_splitb (t := 48) rfl ?_ ?_
      · intro s48
        refine stepK_guard rfl rfl rfl rfl rfl rfl hst (does_move rfl rfl) ?_
        refine stepK_d rfl rfl rfl hst (does_pick_true rfl rfl rfl) ?_
        refine stepK_d rfl rfl rfl hst (does_move rfl rfl) ?_
        refine wpK_splitb (t := 51) rfl ?_ ?_
        · intro s51
          refine stepK_guard rfl rfl rfl rfl rfl rfl hst (does_move rfl rfl) ?_
          refine stepK_guard rfl rfl rfl rfl rfl rfl hst (does_move rfl rfl) ?_
          refine stepK_call_guard rfl rfl rfl rfl rfl rfl rfl rfl hst (rational_Floor hst.agree hT (a := ratS (m : Rat)) (by omega)) ?_
          clear hst
          intro v11 g11 w11 hst hle11 hcs11 hp11
          replace hT := hT.mono hle11
          obtain rfl := hp11
          rw [getR_text, floor_whole]
          refine stepK_guard rfl rfl rfl rfl rfl rfl hst (Does.yes (does_eql_string rfl rfl rfl) rfl) ?_
          refine stepK_d rfl rfl rfl hst (does_pick_true rfl rfl rfl) ?_
          refine stepK_d rfl rfl rfl hst (does_move rfl rfl) ?_
          refine stepK_guard rfl rfl rfl rfl rfl rfl hst (does_move rfl rfl) ?_
          refine stepK_guard rfl rfl rfl rfl rfl rfl hst (does_move rfl rfl) ?_
          refine stepK_call_guard rfl rfl rfl rfl rfl rfl rfl rfl hst (rational_Floor hst.agree hT (a := ratS (n : Rat)) (by omega)) ?_
          clear hst
          intro v12 g12 w12 hst hle12 hcs12 hp12
          replace hT := hT.mono hle12
          obtain rfl := hp12
          rw [getR_text, floor_whole]
          refine stepK_guard rfl rfl rfl rfl rfl rfl hst (Does.yes (does_eql_string rfl rfl rfl) rfl) ?_
          refine stepK_d rfl rfl rfl hst (does_pick_true rfl rfl rfl) ?_
          refine stepK_d rfl rfl rfl hst (does_move rfl rfl) ?_
          refine stepK_guard rfl rfl rfl rfl rfl rfl hst (does_move rfl rfl) ?_
          refine stepK_guard rfl rfl rfl rfl rfl rfl hst (does_move rfl rfl) ?_
          refine stepK_call_guard rfl rfl rfl rfl rfl rfl rfl rfl hst (rational_GCD hst.agree hT (a := ratS (m : Rat)) (b := ratS (n : Rat)) (by omega) (by omega)) ?_
          clear hst
          intro v13 g13 w13 hst hle13 hcs13 hp13
          replace hT := hT.mono hle13
          obtain rfl := hp13
          rw [getR_text, getR_text, hP.one]
          refine stepK_guard rfl rfl rfl rfl rfl rfl hst (Does.yes (does_eql_string rfl rfl rfl) t1) ?_
          refine stepK_d rfl rfl rfl hst (does_pick_true rfl rfl rfl) ?_
          refine stepK_d rfl rfl rfl hst (does_move rfl rfl) ?_
          refine stepK_guard rfl rfl rfl rfl rfl rfl hst (does_move rfl rfl) ?_
          refine stepK_guard rfl rfl rfl rfl rfl rfl hst (does_move rfl rfl) ?_
          refine stepK_guard rfl rfl rfl rfl rfl rfl hst (does_move rfl rfl) ?_
          refine stepK_guard rfl rfl rfl rfl rfl rfl hst (does_move rfl rfl) ?_
          refine stepK_call_guard rfl rfl rfl rfl rfl rfl rfl rfl hst (rational_FromInt hst.agree hT h1 h2) ?_
          clear hst
          intro v14 g14 w14 hst hle14 hcs14 hp14
          replace hT := hT.mono hle14
          obtain rfl := hp14
          refine stepK_call_guard rfl rfl rfl rfl rfl rfl rfl rfl hst (rational_Mul hst.agree hT (a := b) (b := ratS (k : Rat)) (by omega) (by omega)) ?_
          clear hst
          intro v15 g15 w15 hst hle15 hcs15 hp15
          replace hT := hT.mono hle15
          obtain rfl := hp15
          rw [getR_text]
          refine stepK_call_guard rfl rfl rfl rfl rfl rfl rfl rfl hst (rational_Add hst.agree hT (a := a) (b := ratS (getR b * (k : Rat))) (by omega) (by omega)) ?_
          clear hst
          intro v16 g16 w16 hst hle16 hcs16 hp16
          replace hT := hT.mono hle16
          obtain rfl := hp16
          rw [getR_text]
          refine stepK_call_guard rfl rfl rfl rfl rfl rfl rfl rfl hst (rational_GCD hst.agree hT (a := b) (b := ratS (getR a + getR b * (k : Rat))) (by omega) (by omega)) ?_
          clear hst
          intro v17 g17 w17 hst hle17 hcs17 hp17
          replace hT := hT.mono hle17
          obtain rfl := hp17
          rw [getR_text, hsh9]
          refine stepK_guard rfl rfl rfl rfl rfl rfl hst (does_move rfl rfl) ?_
          refine stepK_guard rfl rfl rfl rfl rfl rfl hst (Does.yes (does_eql_string rfl rfl rfl) rfl) ?_
          refine stepK_d rfl rfl rfl hst (does_pick_true rfl rfl rfl) ?_
          refine stepK_d rfl rfl rfl hst (does_move rfl rfl) ?_
          refine stepK_call_guard rfl rfl rfl rfl rfl rfl rfl rfl hst (law01_awake hst.agree hT) ?_
          clear hst
          intro v18 g18 w18 hst hle18 hcs18 hp18
          replace hT := hT.mono hle18
          obtain rfl := hp18
          refine stepK_d rfl rfl rfl hst (does_pick_true rfl rfl rfl) ?_
          refine stepK_d rfl rfl rfl hst (does_assign rfl rfl) ?_
          refine wpK_nil ?_
          refine cp_then ?_
          refine cp_ret ?_
          refine ret1 rfl rfl hst ?_
          first
          | rfl
          | contradiction
          | simp_all
        · intro s51
          refine stepK_pass rfl rfl rfl rfl rfl rfl rfl ?_
          refine stepK_pass rfl rfl rfl rfl rfl rfl rfl ?_
          refine stepK_pass rfl rfl rfl rfl rfl rfl rfl ?_
          refine stepK_pass rfl rfl rfl rfl rfl rfl rfl ?_
          refine stepK_d rfl rfl rfl hst (does_pick_false rfl rfl rfl) ?_
          refine stepK_d rfl rfl rfl hst (does_move rfl rfl) ?_
          refine stepK_pass rfl rfl rfl rfl rfl rfl rfl ?_
          refine stepK_pass rfl rfl rfl rfl rfl rfl rfl ?_
          refine stepK_pass rfl rfl rfl rfl rfl rfl rfl ?_
          refine stepK_pass rfl rfl rfl rfl rfl rfl rfl ?_
          refine stepK_d rfl rfl rfl hst (does_pick_false rfl rfl rfl) ?_
          refine stepK_d rfl rfl rfl hst (does_move rfl rfl) ?_
          refine stepK_pass rfl rfl rfl rfl rfl rfl rfl ?_
          refine stepK_pass rfl rfl rfl rfl rfl rfl rfl ?_
          refine stepK_pass rfl rfl rfl rfl rfl rfl rfl ?_
          refine stepK_pass rfl rfl rfl rfl rfl rfl rfl ?_
          refine stepK_d rfl rfl rfl hst (does_pick_false rfl rfl rfl) ?_
          refine stepK_d rfl rfl rfl hst (does_move rfl rfl) ?_
          refine stepK_pass rfl rfl rfl rfl rfl rfl rfl ?_
          refine stepK_pass rfl rfl rfl rfl rfl rfl rfl ?_
          refine stepK_pass rfl rfl rfl rfl rfl rfl rfl ?_
          refine stepK_pass rfl rfl rfl rfl rfl rfl rfl ?_
          refine stepK_pass rfl rfl rfl rfl rfl rfl rfl ?_
          refine stepK_pass rfl rfl rfl rfl rfl rfl rfl ?_
          refine stepK_pass rfl rfl rfl rfl rfl rfl rfl ?_
          refine stepK_pass rfl rfl rfl rfl rfl rfl rfl ?_
          refine stepK_pass rfl rfl rfl rfl rfl rfl rfl ?_
          refine stepK_pass rfl rfl rfl rfl rfl rfl rfl ?_
          refine stepK_d rfl rfl rfl hst (does_pick_false rfl rfl rfl) ?_
          refine stepK_d rfl rfl rfl hst (does_move rfl rfl) ?_
          refine stepK_pass rfl rfl rfl rfl rfl rfl rfl ?_
          refine stepK_d rfl rfl rfl hst (does_pick_false rfl rfl rfl) ?_
          refine stepK_d rfl rfl rfl hst (does_assign rfl rfl) ?_
          refine wpK_nil ?_
          refine cp_then ?_
          refine cp_ret ?_
          refine ret1 rfl rfl hst ?_
          first
          | rfl
          | contradiction
          | simp_all
      · intro s48
        refine stepK_pass rfl rfl rfl rfl rfl rfl rfl ?_
        refine stepK_d rfl rfl rfl hst (does_pick_false rfl rfl rfl) ?_
        refine stepK_d rfl rfl rfl hst (does_move rfl rfl) ?_
        refine stepK_pass rfl rfl rfl rfl rfl rfl rfl ?_
        refine stepK_pass rfl rfl rfl rfl rfl rfl rfl ?_
        refine stepK_pass rfl rfl rfl rfl rfl rfl rfl ?_
        refine stepK_pass rfl rfl rfl rfl rfl rfl rfl ?_
        refine stepK_d rfl rfl rfl hst (does_pick_false rfl rfl rfl) ?_
        refine stepK_d rfl rfl rfl hst (does_move rfl rfl) ?_
        refine stepK_pass rfl rfl rfl rfl rfl rfl rfl ?_
        refine stepK_pass rfl rfl rfl rfl rfl rfl rfl ?_
        refine stepK_pass rfl rfl rfl rfl rfl rfl rfl ?_
        refine stepK_pass rfl rfl rfl rfl rfl rfl rfl ?_
        refine stepK_d rfl rfl rfl hst (does_pick_false rfl rfl rfl) ?_
        refine stepK_d rfl rfl rfl hst (does_move rfl rfl) ?_
        refine stepK_pass rfl rfl rfl rfl rfl rfl rfl ?_
        refine stepK_pass rfl rfl rfl rfl rfl rfl rfl ?_
        refine stepK_pass rfl rfl rfl rfl rfl rfl rfl ?_
        refine stepK_pass rfl rfl rfl rfl rfl rfl rfl ?_
        refine stepK_d rfl rfl rfl hst (does_pick_false rfl rfl rfl) ?_
        refine stepK_d rfl rfl rfl hst (does_move rfl rfl) ?_
        refine stepK_pass rfl rfl rfl rfl rfl rfl rfl ?_
        refine stepK_pass rfl rfl rfl rfl rfl rfl rfl ?_
        refine stepK_pass rfl rfl rfl rfl rfl rfl rfl ?_
        refine stepK_pass rfl rfl rfl rfl rfl rfl rfl ?_
        refine stepK_pass rfl rfl rfl rfl rfl rfl rfl ?_
        refine stepK_pass rfl rfl rfl rfl rfl rfl rfl ?_
        refine stepK_pass rfl rfl rfl rfl rfl rfl rfl ?_
        refine stepK_pass rfl rfl rfl rfl rfl rfl rfl ?_
        refine stepK_pass rfl rfl rfl rfl rfl rfl rfl ?_
        refine stepK_pass rfl rfl rfl rfl rfl rfl rfl ?_
        refine stepK_d rfl rfl rfl hst (does_pick_false rfl rfl rfl) ?_
        refine stepK_d rfl rfl rfl hst (does_move rfl rfl) ?_
        refine stepK_pass rfl rfl rfl rfl rfl rfl rfl ?_
        refine stepK_d rfl rfl rfl hst (does_pick_false rfl rfl rfl) ?_
        refine stepK_d rfl rfl rfl hst (does_assign rfl rfl) ?_
        refine wpK_nil ?_
        refine cp_then ?_
        refine cp_ret ?_
        refine ret1 rfl rfl hst ?_
        first
        | rfl
        | contradiction
        | simp_all

end Go.Proofs.YtbamjcfdlgnicaaDoor
