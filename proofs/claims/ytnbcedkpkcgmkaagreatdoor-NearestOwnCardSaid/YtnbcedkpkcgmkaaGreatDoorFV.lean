/- The walks of functions, printed by a program of this session out of its specs. -/
import Derived.Test.YtnbcedkpkcgmkaaGreatDoorF5
import Derived.Test.YtnbcedkpkcgmkaaGreatDoorF6
import Derived.Test.YtnbcedkpkcgmkaaGreatDoorQX
import Derived.Test.YtnbcedkpkcgmkaaGreatDoorProg
import Derived.Test.YtnbcedkpkcgmkaaGreatDoorF0
namespace Go.Proofs.YtnbcedkpkcgmkaaGreatDoor
open Go Go.RowKit Go.Proofs.Vc
set_option linter.unusedVariables false
set_option linter.unusedSimpArgs false

set_option maxHeartbeats 1000000 in
theorem Rat_Den {g : Mem} {w : World} (hag : Agree g w) {p q : Int} {a : Option Addr} {r : Rat} (ha : IsRat g p q a r) :
    CallTo Tryz.prog 70 #[.agg #[.int .i64 p, .int .i64 q, .pointer a]] w (Ret w g fun v g => ∃ p q a, v = .agg #[.int .i64 p, .int .i64 q, .pointer a] ∧ IsRat g p q a (((r.den : Int) : Rat))) := by
  refine CallTo.enter (vs := [.agg #[.int .i64 p, .int .i64 q, .pointer a]]) zf127 (by kernel_rfl) rfl rfl rfl ?_
  have hst := St.init hag
  refine zsr ?_
  refine stepK_box rfl rfl rfl rfl rfl rfl hst ?_
  clear hst
  intro b1 w1 hst
  refine stepK_alloc rfl rfl rfl rfl zf29 rfl hst ?_
  clear hst
  intro b2 w2 hst
  refine zn4 ?_
  refine stepK_d rfl rfl rfl hst (does_load_ownN 0 rfl (by kernel_rfl) zf31 rfl rfl rfl) ?_
  refine stepK_call rfl rfl rfl rfl rfl hst (Rat_parts hst.agree ha) ?_
  clear hst
  intro v3 g3 w3 hst hle3 hcs3 hp3
  replace ha := ha.mono hle3
  obtain ⟨A1, n1, c1, B1, m1, d1, rfl, hN1, hD1⟩ := hp3
  refine zM rfl hst rfl ?_
  refine zE rfl hst rfl rfl ?_
  refine zE rfl hst rfl rfl ?_
  refine zE rfl hst rfl rfl ?_
  refine zA rfl hst rfl ?_
  refine zA rfl hst rfl ?_
  refine zA rfl hst rfl ?_
  refine zn4 ?_
  refine zM rfl hst rfl ?_
  refine stepK_buildSlice rfl rfl rfl rfl zf1 zf2 rfl rfl (by decide) (by decide) (by decide) rfl rfl hst ?_
  clear hst
  intro b4 w4 hst
  obtain ⟨g4, hst, hle4, h1⟩ := hst.lit (x := 1) (by decide) (by decide)
  replace ha := ha.mono hle4
  replace hN1 := hN1.mono hle4
  replace hD1 := hD1.mono hle4
  refine stepK_call rfl rfl rfl rfl rfl hst (num_lowest (neg := false) hst.agree hD1 h1 (by decide) (Nat.gcd_one_right _)) ?_
  clear hst
  intro v5 g5 w5 hst hle5 hcs5 hp5
  replace ha := ha.mono hle5
  replace hN1 := hN1.mono hle5
  replace hD1 := hD1.mono hle5
  replace h1 := h1.mono hle5
  obtain ⟨p9, q9, a9, rfl, hr9⟩ := hp5
  refine stepK_store 1 rfl rfl rfl rfl rfl rfl zf31 rfl rfl hst rfl (by first | (simp [uN_length]; omega) | simp) ?_
  clear hst
  intro w6 hst
  simp only [zL, splice, Nat.reduceAdd] at hst
  refine znt ?_
  refine cp_ret ?_
  refine ret1c (k := 1) rfl rfl (by kernel_rfl) (by kernel_rfl) rfl hst rfl ?_
  rw [mkRat_one] at hr9
  exact ⟨_, _, _, rfl, hr9⟩

set_option maxHeartbeats 1000000 in
theorem Rat_Abs {g : Mem} {w : World} (hag : Agree g w) {p q : Int} {a : Option Addr} {r : Rat} (ha : IsRat g p q a r) :
    CallTo Tryz.prog 115 #[.agg #[.int .i64 p, .int .i64 q, .pointer a]] w (Ret w g fun v g => ∃ p q a, v = .agg #[.int .i64 p, .int .i64 q, .pointer a] ∧ IsRat g p q a (absR r)) := by
  refine CallTo.enter (vs := [.agg #[.int .i64 p, .int .i64 q, .pointer a]]) zf128 (by kernel_rfl) rfl rfl rfl ?_
  have hst := St.init hag
  refine zsr ?_
  refine stepK_box rfl rfl rfl rfl rfl rfl hst ?_
  clear hst
  intro b1 w1 hst
  refine stepK_alloc rfl rfl rfl rfl zf29 rfl hst ?_
  clear hst
  intro b2 w2 hst
  refine znq ?_
  refine zsr ?_
  refine stepK_d rfl rfl rfl hst (does_load_ownN 0 rfl (by kernel_rfl) zf31 rfl rfl rfl) ?_
  refine stepK_call rfl rfl rfl rfl rfl hst (Rat_Sign hst.agree ha) ?_
  clear hst
  intro v3 g3 w3 hst hle3 hcs3 hp3
  replace ha := ha.mono hle3
  obtain rfl := hp3
  refine stepK_d rfl rfl rfl hst (does_lss rfl rfl rfl) ?_
  refine znt ?_
  refine cp_if rfl ?_ ?_
  intro c5
  have hs := absR_sign.1 c5
  refine zsr ?_
  refine stepK_d rfl rfl rfl hst (does_load_ownN 0 rfl (by kernel_rfl) zf31 rfl rfl rfl) ?_
  refine stepK_call rfl rfl rfl rfl rfl hst (Rat_Neg hst.agree ha) ?_
  clear hst
  intro v4 g4 w4 hst hle4 hcs4 hp4
  replace ha := ha.mono hle4
  obtain ⟨p9, q9, a9, rfl, hr9⟩ := hp4
  refine stepK_store 1 rfl rfl rfl rfl rfl rfl zf31 rfl rfl hst rfl (by first | (simp [uN_length]; omega) | simp) ?_
  clear hst
  intro w5 hst
  simp only [zL, splice, Nat.reduceAdd] at hst
  refine zn5 ?_
  refine ret1c (k := 1) rfl rfl (by kernel_rfl) (by kernel_rfl) rfl hst rfl ?_
  unfold absR
  rw [if_pos hs]
  exact ⟨_, _, _, rfl, hr9⟩
  intro c5
  have hs : ¬ r.num < 0 := fun h => c5 (absR_sign.2 h)
  refine zk4 ?_
  refine stepK_d rfl rfl rfl hst (does_load_ownN 0 rfl (by kernel_rfl) zf31 rfl rfl rfl) ?_
  refine stepK_store 1 rfl rfl rfl rfl rfl rfl zf31 rfl rfl hst rfl (by first | (simp [uN_length]; omega) | simp) ?_
  clear hst
  intro w6 hst
  simp only [zL, splice, Nat.reduceAdd] at hst
  refine znt ?_
  refine cp_ret ?_
  refine ret1c (k := 1) rfl rfl (by kernel_rfl) (by kernel_rfl) rfl hst rfl ?_
  unfold absR
  rw [if_neg hs]
  exact ⟨_, _, _, rfl, ha⟩

set_option maxHeartbeats 1000000 in
theorem Rat_IsInt {g : Mem} {w : World} (hag : Agree g w) {p q : Int} {a : Option Addr} {r : Rat} (ha : IsRat g p q a r) (hfa : Fit r) :
    CallTo Tryz.prog 42 #[.agg #[.int .i64 p, .int .i64 q, .pointer a]] w (Ret w g fun v g => v = .bool (decide (r.den = 1))) := by
  refine CallTo.enter (vs := [.agg #[.int .i64 p, .int .i64 q, .pointer a]]) zf129 (by kernel_rfl) rfl rfl rfl ?_
  have hst := St.init hag
  refine zsr ?_
  refine stepK_box rfl rfl rfl rfl rfl rfl hst ?_
  clear hst
  intro b1 w1 hst
  refine zA rfl hst rfl ?_
  refine zn4 ?_
  refine stepK_d rfl rfl rfl hst (does_load_ownN 0 rfl (by kernel_rfl) zf31 rfl rfl rfl) ?_
  refine stepK_call rfl rfl rfl rfl rfl hst (Rat_parts hst.agree ha) ?_
  clear hst
  intro v2 g2 w2 hst hle2 hcs2 hp2
  replace ha := ha.mono hle2
  obtain ⟨A1, n1, c1, B1, m1, d1, rfl, hN1, hD1⟩ := hp2
  refine zM rfl hst rfl ?_
  refine zE rfl hst rfl rfl ?_
  refine zE rfl hst rfl rfl ?_
  refine zE rfl hst rfl rfl ?_
  refine zA rfl hst rfl ?_
  refine zA rfl hst rfl ?_
  refine zA rfl hst rfl ?_
  refine zn4 ?_
  refine zM rfl hst rfl ?_
  refine stepK_buildSlice rfl rfl rfl rfl zf1 zf2 rfl rfl (by decide) (by decide) (by decide) rfl rfl hst ?_
  clear hst
  intro b3 w3 hst
  obtain ⟨g3, hst, hle3, h1⟩ := hst.lit (x := 1) (by decide) (by decide)
  replace ha := ha.mono hle3
  replace hN1 := hN1.mono hle3
  replace hD1 := hD1.mono hle3
  have l1 := hD1.len hfa.2
  refine stepK_call rfl rfl rfl rfl rfl hst (num_compare hst.agree hD1 h1 (by omega)) ?_
  clear hst
  intro v4 g4 w4 hst hle4 hcs4 hp4
  replace ha := ha.mono hle4
  replace hN1 := hN1.mono hle4
  replace hD1 := hD1.mono hle4
  replace h1 := h1.mono hle4
  obtain rfl := hp4
  refine stepK_d rfl rfl rfl hst (does_eql rfl rfl rfl) ?_
  refine zA rfl hst rfl ?_
  refine znt ?_
  refine cp_ret ?_
  refine ret1 rfl rfl hst ?_
  congr 1
  exact decide_eq_decide.2 cmpN_zero

end Go.Proofs.YtnbcedkpkcgmkaaGreatDoor
