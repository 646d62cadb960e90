/- The walks of functions, printed by a program of this session out of its specs. -/
import Derived.Test.YtnbcedkpkcgmkaaGreatDoorF9
import Derived.Test.YtnbcedkpkcgmkaaGreatDoorQX
import Derived.Test.YtnbcedkpkcgmkaaGreatDoorQ3
import Derived.Test.YtnbcedkpkcgmkaaGreatDoorProg
import Derived.Test.YtnbcedkpkcgmkaaGreatDoorF0
namespace Go.Proofs.YtnbcedkpkcgmkaaGreatDoor
open Go Go.RowKit Go.Proofs.Vc
set_option linter.unusedVariables false
set_option linter.unusedSimpArgs false

set_option maxHeartbeats 1000000 in
theorem sref_distance {g : Mem} {w : World} (hag : Agree g w) {na nb : Bool} {A B : Option Addr} {n c m d : Nat} {r : Rat} (ha : IsQ g na A n nb B m r) {na2 nb2 : Bool} {A2 B2 : Option Addr} {n2 c2 m2 d2 : Nat} {x : Rat} (hb : IsQ g na2 A2 n2 nb2 B2 m2 x) (fa : FitH r) (fb : FitH x) (fd : FitH (r - x)) :
    CallTo Tryz.prog 72 #[.agg #[.bool na, .slice A n c, .bool nb, .slice B m d], .agg #[.bool na2, .slice A2 n2 c2, .bool nb2, .slice B2 m2 d2]] w (Ret w g fun v g => ∃ na A n c nb B m d, v = .agg #[.bool na, .slice A n c, .bool nb, .slice B m d] ∧ IsQ g na A n nb B m (absR (r - x))) := by
  refine CallTo.enter (vs := [.agg #[.bool na, .slice A n c, .bool nb, .slice B m d], .agg #[.bool na2, .slice A2 n2 c2, .bool nb2, .slice B2 m2 d2]]) zf156 (by kernel_rfl) rfl rfl rfl ?_
  have hst := St.init hag
  refine zsr ?_
  refine stepK_box rfl rfl rfl rfl rfl rfl hst ?_
  clear hst
  intro b1 w1 hst
  refine stepK_box rfl rfl rfl rfl rfl rfl hst ?_
  clear hst
  intro b2 w2 hst
  refine stepK_alloc rfl rfl rfl rfl zf107 rfl hst ?_
  clear hst
  intro b3 w3 hst
  refine zn4 ?_
  refine stepK_d rfl rfl rfl hst (does_load_ownN 0 rfl (by kernel_rfl) zf105 rfl rfl rfl) ?_
  refine stepK_d rfl rfl rfl hst (does_load_ownN 1 rfl (by kernel_rfl) zf105 rfl rfl rfl) ?_
  refine stepK_call rfl rfl rfl rfl rfl hst (snum_RSub hst.agree ha hb fa fb) ?_
  clear hst
  intro v4 g4 w4 hst hle4 hcs4 hp4
  replace ha := ha.mono hle4
  replace hb := hb.mono hle4
  obtain ⟨na8, A8, n8, c8, nb8, B8, m8, d8, rfl, h8⟩ := hp4
  refine stepK_alloc rfl rfl rfl rfl zf107 rfl hst ?_
  clear hst
  intro b5 w5 hst
  refine stepK_store 3 rfl rfl rfl rfl rfl rfl zf105 rfl rfl hst rfl (by first | (simp [uN_length]; omega) | simp) ?_
  clear hst
  intro w6 hst
  simp only [zL, splice, Nat.reduceAdd] at hst
  refine znq ?_
  refine zsr ?_
  refine stepK_d rfl rfl rfl hst (does_load_ownN 3 rfl (by kernel_rfl) zf105 rfl rfl rfl) ?_
  refine stepK_call rfl rfl rfl rfl rfl hst (snum_RSign hst.agree h8) ?_
  clear hst
  intro v7 g7 w7 hst hle7 hcs7 hp7
  replace ha := ha.mono hle7
  replace hb := hb.mono hle7
  replace h8 := h8.mono hle7
  obtain rfl := hp7
  refine stepK_d rfl rfl rfl hst (does_lss rfl rfl rfl) ?_
  refine znt ?_
  refine cp_if rfl ?_ ?_
  intro c11
  have hs := absR_sign.1 c11
  refine zsr ?_
  refine stepK_d rfl rfl rfl hst (does_load_ownN 3 rfl (by kernel_rfl) zf105 rfl rfl rfl) ?_
  refine stepK_call rfl rfl rfl rfl rfl hst (snum_RNeg hst.agree h8) ?_
  clear hst
  intro v8 g8 w8 hst hle8 hcs8 hp8
  replace ha := ha.mono hle8
  replace hb := hb.mono hle8
  replace h8 := h8.mono hle8
  obtain ⟨na13, A13, n13, c13, nb13, B13, m13, d13, rfl, h13⟩ := hp8
  refine stepK_store 2 rfl rfl rfl rfl rfl rfl zf105 rfl rfl hst rfl (by first | (simp [uN_length]; omega) | simp) ?_
  clear hst
  intro w9 hst
  simp only [zL, splice, Nat.reduceAdd] at hst
  refine zn5 ?_
  refine ret1c (k := 2) rfl rfl (by kernel_rfl) (by kernel_rfl) rfl hst rfl ?_
  unfold absR
  rw [if_pos hs]
  exact ⟨_, _, _, _, _, _, _, _, rfl, h13⟩
  intro c11
  have hs : ¬ (r - x).num < 0 := fun h => c11 (absR_sign.2 h)
  refine zk4 ?_
  refine stepK_d rfl rfl rfl hst (does_load_ownN 3 rfl (by kernel_rfl) zf105 rfl rfl rfl) ?_
  refine stepK_store 2 rfl rfl rfl rfl rfl rfl zf105 rfl rfl hst rfl (by first | (simp [uN_length]; omega) | simp) ?_
  clear hst
  intro w10 hst
  simp only [zL, splice, Nat.reduceAdd] at hst
  refine znt ?_
  refine cp_ret ?_
  refine ret1c (k := 2) rfl rfl (by kernel_rfl) (by kernel_rfl) rfl hst rfl ?_
  unfold absR
  rw [if_neg hs]
  exact ⟨_, _, _, _, _, _, _, _, rfl, h8⟩

set_option maxHeartbeats 1000000 in
theorem law28_distance {g : Mem} {w : World} (hag : Agree g w) {na nb : Bool} {A B : Option Addr} {n c m d : Nat} {r : Rat} (ha : IsQ g na A n nb B m r) {na2 nb2 : Bool} {A2 B2 : Option Addr} {n2 c2 m2 d2 : Nat} {x : Rat} (hb : IsQ g na2 A2 n2 nb2 B2 m2 x) (fa : FitH r) (fb : FitH x) (fd : FitH (r - x)) :
    CallTo Tryz.prog 21 #[.agg #[.bool na, .slice A n c, .bool nb, .slice B m d], .agg #[.bool na2, .slice A2 n2 c2, .bool nb2, .slice B2 m2 d2]] w (Ret w g fun v g => ∃ na A n c nb B m d, v = .agg #[.bool na, .slice A n c, .bool nb, .slice B m d] ∧ IsQ g na A n nb B m (absR (r - x))) := by
  refine CallTo.enter (vs := [.agg #[.bool na, .slice A n c, .bool nb, .slice B m d], .agg #[.bool na2, .slice A2 n2 c2, .bool nb2, .slice B2 m2 d2]]) zf157 (by kernel_rfl) rfl rfl rfl ?_
  have hst := St.init hag
  refine zsr ?_
  refine stepK_box rfl rfl rfl rfl rfl rfl hst ?_
  clear hst
  intro b1 w1 hst
  refine stepK_box rfl rfl rfl rfl rfl rfl hst ?_
  clear hst
  intro b2 w2 hst
  refine stepK_alloc rfl rfl rfl rfl zf107 rfl hst ?_
  clear hst
  intro b3 w3 hst
  refine zn4 ?_
  refine stepK_d rfl rfl rfl hst (does_load_ownN 0 rfl (by kernel_rfl) zf105 rfl rfl rfl) ?_
  refine stepK_d rfl rfl rfl hst (does_load_ownN 1 rfl (by kernel_rfl) zf105 rfl rfl rfl) ?_
  refine stepK_call rfl rfl rfl rfl rfl hst (snum_RSub hst.agree ha hb fa fb) ?_
  clear hst
  intro v4 g4 w4 hst hle4 hcs4 hp4
  replace ha := ha.mono hle4
  replace hb := hb.mono hle4
  obtain ⟨na8, A8, n8, c8, nb8, B8, m8, d8, rfl, h8⟩ := hp4
  refine stepK_alloc rfl rfl rfl rfl zf107 rfl hst ?_
  clear hst
  intro b5 w5 hst
  refine stepK_store 3 rfl rfl rfl rfl rfl rfl zf105 rfl rfl hst rfl (by first | (simp [uN_length]; omega) | simp) ?_
  clear hst
  intro w6 hst
  simp only [zL, splice, Nat.reduceAdd] at hst
  refine znq ?_
  refine zsr ?_
  refine stepK_d rfl rfl rfl hst (does_load_ownN 3 rfl (by kernel_rfl) zf105 rfl rfl rfl) ?_
  refine stepK_call rfl rfl rfl rfl rfl hst (snum_RSign hst.agree h8) ?_
  clear hst
  intro v7 g7 w7 hst hle7 hcs7 hp7
  replace ha := ha.mono hle7
  replace hb := hb.mono hle7
  replace h8 := h8.mono hle7
  obtain rfl := hp7
  refine stepK_d rfl rfl rfl hst (does_lss rfl rfl rfl) ?_
  refine znt ?_
  refine cp_if rfl ?_ ?_
  intro c11
  have hs := absR_sign.1 c11
  refine zsr ?_
  refine stepK_d rfl rfl rfl hst (does_load_ownN 3 rfl (by kernel_rfl) zf105 rfl rfl rfl) ?_
  refine stepK_call rfl rfl rfl rfl rfl hst (snum_RNeg hst.agree h8) ?_
  clear hst
  intro v8 g8 w8 hst hle8 hcs8 hp8
  replace ha := ha.mono hle8
  replace hb := hb.mono hle8
  replace h8 := h8.mono hle8
  obtain ⟨na13, A13, n13, c13, nb13, B13, m13, d13, rfl, h13⟩ := hp8
  refine stepK_store 2 rfl rfl rfl rfl rfl rfl zf105 rfl rfl hst rfl (by first | (simp [uN_length]; omega) | simp) ?_
  clear hst
  intro w9 hst
  simp only [zL, splice, Nat.reduceAdd] at hst
  refine zn5 ?_
  refine ret1c (k := 2) rfl rfl (by kernel_rfl) (by kernel_rfl) rfl hst rfl ?_
  unfold absR
  rw [if_pos hs]
  exact ⟨_, _, _, _, _, _, _, _, rfl, h13⟩
  intro c11
  have hs : ¬ (r - x).num < 0 := fun h => c11 (absR_sign.2 h)
  refine zk4 ?_
  refine stepK_d rfl rfl rfl hst (does_load_ownN 3 rfl (by kernel_rfl) zf105 rfl rfl rfl) ?_
  refine stepK_store 2 rfl rfl rfl rfl rfl rfl zf105 rfl rfl hst rfl (by first | (simp [uN_length]; omega) | simp) ?_
  clear hst
  intro w10 hst
  simp only [zL, splice, Nat.reduceAdd] at hst
  refine znt ?_
  refine cp_ret ?_
  refine ret1c (k := 2) rfl rfl (by kernel_rfl) (by kernel_rfl) rfl hst rfl ?_
  unfold absR
  rw [if_neg hs]
  exact ⟨_, _, _, _, _, _, _, _, rfl, h8⟩

end Go.Proofs.YtnbcedkpkcgmkaaGreatDoor
