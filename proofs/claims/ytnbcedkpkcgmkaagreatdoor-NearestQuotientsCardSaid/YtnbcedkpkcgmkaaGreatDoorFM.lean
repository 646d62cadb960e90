/- The walks of functions, printed by a program of this session out of its specs. -/
import Derived.Test.YtnbcedkpkcgmkaaGreatDoorF8
import Derived.Test.YtnbcedkpkcgmkaaGreatDoorQ3
import Derived.Test.YtnbcedkpkcgmkaaGreatDoorProg
import Derived.Test.YtnbcedkpkcgmkaaGreatDoorF0
namespace Go.Proofs.YtnbcedkpkcgmkaaGreatDoor
open Go Go.RowKit Go.Proofs.Vc
set_option linter.unusedVariables false
set_option linter.unusedSimpArgs false

set_option maxHeartbeats 1000000 in
theorem sref_One {g : Mem} {w : World} (hag : Agree g w) :
    CallTo Tryz.prog 54 #[] w (Ret w g fun v g => ∃ na A n c nb B m d, v = .agg #[.bool na, .slice A n c, .bool nb, .slice B m d] ∧ IsQ g na A n nb B m (1)) := by
  refine CallTo.enter (vs := []) zf133 (by kernel_rfl) rfl rfl rfl ?_
  have hst := St.init hag
  refine zsr ?_
  refine stepK_alloc rfl rfl rfl rfl zf107 rfl hst ?_
  clear hst
  intro b1 w1 hst
  refine zn4 ?_
  refine stepK_call rfl rfl rfl rfl rfl hst (snum_R hst.agree (x := 1) (by decide) (by decide)) ?_
  clear hst
  intro v2 g2 w2 hst hle2 hcs2 hp2
  obtain ⟨_, _, _, _, _, _, _, _, rfl, h1⟩ := hp2
  refine stepK_store 0 rfl rfl rfl rfl rfl rfl zf105 rfl rfl hst rfl (by first | (simp [uN_length]; omega) | simp) ?_
  clear hst
  intro w3 hst
  simp only [zL, splice, Nat.reduceAdd] at hst
  refine znt ?_
  refine cp_ret ?_
  refine ret1c (k := 0) rfl rfl (by kernel_rfl) (by kernel_rfl) rfl hst rfl ?_
  exact ⟨_, _, _, _, _, _, _, _, rfl, h1.to rfl⟩

end Go.Proofs.YtnbcedkpkcgmkaaGreatDoor
