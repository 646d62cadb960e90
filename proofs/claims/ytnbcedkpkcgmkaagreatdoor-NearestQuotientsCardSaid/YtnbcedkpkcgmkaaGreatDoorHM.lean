/- The walks of functions, printed by a program of this session out of its specs. -/
import Derived.Test.YtnbcedkpkcgmkaaGreatDoorCY
import Derived.Test.YtnbcedkpkcgmkaaGreatDoorCG
import Derived.Test.YtnbcedkpkcgmkaaGreatDoorHQ
import Derived.Test.YtnbcedkpkcgmkaaGreatDoorHT
import Derived.Test.YtnbcedkpkcgmkaaGreatDoorF6
import Derived.Test.YtnbcedkpkcgmkaaGreatDoorProg
import Derived.Test.YtnbcedkpkcgmkaaGreatDoorF0
namespace Go.Proofs.YtnbcedkpkcgmkaaGreatDoor
open Go Go.RowKit Go.Proofs.Vc
set_option linter.unusedVariables false
set_option linter.unusedSimpArgs false

set_option maxHeartbeats 1000000 in
theorem nearest_Quotients {g : Mem} {w : World} (hag : Agree g w) (hT : TabG Tryz.prog g) {a : ByteArray} (ha : a.size ≤ 60) :
    CallTo Tryz.prog 22 #[.string a] w (Ret w g fun v g => ∃ A n c, v = .tuple #[.slice A n c, .int .i64 (if (readR a).isSome then 0 else 1)] ∧ StrS g A n (if (readR a).isSome then (cfR (getR a)).map ratS else []) ∧ n ≤ 1000000) := by
  refine CallTo.enter (vs := [.string a]) zf149 (by kernel_rfl) rfl rfl rfl ?_
  have hst := St.init hag
  have sx := (getR_sz a).mono (m := 61) (by omega)
  have fx := sx.fit (by decide)
  have hlen := cf_len_sz sx
  refine zsr ?_
  refine zA rfl hst rfl ?_
  refine zA rfl hst rfl ?_
  refine zn4 ?_
  refine zM rfl hst rfl ?_
  refine stepK_call rfl rfl rfl rfl rfl hst (num_Of hst.agree (by omega)) ?_
  clear hst
  intro v1 g1 w1 hst hle1 hcs1 hp1
  replace hT := hT.mono hle1
  obtain ⟨p1, q1, a1, rfl, h1⟩ := hp1
  refine zM rfl hst rfl ?_
  refine zE rfl hst rfl rfl ?_
  refine zE rfl hst rfl rfl ?_
  refine stepK_alloc rfl rfl rfl rfl zf29 rfl hst ?_
  clear hst
  intro b4 w2 hst
  refine stepK_store 0 rfl rfl rfl rfl rfl rfl zf31 rfl rfl hst rfl (by first | (simp [uN_length]; omega) | simp) ?_
  clear hst
  intro w3 hst
  simp only [zL, splice, Nat.reduceAdd] at hst
  refine zA rfl hst rfl ?_
  refine znq ?_
  refine zsr ?_
  refine zM rfl hst rfl ?_
  refine stepK_d rfl rfl rfl hst (does_not rfl rfl) ?_
  refine znt ?_
  refine cp_cond rfl ?_ ?_
  intro c12
  have hno : ¬ (readR a).isSome := fun h => by rw [h] at c12; cases c12
  refine zsr ?_
  refine zA rfl hst rfl ?_
  refine zA rfl hst rfl ?_
  refine zn5 ?_
  refine ret2 rfl rfl rfl hst ?_
  rw [if_neg hno, if_neg hno]
  exact ⟨_, _, _, rfl, ⟨rfl, .inl rfl⟩, Nat.zero_le _⟩
  intro c12
  have hs1 : (readR a).isSome = true := by simpa using c12
  refine zk4 ?_
  refine stepK_d rfl rfl rfl hst (does_load_ownN 0 rfl (by kernel_rfl) zf31 rfl rfl rfl) ?_
  refine stepK_call rfl rfl rfl rfl rfl hst (nearest_quotients hst.agree h1 sx (by decide)) ?_
  clear hst
  intro v4 g4 w4 hst hle4 hcs4 hp4
  replace hT := hT.mono hle4
  replace h1 := h1.mono hle4
  obtain ⟨Aq, cq, rfl, hcq, hs⟩ := hp4
  refine stepK_call rfl rfl rfl rfl rfl hst (num_Texts hst.agree hT hs (fun x hx => (cfR_sz sx x hx).fit (by decide)) (by omega)) ?_
  clear hst
  intro v5 g5 w5 hst hle5 hcs5 hp5
  replace hT := hT.mono hle5
  replace h1 := h1.mono hle5
  replace hs := hs.mono hle5
  obtain ⟨A15, c15, rfl, h15⟩ := hp5
  refine zA rfl hst rfl ?_
  refine zA rfl hst rfl ?_
  refine znt ?_
  refine cp_ret ?_
  refine ret2 rfl rfl rfl hst ?_
  rw [if_pos hs1, if_pos hs1]
  exact ⟨_, _, _, rfl, h15, by omega⟩

end Go.Proofs.YtnbcedkpkcgmkaaGreatDoor
