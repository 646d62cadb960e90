/- The walks of functions, printed by a program of this session out of its specs. -/
import Derived.Test.YtnbcedkpkcgmkaaGreatDoorHC
import Derived.Test.YtnbcedkpkcgmkaaGreatDoorHM
import Derived.Test.YtnbcedkpkcgmkaaGreatDoorRC
import Derived.Test.YtnbcedkpkcgmkaaGreatDoorRT
import Derived.Test.YtnbcedkpkcgmkaaGreatDoorSS
import Derived.Test.YtnbcedkpkcgmkaaGreatDoorFN
import Derived.Test.YtnbcedkpkcgmkaaGreatDoorFA
import Derived.Test.YtnbcedkpkcgmkaaGreatDoorQ3
import Derived.Test.YtnbcedkpkcgmkaaGreatDoorProg
import Derived.Test.YtnbcedkpkcgmkaaGreatDoorF0
namespace Go.Proofs.YtnbcedkpkcgmkaaGreatDoor
open Go Go.RowKit Go.Proofs.Vc
set_option linter.unusedVariables false
set_option linter.unusedSimpArgs false

set_option maxHeartbeats 4000000 in
theorem NearestQuotients_walk {g : Mem} {w : World} (hag : Agree g w) (hT : TabG Tryz.prog g) {a : ByteArray} :
    CallTo Tryz.prog 5 #[.string a] w (Ret w g fun v g => v = .bool true) := by
  refine CallTo.enter (vs := [.string a]) zf161 (by kernel_rfl) rfl rfl rfl ?_
  have hst := St.init hag
  refine zsr ?_
  refine zA rfl hst rfl ?_
  refine znq ?_
  refine zsr ?_
  refine zM rfl hst rfl ?_
  refine stepK_d rfl rfl rfl hst (does_len_string rfl (by kernel_rfl) rfl) ?_
  refine stepK_d rfl rfl rfl hst (does_gtr rfl rfl rfl) ?_
  refine znt ?_
  refine cp_if rfl ?_ ?_
  intro c12
  refine zsr ?_
  refine stepK_call rfl rfl rfl rfl rfl hst (law28_known hst.agree hT) ?_
  clear hst
  intro v1 g1 w1 hst hle1 hcs1 hp1
  replace hT := hT.mono hle1
  obtain rfl := hp1
  refine zA rfl hst rfl ?_
  refine zn5 ?_
  refine ret1 rfl rfl hst ?_
  first
  | rfl
  | contradiction
  | simp_all
  intro c12
  have ha : a.size ≤ 60 := by omega
  have sx := (getR_sz a).mono (m := 61) (by omega)
  have hlen := cf_len_sz sx
  refine zk4 ?_
  refine zM rfl hst rfl ?_
  refine stepK_call rfl rfl rfl rfl rfl hst (nearest_Quotients hst.agree hT ha) ?_
  clear hst
  intro v2 g2 w2 hst hle2 hcs2 hp2
  replace hT := hT.mono hle2
  obtain ⟨A16, n16, c16, rfl, h16, l16⟩ := hp2
  refine zM rfl hst rfl ?_
  refine zE rfl hst rfl rfl ?_
  refine zE rfl hst rfl rfl ?_
  refine zA rfl hst rfl ?_
  refine zA rfl hst rfl ?_
  refine zn4 ?_
  refine zM rfl hst rfl ?_
  refine stepK_call rfl rfl rfl rfl rfl hst (nearest_Convergents hst.agree hT ha) ?_
  clear hst
  intro v3 g3 w3 hst hle3 hcs3 hp3
  replace hT := hT.mono hle3
  replace h16 := h16.mono hle3
  obtain ⟨A21, n21, c21, rfl, h21, l21⟩ := hp3
  refine zM rfl hst rfl ?_
  refine zE rfl hst rfl rfl ?_
  refine zE rfl hst rfl rfl ?_
  refine zA rfl hst rfl ?_
  refine zA rfl hst rfl ?_
  refine zn4 ?_
  refine zM rfl hst rfl ?_
  refine stepK_call rfl rfl rfl rfl rfl hst (snum_Read hst.agree (by omega)) ?_
  clear hst
  intro v4 g4 w4 hst hle4 hcs4 hp4
  replace hT := hT.mono hle4
  replace h16 := h16.mono hle4
  replace h21 := h21.mono hle4
  obtain ⟨na, A, n, c, nb, B, m, d, ok1, ρ1, rfl, hx, hy1, hn1⟩ := hp4
  refine zM rfl hst rfl ?_
  refine zE rfl hst rfl rfl ?_
  refine zE rfl hst rfl rfl ?_
  refine stepK_alloc rfl rfl rfl rfl zf107 rfl hst ?_
  clear hst
  intro b7 w5 hst
  refine stepK_store 0 rfl rfl rfl rfl rfl rfl zf105 rfl rfl hst rfl (by first | (simp [uN_length]; omega) | simp) ?_
  clear hst
  intro w6 hst
  simp only [zL, splice, Nat.reduceAdd] at hst
  refine zA rfl hst rfl ?_
  refine znq ?_
  refine zsr ?_
  refine zM rfl hst rfl ?_
  refine stepK_d rfl rfl rfl hst (does_not rfl rfl) ?_
  refine znt ?_
  refine cp_cond rfl ?_ ?_
  intro c30
  have hno : ¬ (readR a).isSome := fun h => by have e := hn1 (by simpa using c30); rw [e] at h; cases h
  rw [if_neg hno] at h16 h21
  have n0 := h16.1
  have n1 := h21.1
  simp only [List.length_nil] at n0 n1
  refine zsr ?_
  refine stepK_call rfl rfl rfl rfl rfl hst (law28_known hst.agree hT) ?_
  clear hst
  intro v7 g7 w7 hst hle7 hcs7 hp7
  replace hT := hT.mono hle7
  replace h16 := h16.mono hle7
  replace h21 := h21.mono hle7
  replace hx := hx.mono hle7
  obtain rfl := hp7
  refine zM rfl hst rfl ?_
  refine stepK_guard rfl rfl rfl rfl rfl rfl hst (does_move rfl rfl) ?_
  refine stepK_guard rfl rfl rfl rfl rfl rfl hst (Does.yes (does_eql rfl rfl rfl) (by rw [if_neg hno])) ?_
  refine stepK_d rfl rfl rfl hst (does_pick_true rfl rfl rfl) ?_
  refine zM rfl hst rfl ?_
  refine stepK_guard rfl rfl rfl rfl rfl rfl hst (does_move rfl rfl) ?_
  refine stepK_guard rfl rfl rfl rfl rfl rfl hst (Does.yes (does_eql rfl rfl rfl) (by rw [if_neg hno])) ?_
  refine stepK_d rfl rfl rfl hst (does_pick_true rfl rfl rfl) ?_
  refine zM rfl hst rfl ?_
  refine stepK_guard rfl rfl rfl rfl rfl rfl hst (does_move rfl rfl) ?_
  refine stepK_guard rfl rfl rfl rfl rfl rfl hst (does_len_slice rfl zf145 rfl) ?_
  refine stepK_guard rfl rfl rfl rfl rfl rfl hst (does_move rfl rfl) ?_
  refine stepK_guard rfl rfl rfl rfl rfl rfl hst (does_len_slice rfl zf145 rfl) ?_
  refine stepK_guard rfl rfl rfl rfl rfl rfl hst (Does.int (does_add rfl rfl rfl) (wrap_i64 (by omega) (by omega))) ?_
  refine stepK_guard rfl rfl rfl rfl rfl rfl hst (Does.yes (does_eql rfl rfl rfl) (by omega)) ?_
  refine stepK_d rfl rfl rfl hst (does_pick_true rfl rfl rfl) ?_
  refine zA rfl hst rfl ?_
  refine zn5 ?_
  refine ret1 rfl rfl hst ?_
  first
  | rfl
  | contradiction
  | simp_all
  intro c30
  have e1 := hy1 (by simpa using c30)
  have g1 : getR a = ρ1 := by unfold getR; rw [e1]; rfl
  have hs1 : (readR a).isSome = true := by rw [e1]; rfl
  rw [← g1] at hx
  rw [if_pos hs1] at h16 h21
  refine zk4 ?_
  refine stepK_d rfl rfl rfl hst (does_load_ownN 0 rfl (by kernel_rfl) zf105 rfl rfl rfl) ?_
  refine stepK_call rfl rfl rfl rfl rfl hst (sref_Quotients hst.agree hx sx (by decide)) ?_
  clear hst
  intro v8 g8 w8 hst hle8 hcs8 hp8
  replace hT := hT.mono hle8
  replace h16 := h16.mono hle8
  replace h21 := h21.mono hle8
  replace hx := hx.mono hle8
  obtain ⟨A49, c49, rfl, hc49, h49⟩ := hp8
  refine zA rfl hst rfl ?_
  refine zn4 ?_
  refine stepK_call rfl rfl rfl rfl rfl hst (law28_known hst.agree hT) ?_
  clear hst
  intro v9 g9 w9 hst hle9 hcs9 hp9
  replace hT := hT.mono hle9
  replace h16 := h16.mono hle9
  replace h21 := h21.mono hle9
  replace hx := hx.mono hle9
  replace h49 := h49.mono hle9
  obtain rfl := hp9
  refine zM rfl hst rfl ?_
  refine stepK_guard rfl rfl rfl rfl rfl rfl hst (does_move rfl rfl) ?_
  refine stepK_guard rfl rfl rfl rfl rfl rfl hst (Does.yes (does_eql rfl rfl rfl) (by rw [if_pos hs1])) ?_
  refine stepK_d rfl rfl rfl hst (does_pick_true rfl rfl rfl) ?_
  refine zM rfl hst rfl ?_
  refine stepK_guard rfl rfl rfl rfl rfl rfl hst (does_move rfl rfl) ?_
  refine stepK_guard rfl rfl rfl rfl rfl rfl hst (Does.yes (does_eql rfl rfl rfl) (by rw [if_pos hs1])) ?_
  refine stepK_d rfl rfl rfl hst (does_pick_true rfl rfl rfl) ?_
  refine zM rfl hst rfl ?_
  refine stepK_guard rfl rfl rfl rfl rfl rfl hst (does_move rfl rfl) ?_
  refine stepK_guard rfl rfl rfl rfl rfl rfl hst (does_move rfl rfl) ?_
  refine stepK_call_guard rfl rfl rfl rfl rfl rfl rfl rfl hst (snum_Texts hst.agree h49 (fun x hx => (cfR_sz sx x hx).fitH (by decide)) (by omega)) ?_
  clear hst
  intro v10 g10 w10 hst hle10 hcs10 hp10
  replace hT := hT.mono hle10
  replace h16 := h16.mono hle10
  replace h21 := h21.mono hle10
  replace hx := hx.mono hle10
  replace h49 := h49.mono hle10
  obtain ⟨A62, c62, rfl, h62⟩ := hp10
  refine stepK_call_guard rfl rfl rfl rfl rfl rfl rfl rfl hst (same_Strings hst.agree h16 h62 (by omega)) ?_
  clear hst
  intro v11 g11 w11 hst hle11 hcs11 hp11
  replace hT := hT.mono hle11
  replace h16 := h16.mono hle11
  replace h21 := h21.mono hle11
  replace hx := hx.mono hle11
  replace h49 := h49.mono hle11
  replace h62 := h62.mono hle11
  obtain rfl := hp11
  rw [decide_eq_true rfl]
  refine stepK_d rfl rfl rfl hst (does_pick_true rfl rfl rfl) ?_
  refine zM rfl hst rfl ?_
  refine stepK_guard rfl rfl rfl rfl rfl rfl hst (does_move rfl rfl) ?_
  refine stepK_guard rfl rfl rfl rfl rfl rfl hst (does_move rfl rfl) ?_
  refine stepK_call_guard rfl rfl rfl rfl rfl rfl rfl rfl hst (sref_Convergents hst.agree h49 sx (by decide)) ?_
  clear hst
  intro v12 g12 w12 hst hle12 hcs12 hp12
  replace hT := hT.mono hle12
  replace h16 := h16.mono hle12
  replace h21 := h21.mono hle12
  replace hx := hx.mono hle12
  replace h49 := h49.mono hle12
  replace h62 := h62.mono hle12
  obtain ⟨A68, c68, rfl, h68⟩ := hp12
  refine stepK_call_guard rfl rfl rfl rfl rfl rfl rfl rfl hst (snum_Texts hst.agree h68 (cvR_fitH sx) (by omega)) ?_
  clear hst
  intro v13 g13 w13 hst hle13 hcs13 hp13
  replace hT := hT.mono hle13
  replace h16 := h16.mono hle13
  replace h21 := h21.mono hle13
  replace hx := hx.mono hle13
  replace h49 := h49.mono hle13
  replace h62 := h62.mono hle13
  replace h68 := h68.mono hle13
  obtain ⟨A69, c69, rfl, h69⟩ := hp13
  refine stepK_call_guard rfl rfl rfl rfl rfl rfl rfl rfl hst (same_Strings hst.agree h21 h69 (by omega)) ?_
  clear hst
  intro v14 g14 w14 hst hle14 hcs14 hp14
  replace hT := hT.mono hle14
  replace h16 := h16.mono hle14
  replace h21 := h21.mono hle14
  replace hx := hx.mono hle14
  replace h49 := h49.mono hle14
  replace h62 := h62.mono hle14
  replace h68 := h68.mono hle14
  replace h69 := h69.mono hle14
  obtain rfl := hp14
  rw [decide_eq_true rfl]
  refine stepK_d rfl rfl rfl hst (does_pick_true rfl rfl rfl) ?_
  refine zA rfl hst rfl ?_
  refine znt ?_
  refine cp_ret ?_
  refine ret1 rfl rfl hst ?_
  first
  | rfl
  | contradiction
  | simp_all

end Go.Proofs.YtnbcedkpkcgmkaaGreatDoor
