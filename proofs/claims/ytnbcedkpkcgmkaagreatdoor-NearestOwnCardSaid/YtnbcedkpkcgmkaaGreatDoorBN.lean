/- A helper of the claim: general lemmas and walks of functions, printed by a program of this session. Conditions: none. -/
import Derived.Test.YtnbcedkpkcgmkaaGreatDoorCY
import Derived.Test.YtnbcedkpkcgmkaaGreatDoorCL
import Derived.Test.YtnbcedkpkcgmkaaGreatDoorFV
import Derived.Test.YtnbcedkpkcgmkaaGreatDoorQX
import Derived.Test.YtnbcedkpkcgmkaaGreatDoorProg
import Derived.Test.YtnbcedkpkcgmkaaGreatDoorHQ
import Derived.Test.YtnbcedkpkcgmkaaGreatDoorF6
import Derived.Test.YtnbcedkpkcgmkaaGreatDoorF0
namespace Go.Proofs.YtnbcedkpkcgmkaaGreatDoor
open Go Go.RowKit Go.Proofs.Vc
set_option linter.unusedVariables false
set_option linter.unusedSimpArgs false

set_option maxHeartbeats 4000000 in
theorem nearest_nearer {g : Mem} {w : World} (hag : Agree g w) {p q : Int} {a : Option Addr} {r : Rat} (ha : IsRat g p q a r) {s t : Int} {b : Option Addr} {x : Rat} (hb : IsRat g s t b x) {p3 q3 : Int} {a3 : Option Addr} {y : Rat} (hc : IsRat g p3 q3 a3 y) {k : Nat} (zr : Sz k r) (zx : Sz k x) (zy : Sz k y) (hk : k ≤ 100000000) :
    CallTo Tryz.prog 71 #[.agg #[.int .i64 p, .int .i64 q, .pointer a], .agg #[.int .i64 s, .int .i64 t, .pointer b], .agg #[.int .i64 p3, .int .i64 q3, .pointer a3]] w (Ret w g fun v g => ∃ p q a, v = .agg #[.int .i64 p, .int .i64 q, .pointer a] ∧ IsRat g p q a (nearR r x y)) := by
  refine CallTo.enter (vs := [.agg #[.int .i64 p, .int .i64 q, .pointer a], .agg #[.int .i64 s, .int .i64 t, .pointer b], .agg #[.int .i64 p3, .int .i64 q3, .pointer a3]]) zf158 (by kernel_rfl) rfl rfl rfl ?_
  have hst := St.init hag
  have fr := zr.fit (by omega)
  have fx := zx.fit (by omega)
  have fy := zy.fit (by omega)
  refine zsr ?_
  refine stepK_box rfl rfl rfl rfl rfl rfl hst ?_
  clear hst
  intro b3 w1 hst
  refine stepK_box rfl rfl rfl rfl rfl rfl hst ?_
  clear hst
  intro b4 w2 hst
  refine stepK_box rfl rfl rfl rfl rfl rfl hst ?_
  clear hst
  intro b5 w3 hst
  refine stepK_alloc rfl rfl rfl rfl zf29 rfl hst ?_
  clear hst
  intro b6 w4 hst
  refine znq ?_
  refine cp_drawn (by kernel_rfl) 10 [(0, true), (1, true), (4, true), (5, true), (2, false), (3, false), (6, false), (7, false), (8, false), (9, true)] _ rfl (by kernel_rfl) (by kernel_rfl) (by kernel_rfl) (fun _ _ _ _ _ h => h) _ (hst.drew) ?_
  have hst0 := hst.drew
  clear hst
  have hst := hst0
  refine stepD_d rfl rfl rfl rfl (does_load_ownN 1 rfl (by kernel_rfl) zf31 rfl rfl rfl) ?_
  refine stepD_d rfl rfl rfl rfl (does_load_ownN 0 rfl (by kernel_rfl) zf31 rfl rfl rfl) ?_
  refine stepD_d rfl rfl rfl rfl (does_load_ownN 2 rfl (by kernel_rfl) zf31 rfl rfl rfl) ?_
  refine stepD_d rfl rfl rfl rfl (does_load_ownN 0 rfl (by kernel_rfl) zf31 rfl rfl rfl) ?_
  refine stepD_call rfl rfl rfl rfl rfl rfl hst (Rat_Sub hst.agree hb ha fx fr) (fun _ _ h hle => St.older h hle (by simp) hst0.ext hst0.le) ?_
  clear hst
  intro v5 g5 w5 hst hle5 hcs5 hp5
  have hlesum := hle5
  replace ha := ha.mono hle5
  replace hb := hb.mono hle5
  replace hc := hc.mono hle5
  obtain ⟨p10, q10, a10, rfl, h10⟩ := hp5
  refine stepD_call rfl rfl rfl rfl rfl rfl hst (Rat_Abs hst.agree h10) (fun _ _ h hle => St.older h (Mem.le.trans hlesum hle) (by simp) hst0.ext hst0.le) ?_
  clear hst
  intro v6 g6 w6 hst hle6 hcs6 hp6
  replace hlesum := Mem.le.trans hlesum hle6
  replace ha := ha.mono hle6
  replace hb := hb.mono hle6
  replace hc := hc.mono hle6
  replace h10 := h10.mono hle6
  obtain ⟨p11, q11, a11, rfl, h11⟩ := hp6
  refine stepD_call rfl rfl rfl rfl rfl rfl hst (Rat_Sub hst.agree hc ha fy fr) (fun _ _ h hle => St.older h (Mem.le.trans hlesum hle) (by simp) hst0.ext hst0.le) ?_
  clear hst
  intro v7 g7 w7 hst hle7 hcs7 hp7
  replace hlesum := Mem.le.trans hlesum hle7
  replace ha := ha.mono hle7
  replace hb := hb.mono hle7
  replace hc := hc.mono hle7
  replace h10 := h10.mono hle7
  replace h11 := h11.mono hle7
  obtain ⟨p14, q14, a14, rfl, h14⟩ := hp7
  refine stepD_call rfl rfl rfl rfl rfl rfl hst (Rat_Abs hst.agree h14) (fun _ _ h hle => St.older h (Mem.le.trans hlesum hle) (by simp) hst0.ext hst0.le) ?_
  clear hst
  intro v8 g8 w8 hst hle8 hcs8 hp8
  replace hlesum := Mem.le.trans hlesum hle8
  replace ha := ha.mono hle8
  replace hb := hb.mono hle8
  replace hc := hc.mono hle8
  replace h10 := h10.mono hle8
  replace h11 := h11.mono hle8
  replace h14 := h14.mono hle8
  obtain ⟨p15, q15, a15, rfl, h15⟩ := hp8
  refine stepD_call rfl rfl rfl rfl rfl rfl hst (Rat_Cmp hst.agree h11 h15 ((absR_sz (zx.sub zr)).fit (by omega)) ((absR_sz (zy.sub zr)).fit (by omega))) (fun _ _ h hle => St.older h (Mem.le.trans hlesum hle) (by simp) hst0.ext hst0.le) ?_
  clear hst
  intro v9 g9 w9 hst hle9 hcs9 hp9
  replace hlesum := Mem.le.trans hlesum hle9
  replace ha := ha.mono hle9
  replace hb := hb.mono hle9
  replace hc := hc.mono hle9
  replace h10 := h10.mono hle9
  replace h11 := h11.mono hle9
  replace h14 := h14.mono hle9
  replace h15 := h15.mono hle9
  obtain rfl := hp9
  refine stepD_d rfl rfl rfl rfl (does_assign rfl rfl) ?_
  refine stepD_tail ?_
  refine znq ?_
  refine zsr ?_
  refine zM rfl hst rfl ?_
  refine stepK_d rfl rfl rfl hst (does_eql rfl rfl rfl) ?_
  refine znt ?_
  refine cp_if rfl ?_ ?_
  intro c18
  refine cp_drawn (by kernel_rfl) 6 [(0, true), (2, true), (1, false), (3, false), (4, false), (5, true)] _ rfl (by kernel_rfl) (by kernel_rfl) (by kernel_rfl) (fun _ _ _ _ _ h => h) _ (hst.drew) ?_
  have hst0 := hst.drew
  clear hst
  have hst := hst0
  refine stepD_d rfl rfl rfl rfl (does_load_ownN 1 rfl (by kernel_rfl) zf31 rfl rfl rfl) ?_
  refine stepD_d rfl rfl rfl rfl (does_load_ownN 2 rfl (by kernel_rfl) zf31 rfl rfl rfl) ?_
  refine stepD_call rfl rfl rfl rfl rfl rfl hst (Rat_Den hst.agree hb) (fun _ _ h hle => St.older h hle (by simp) hst0.ext hst0.le) ?_
  clear hst
  intro v10 g10 w10 hst hle10 hcs10 hp10
  have hlesum := hle10
  replace ha := ha.mono hle10
  replace hb := hb.mono hle10
  replace hc := hc.mono hle10
  replace h10 := h10.mono hle10
  replace h11 := h11.mono hle10
  replace h14 := h14.mono hle10
  replace h15 := h15.mono hle10
  obtain ⟨p20, q20, a20, rfl, h20⟩ := hp10
  refine stepD_call rfl rfl rfl rfl rfl rfl hst (Rat_Den hst.agree hc) (fun _ _ h hle => St.older h (Mem.le.trans hlesum hle) (by simp) hst0.ext hst0.le) ?_
  clear hst
  intro v11 g11 w11 hst hle11 hcs11 hp11
  replace hlesum := Mem.le.trans hlesum hle11
  replace ha := ha.mono hle11
  replace hb := hb.mono hle11
  replace hc := hc.mono hle11
  replace h10 := h10.mono hle11
  replace h11 := h11.mono hle11
  replace h14 := h14.mono hle11
  replace h15 := h15.mono hle11
  replace h20 := h20.mono hle11
  obtain ⟨p22, q22, a22, rfl, h22⟩ := hp11
  refine stepD_call rfl rfl rfl rfl rfl rfl hst (Rat_Cmp hst.agree h20 h22 (zx.denI.fit (by omega)) (zy.denI.fit (by omega))) (fun _ _ h hle => St.older h (Mem.le.trans hlesum hle) (by simp) hst0.ext hst0.le) ?_
  clear hst
  intro v12 g12 w12 hst hle12 hcs12 hp12
  replace hlesum := Mem.le.trans hlesum hle12
  replace ha := ha.mono hle12
  replace hb := hb.mono hle12
  replace hc := hc.mono hle12
  replace h10 := h10.mono hle12
  replace h11 := h11.mono hle12
  replace h14 := h14.mono hle12
  replace h15 := h15.mono hle12
  replace h20 := h20.mono hle12
  replace h22 := h22.mono hle12
  obtain rfl := hp12
  refine stepD_d rfl rfl rfl rfl (does_assign rfl rfl) ?_
  refine stepD_tail ?_
  refine znq ?_
  refine zsr ?_
  refine zM rfl hst rfl ?_
  refine stepK_d rfl rfl rfl hst (does_eql rfl rfl rfl) ?_
  refine znt ?_
  refine cp_if rfl ?_ ?_
  intro c25
  refine cp_region ?_
  refine stepK_d rfl rfl rfl hst (does_load_ownN 1 rfl (by kernel_rfl) zf31 rfl rfl rfl) ?_
  refine stepK_d rfl rfl rfl hst (does_load_ownN 2 rfl (by kernel_rfl) zf31 rfl rfl rfl) ?_
  refine stepK_call rfl rfl rfl rfl rfl hst (Rat_Cmp hst.agree hb hc fx fy) ?_
  clear hst
  intro v13 g13 w13 hst hle13 hcs13 hp13
  replace ha := ha.mono hle13
  replace hb := hb.mono hle13
  replace hc := hc.mono hle13
  replace h10 := h10.mono hle13
  replace h11 := h11.mono hle13
  replace h14 := h14.mono hle13
  replace h15 := h15.mono hle13
  replace h20 := h20.mono hle13
  replace h22 := h22.mono hle13
  obtain rfl := hp13
  refine zA rfl hst rfl ?_
  refine znq ?_
  refine zsr ?_
  refine zM rfl hst rfl ?_
  refine stepK_d rfl rfl rfl hst (does_gtr rfl rfl rfl) ?_
  refine znt ?_
  refine cp_if rfl ?_ ?_
  intro c30
  refine zsr ?_
  refine stepK_d rfl rfl rfl hst (does_load_ownN 2 rfl (by kernel_rfl) zf31 rfl rfl rfl) ?_
  refine stepK_store 3 rfl rfl rfl rfl rfl rfl zf31 rfl rfl hst rfl (by first | (simp [uN_length]; omega) | simp) ?_
  clear hst
  intro w14 hst
  simp only [zL, splice, Nat.reduceAdd] at hst
  refine zn5 ?_
  refine ret1c (k := 3) rfl rfl (by kernel_rfl) (by kernel_rfl) rfl hst rfl ?_
  first
  | (rw [nearR_b (by rw [nearC_3 c18 c25]; exact c30)]; exact ⟨_, _, _, rfl, hc⟩)
  | (rw [nearR_a (by rw [nearC_3 c18 c25]; exact c30)]; exact ⟨_, _, _, rfl, hb⟩)
  | (rw [nearR_b (by rw [nearC_2 c18 c25]; exact c30)]; exact ⟨_, _, _, rfl, hc⟩)
  | (rw [nearR_a (by rw [nearC_2 c18 c25]; exact c30)]; exact ⟨_, _, _, rfl, hb⟩)
  | (rw [nearR_b (by rw [nearC_1 c18]; exact c30)]; exact ⟨_, _, _, rfl, hc⟩)
  | (rw [nearR_a (by rw [nearC_1 c18]; exact c30)]; exact ⟨_, _, _, rfl, hb⟩)
  | exact absurd c25 c18
  intro c30
  refine zk4 ?_
  refine stepK_d rfl rfl rfl hst (does_load_ownN 1 rfl (by kernel_rfl) zf31 rfl rfl rfl) ?_
  refine stepK_store 3 rfl rfl rfl rfl rfl rfl zf31 rfl rfl hst rfl (by first | (simp [uN_length]; omega) | simp) ?_
  clear hst
  intro w15 hst
  simp only [zL, splice, Nat.reduceAdd] at hst
  refine znt ?_
  refine cp_ret ?_
  refine ret1c (k := 3) rfl rfl (by kernel_rfl) (by kernel_rfl) rfl hst rfl ?_
  first
  | (rw [nearR_b (by rw [nearC_3 c18 c25]; exact c30)]; exact ⟨_, _, _, rfl, hc⟩)
  | (rw [nearR_a (by rw [nearC_3 c18 c25]; exact c30)]; exact ⟨_, _, _, rfl, hb⟩)
  | (rw [nearR_b (by rw [nearC_2 c18 c25]; exact c30)]; exact ⟨_, _, _, rfl, hc⟩)
  | (rw [nearR_a (by rw [nearC_2 c18 c25]; exact c30)]; exact ⟨_, _, _, rfl, hb⟩)
  | (rw [nearR_b (by rw [nearC_1 c18]; exact c30)]; exact ⟨_, _, _, rfl, hc⟩)
  | (rw [nearR_a (by rw [nearC_1 c18]; exact c30)]; exact ⟨_, _, _, rfl, hb⟩)
  | exact absurd c25 c18
  intro c25
  refine cp_skip ?_
  refine cp_then ?_
  refine cp_seq ?_
  refine zsr ?_
  refine zM rfl hst rfl ?_
  refine stepK_d rfl rfl rfl hst (does_gtr rfl rfl rfl) ?_
  refine znt ?_
  refine cp_if rfl ?_ ?_
  intro c30
  refine zsr ?_
  refine stepK_d rfl rfl rfl hst (does_load_ownN 2 rfl (by kernel_rfl) zf31 rfl rfl rfl) ?_
  refine stepK_store 3 rfl rfl rfl rfl rfl rfl zf31 rfl rfl hst rfl (by first | (simp [uN_length]; omega) | simp) ?_
  clear hst
  intro w16 hst
  simp only [zL, splice, Nat.reduceAdd] at hst
  refine zn5 ?_
  refine ret1c (k := 3) rfl rfl (by kernel_rfl) (by kernel_rfl) rfl hst rfl ?_
  first
  | (rw [nearR_b (by rw [nearC_3 c18 c25]; exact c30)]; exact ⟨_, _, _, rfl, hc⟩)
  | (rw [nearR_a (by rw [nearC_3 c18 c25]; exact c30)]; exact ⟨_, _, _, rfl, hb⟩)
  | (rw [nearR_b (by rw [nearC_2 c18 c25]; exact c30)]; exact ⟨_, _, _, rfl, hc⟩)
  | (rw [nearR_a (by rw [nearC_2 c18 c25]; exact c30)]; exact ⟨_, _, _, rfl, hb⟩)
  | (rw [nearR_b (by rw [nearC_1 c18]; exact c30)]; exact ⟨_, _, _, rfl, hc⟩)
  | (rw [nearR_a (by rw [nearC_1 c18]; exact c30)]; exact ⟨_, _, _, rfl, hb⟩)
  | exact absurd c25 c18
  intro c30
  refine zk4 ?_
  refine stepK_d rfl rfl rfl hst (does_load_ownN 1 rfl (by kernel_rfl) zf31 rfl rfl rfl) ?_
  refine stepK_store 3 rfl rfl rfl rfl rfl rfl zf31 rfl rfl hst rfl (by first | (simp [uN_length]; omega) | simp) ?_
  clear hst
  intro w17 hst
  simp only [zL, splice, Nat.reduceAdd] at hst
  refine znt ?_
  refine cp_ret ?_
  refine ret1c (k := 3) rfl rfl (by kernel_rfl) (by kernel_rfl) rfl hst rfl ?_
  first
  | (rw [nearR_b (by rw [nearC_3 c18 c25]; exact c30)]; exact ⟨_, _, _, rfl, hc⟩)
  | (rw [nearR_a (by rw [nearC_3 c18 c25]; exact c30)]; exact ⟨_, _, _, rfl, hb⟩)
  | (rw [nearR_b (by rw [nearC_2 c18 c25]; exact c30)]; exact ⟨_, _, _, rfl, hc⟩)
  | (rw [nearR_a (by rw [nearC_2 c18 c25]; exact c30)]; exact ⟨_, _, _, rfl, hb⟩)
  | (rw [nearR_b (by rw [nearC_1 c18]; exact c30)]; exact ⟨_, _, _, rfl, hc⟩)
  | (rw [nearR_a (by rw [nearC_1 c18]; exact c30)]; exact ⟨_, _, _, rfl, hb⟩)
  | exact absurd c25 c18
  intro c18
  refine cp_skip ?_
  refine cp_then ?_
  refine cp_seq ?_
  refine zsr ?_
  refine zM rfl hst rfl ?_
  refine stepK_d rfl rfl rfl hst (does_eql rfl rfl rfl) ?_
  refine znt ?_
  refine cp_if rfl ?_ ?_
  intro c25
  refine cp_region ?_
  refine stepK_d rfl rfl rfl hst (does_load_ownN 1 rfl (by kernel_rfl) zf31 rfl rfl rfl) ?_
  refine stepK_d rfl rfl rfl hst (does_load_ownN 2 rfl (by kernel_rfl) zf31 rfl rfl rfl) ?_
  refine stepK_call rfl rfl rfl rfl rfl hst (Rat_Cmp hst.agree hb hc fx fy) ?_
  clear hst
  intro v18 g18 w18 hst hle18 hcs18 hp18
  replace ha := ha.mono hle18
  replace hb := hb.mono hle18
  replace hc := hc.mono hle18
  replace h10 := h10.mono hle18
  replace h11 := h11.mono hle18
  replace h14 := h14.mono hle18
  replace h15 := h15.mono hle18
  obtain rfl := hp18
  refine zA rfl hst rfl ?_
  refine znq ?_
  refine zsr ?_
  refine zM rfl hst rfl ?_
  refine stepK_d rfl rfl rfl hst (does_gtr rfl rfl rfl) ?_
  refine znt ?_
  refine cp_if rfl ?_ ?_
  intro c30
  refine zsr ?_
  refine stepK_d rfl rfl rfl hst (does_load_ownN 2 rfl (by kernel_rfl) zf31 rfl rfl rfl) ?_
  refine stepK_store 3 rfl rfl rfl rfl rfl rfl zf31 rfl rfl hst rfl (by first | (simp [uN_length]; omega) | simp) ?_
  clear hst
  intro w19 hst
  simp only [zL, splice, Nat.reduceAdd] at hst
  refine zn5 ?_
  refine ret1c (k := 3) rfl rfl (by kernel_rfl) (by kernel_rfl) rfl hst rfl ?_
  first
  | (rw [nearR_b (by rw [nearC_3 c18 c25]; exact c30)]; exact ⟨_, _, _, rfl, hc⟩)
  | (rw [nearR_a (by rw [nearC_3 c18 c25]; exact c30)]; exact ⟨_, _, _, rfl, hb⟩)
  | (rw [nearR_b (by rw [nearC_2 c18 c25]; exact c30)]; exact ⟨_, _, _, rfl, hc⟩)
  | (rw [nearR_a (by rw [nearC_2 c18 c25]; exact c30)]; exact ⟨_, _, _, rfl, hb⟩)
  | (rw [nearR_b (by rw [nearC_1 c18]; exact c30)]; exact ⟨_, _, _, rfl, hc⟩)
  | (rw [nearR_a (by rw [nearC_1 c18]; exact c30)]; exact ⟨_, _, _, rfl, hb⟩)
  | exact absurd c25 c18
  intro c30
  refine zk4 ?_
  refine stepK_d rfl rfl rfl hst (does_load_ownN 1 rfl (by kernel_rfl) zf31 rfl rfl rfl) ?_
  refine stepK_store 3 rfl rfl rfl rfl rfl rfl zf31 rfl rfl hst rfl (by first | (simp [uN_length]; omega) | simp) ?_
  clear hst
  intro w20 hst
  simp only [zL, splice, Nat.reduceAdd] at hst
  refine znt ?_
  refine cp_ret ?_
  refine ret1c (k := 3) rfl rfl (by kernel_rfl) (by kernel_rfl) rfl hst rfl ?_
  first
  | (rw [nearR_b (by rw [nearC_3 c18 c25]; exact c30)]; exact ⟨_, _, _, rfl, hc⟩)
  | (rw [nearR_a (by rw [nearC_3 c18 c25]; exact c30)]; exact ⟨_, _, _, rfl, hb⟩)
  | (rw [nearR_b (by rw [nearC_2 c18 c25]; exact c30)]; exact ⟨_, _, _, rfl, hc⟩)
  | (rw [nearR_a (by rw [nearC_2 c18 c25]; exact c30)]; exact ⟨_, _, _, rfl, hb⟩)
  | (rw [nearR_b (by rw [nearC_1 c18]; exact c30)]; exact ⟨_, _, _, rfl, hc⟩)
  | (rw [nearR_a (by rw [nearC_1 c18]; exact c30)]; exact ⟨_, _, _, rfl, hb⟩)
  | exact absurd c25 c18
  intro c25
  refine cp_skip ?_
  refine cp_then ?_
  refine cp_seq ?_
  refine zsr ?_
  refine zM rfl hst rfl ?_
  refine stepK_d rfl rfl rfl hst (does_gtr rfl rfl rfl) ?_
  refine znt ?_
  refine cp_if rfl ?_ ?_
  intro c30
  refine zsr ?_
  refine stepK_d rfl rfl rfl hst (does_load_ownN 2 rfl (by kernel_rfl) zf31 rfl rfl rfl) ?_
  refine stepK_store 3 rfl rfl rfl rfl rfl rfl zf31 rfl rfl hst rfl (by first | (simp [uN_length]; omega) | simp) ?_
  clear hst
  intro w21 hst
  simp only [zL, splice, Nat.reduceAdd] at hst
  refine zn5 ?_
  refine ret1c (k := 3) rfl rfl (by kernel_rfl) (by kernel_rfl) rfl hst rfl ?_
  first
  | (rw [nearR_b (by rw [nearC_3 c18 c25]; exact c30)]; exact ⟨_, _, _, rfl, hc⟩)
  | (rw [nearR_a (by rw [nearC_3 c18 c25]; exact c30)]; exact ⟨_, _, _, rfl, hb⟩)
  | (rw [nearR_b (by rw [nearC_2 c18 c25]; exact c30)]; exact ⟨_, _, _, rfl, hc⟩)
  | (rw [nearR_a (by rw [nearC_2 c18 c25]; exact c30)]; exact ⟨_, _, _, rfl, hb⟩)
  | (rw [nearR_b (by rw [nearC_1 c18]; exact c30)]; exact ⟨_, _, _, rfl, hc⟩)
  | (rw [nearR_a (by rw [nearC_1 c18]; exact c30)]; exact ⟨_, _, _, rfl, hb⟩)
  | exact absurd c25 c18
  intro c30
  refine zk4 ?_
  refine stepK_d rfl rfl rfl hst (does_load_ownN 1 rfl (by kernel_rfl) zf31 rfl rfl rfl) ?_
  refine stepK_store 3 rfl rfl rfl rfl rfl rfl zf31 rfl rfl hst rfl (by first | (simp [uN_length]; omega) | simp) ?_
  clear hst
  intro w22 hst
  simp only [zL, splice, Nat.reduceAdd] at hst
  refine znt ?_
  refine cp_ret ?_
  refine ret1c (k := 3) rfl rfl (by kernel_rfl) (by kernel_rfl) rfl hst rfl ?_
  first
  | (rw [nearR_b (by rw [nearC_3 c18 c25]; exact c30)]; exact ⟨_, _, _, rfl, hc⟩)
  | (rw [nearR_a (by rw [nearC_3 c18 c25]; exact c30)]; exact ⟨_, _, _, rfl, hb⟩)
  | (rw [nearR_b (by rw [nearC_2 c18 c25]; exact c30)]; exact ⟨_, _, _, rfl, hc⟩)
  | (rw [nearR_a (by rw [nearC_2 c18 c25]; exact c30)]; exact ⟨_, _, _, rfl, hb⟩)
  | (rw [nearR_b (by rw [nearC_1 c18]; exact c30)]; exact ⟨_, _, _, rfl, hc⟩)
  | (rw [nearR_a (by rw [nearC_1 c18]; exact c30)]; exact ⟨_, _, _, rfl, hb⟩)
  | exact absurd c25 c18

end Go.Proofs.YtnbcedkpkcgmkaaGreatDoor

namespace Go.Proofs.YtnbcedkpkcgmkaaGreatDoor
open Go Go.RowKit Go.Proofs.Vc
set_option linter.unusedVariables false
set_option linter.unusedSimpArgs false

set_option maxHeartbeats 8000000 in
theorem nearest_Best {g : Mem} {w : World} (hag : Agree g w) (hT : TabG Tryz.prog g) {a b : ByteArray} (ha : a.size ≤ 60) (hb : b.size ≤ 60) :
    CallTo Tryz.prog 30 #[.string a, .string b] w (Ret w g fun v g => ∃ s e, v = .tuple #[.string s, .int .i64 e] ∧ BestPost a b s e) := by
  refine CallTo.enter (vs := [.string a, .string b]) zf159 (by kernel_rfl) rfl rfl rfl ?_
  have hst := St.init hag
  have sx := (getR_sz a).mono (m := 61) (by omega)
  have fx := sx.fit (by decide)
  have sy := (getR_sz b).mono (m := 61) (by omega)
  have fy := sy.fit (by decide)
  have hlen := cf_len_sz sx
  refine zsr ?_
  refine zA rfl hst rfl ?_
  refine zA rfl hst rfl ?_
  refine zn4 ?_
  refine zM rfl hst rfl ?_
  refine stepK_call rfl rfl rfl rfl rfl hst (num_Of hst.agree (by omega)) ?_
  clear hst
  intro v1 g1 w1 hst hle1 hcs1 hp1
  replace hT := hT.mono hle1
  obtain ⟨p6, q6, a6, rfl, h6⟩ := hp1
  refine zM rfl hst rfl ?_
  refine zE rfl hst rfl rfl ?_
  refine zE rfl hst rfl rfl ?_
  refine stepK_alloc rfl rfl rfl rfl zf29 rfl hst ?_
  clear hst
  intro b6 w2 hst
  refine stepK_store 0 rfl rfl rfl rfl rfl rfl zf31 rfl rfl hst rfl (by first | (simp [uN_length]; omega) | simp) ?_
  clear hst
  intro w3 hst
  simp only [zL, splice, Nat.reduceAdd] at hst
  refine zA rfl hst rfl ?_
  refine zn4 ?_
  refine zM rfl hst rfl ?_
  refine stepK_call rfl rfl rfl rfl rfl hst (num_Of hst.agree (by omega)) ?_
  clear hst
  intro v4 g4 w4 hst hle4 hcs4 hp4
  replace hT := hT.mono hle4
  replace h6 := h6.mono hle4
  obtain ⟨p8, q8, a8, rfl, h8⟩ := hp4
  refine zM rfl hst rfl ?_
  refine zE rfl hst rfl rfl ?_
  refine zE rfl hst rfl rfl ?_
  refine stepK_alloc rfl rfl rfl rfl zf29 rfl hst ?_
  clear hst
  intro b8 w5 hst
  refine stepK_store 1 rfl rfl rfl rfl rfl rfl zf31 rfl rfl hst rfl (by first | (simp [uN_length]; omega) | simp) ?_
  clear hst
  intro w6 hst
  simp only [zL, splice, Nat.reduceAdd] at hst
  refine zA rfl hst rfl ?_
  refine znq ?_
  refine cp_block ?_
  refine zsr ?_
  refine zM rfl hst rfl ?_
  refine stepK_d rfl rfl rfl hst (does_not rfl rfl) ?_
  refine zM rfl hst rfl ?_
  refine wpK_splitb (t := 30) rfl ?_ ?_
  intro s30
  have hno : ¬ ((readR a).isSome ∧ (readR b).isSome) := fun h => by rw [h.1] at s30; cases s30
  refine stepK_pass rfl rfl rfl rfl rfl rfl rfl ?_
  refine stepK_pass rfl rfl rfl rfl rfl rfl rfl ?_
  refine stepK_d rfl rfl rfl hst (does_pick_true rfl rfl rfl) ?_
  refine zA rfl hst rfl ?_
  refine znt ?_
  refine cp_cond_true rfl ?_
  refine zsr ?_
  refine zA rfl hst rfl ?_
  refine zA rfl hst rfl ?_
  refine znt ?_
  refine cp_ret ?_
  refine at_block_ret ?_
  refine at_then_ret ?_
  refine ret2 rfl rfl rfl hst ?_
  exact ⟨_, _, rfl, bp_bad hno⟩
  intro s30
  have hs1 : (readR a).isSome = true := by simpa using s30
  refine stepK_guard rfl rfl rfl rfl rfl rfl hst (does_move rfl rfl) ?_
  refine stepK_guard rfl rfl rfl rfl rfl rfl hst (does_not rfl rfl) ?_
  refine stepK_d rfl rfl rfl hst (does_pick_false rfl rfl rfl) ?_
  refine zA rfl hst rfl ?_
  refine znt ?_
  refine cp_cond rfl ?_ ?_
  intro c27
  have hno : ¬ ((readR a).isSome ∧ (readR b).isSome) := fun h => by first | (rw [h.2] at c27; cases c27; done) | (rw [h.1] at c27; cases c27; done)
  refine zsr ?_
  refine zA rfl hst rfl ?_
  refine zA rfl hst rfl ?_
  refine znt ?_
  refine cp_ret ?_
  refine at_block_ret ?_
  refine at_then_ret ?_
  refine ret2 rfl rfl rfl hst ?_
  exact ⟨_, _, rfl, bp_bad hno⟩
  intro c27
  have hs2 : (readR b).isSome = true := by simpa using c27
  refine zsr ?_
  refine stepK_d rfl rfl rfl hst (does_load_ownN 1 rfl (by kernel_rfl) zf31 rfl rfl rfl) ?_
  refine stepK_call rfl rfl rfl rfl rfl hst (Rat_IsInt hst.agree h8 fy) ?_
  clear hst
  intro v7 g7 w7 hst hle7 hcs7 hp7
  replace hT := hT.mono hle7
  replace h6 := h6.mono hle7
  replace h8 := h8.mono hle7
  obtain rfl := hp7
  refine stepK_d rfl rfl rfl hst (does_not rfl rfl) ?_
  refine zM rfl hst rfl ?_
  refine wpK_splitb (t := 38) rfl ?_ ?_
  intro s38
  have hrg : ¬ ((getR b).den = 1 ∧ 0 < getR b) := fun h => by rw [decide_eq_true h.1] at s38; cases s38
  refine stepK_pass rfl rfl rfl rfl rfl rfl rfl ?_
  refine stepK_pass rfl rfl rfl rfl rfl rfl rfl ?_
  refine stepK_pass rfl rfl rfl rfl rfl rfl rfl ?_
  refine stepK_d rfl rfl rfl hst (does_pick_true rfl rfl rfl) ?_
  refine zA rfl hst rfl ?_
  refine znt ?_
  refine cp_cond_true rfl ?_
  refine zsr ?_
  refine zA rfl hst rfl ?_
  refine zA rfl hst rfl ?_
  refine znt ?_
  refine cp_ret ?_
  refine at_block_ret ?_
  refine at_then_ret ?_
  refine ret2 rfl rfl rfl hst ?_
  exact ⟨_, _, rfl, bp_range ⟨hs1, hs2⟩ hrg⟩
  intro s38
  have hd1 : (getR b).den = 1 := of_decide_eq_true (by simpa using s38)
  refine stepK_guard rfl rfl rfl rfl rfl rfl hst (does_load_ownN 1 rfl (by kernel_rfl) zf31 rfl rfl rfl) ?_
  refine stepK_call_guard rfl rfl rfl rfl rfl rfl rfl rfl hst (Rat_Sign hst.agree h8) ?_
  clear hst
  intro v8 g8 w8 hst hle8 hcs8 hp8
  replace hT := hT.mono hle8
  replace h6 := h6.mono hle8
  replace h8 := h8.mono hle8
  obtain rfl := hp8
  refine stepK_guard rfl rfl rfl rfl rfl rfl hst (does_leq rfl rfl rfl) ?_
  refine stepK_d rfl rfl rfl hst (does_pick_false rfl rfl rfl) ?_
  refine zA rfl hst rfl ?_
  refine znt ?_
  refine cp_if rfl ?_ ?_
  intro c34
  have hrg : ¬ ((getR b).den = 1 ∧ 0 < getR b) := fun h => by first | assumption | exact sgn_nonpos.1 c34 h.2
  refine zsr ?_
  refine zA rfl hst rfl ?_
  refine zA rfl hst rfl ?_
  refine znt ?_
  refine cp_ret ?_
  refine at_block_ret ?_
  refine at_then_ret ?_
  refine ret2 rfl rfl rfl hst ?_
  exact ⟨_, _, rfl, bp_range ⟨hs1, hs2⟩ hrg⟩
  intro c34
  obtain ⟨L, hL0, hLe⟩ := nat_of hd1 (Decidable.byContradiction fun h => c34 (sgn_nonpos.2 h))
  rw [hLe] at h8 fy sy
  refine cp_seq ?_
  refine cp_drawn (by kernel_rfl) 6 [(0, true), (2, true), (1, false), (3, false), (4, true), (5, true)] _ rfl (by kernel_rfl) (by kernel_rfl) (by kernel_rfl) (fun _ _ _ _ _ h => h) _ (hst.drew) ?_
  have hst0 := hst.drew
  clear hst
  have hst := hst0
  refine stepD_d rfl rfl rfl rfl (does_load_ownN 0 rfl (by kernel_rfl) zf31 rfl rfl rfl) ?_
  refine stepD_d rfl rfl rfl rfl (does_load_ownN 1 rfl (by kernel_rfl) zf31 rfl rfl rfl) ?_
  refine stepD_call rfl rfl rfl rfl rfl rfl hst (Rat_Den hst.agree h6) (fun _ _ h hle => St.older h hle (by simp) hst0.ext hst0.le) ?_
  clear hst
  intro v9 g9 w9 hst hle9 hcs9 hp9
  have hlesum := hle9
  replace hT := hT.mono hle9
  replace h6 := h6.mono hle9
  replace h8 := h8.mono hle9
  obtain ⟨p45, q45, a45, rfl, h45⟩ := hp9
  refine stepD_call rfl rfl rfl rfl rfl rfl hst (Rat_Cmp hst.agree h45 h8 (sx.denI.fit (by decide)) fy) (fun _ _ h hle => St.older h (Mem.le.trans hlesum hle) (by simp) hst0.ext hst0.le) ?_
  clear hst
  intro v10 g10 w10 hst hle10 hcs10 hp10
  replace hlesum := Mem.le.trans hlesum hle10
  replace hT := hT.mono hle10
  replace h6 := h6.mono hle10
  replace h8 := h8.mono hle10
  replace h45 := h45.mono hle10
  obtain rfl := hp10
  refine stepD_d rfl rfl rfl rfl (does_leq rfl rfl rfl) ?_
  refine stepD_d rfl rfl rfl rfl (does_assign rfl rfl) ?_
  refine stepD_tail ?_
  refine znt ?_
  refine cp_if rfl ?_ ?_
  intro c43
  have hle : (getR a).den ≤ L := by have := Rat.intCast_le_intCast.1 (sgn_le.1 c43); omega
  refine zsr ?_
  refine stepK_d rfl rfl rfl hst (does_load_ownN 0 rfl (by kernel_rfl) zf31 rfl rfl rfl) ?_
  refine stepK_call rfl rfl rfl rfl rfl hst (Rat_String hst.agree hT h6 fx) ?_
  clear hst
  intro v11 g11 w11 hst hle11 hcs11 hp11
  replace hT := hT.mono hle11
  replace h6 := h6.mono hle11
  replace h8 := h8.mono hle11
  replace h45 := h45.mono hle11
  obtain rfl := hp11
  refine zA rfl hst rfl ?_
  refine zA rfl hst rfl ?_
  refine znt ?_
  refine cp_ret ?_
  refine at_block_ret ?_
  refine at_then_ret ?_
  refine ret2 rfl rfl rfl hst ?_
  exact ⟨_, _, rfl, bp_ok ⟨hs1, hs2⟩ hL0 hLe (BestIs.own hle)⟩
  intro c43
  have hgt : L < (getR a).den := by
    rcases Nat.lt_or_ge L (getR a).den with h | h
    exact h
    exact absurd (sgn_le.2 (Rat.intCast_le_intCast.2 (show (((getR a).den : Nat) : Int) ≤ (L : Int) by omega))) c43
  refine cp_skip ?_
  refine at_block_normal ?_
  refine cp_then ?_
  refine zsr ?_
  refine stepK_call rfl rfl rfl rfl rfl hst (num_Int hst.agree (by decide) (by decide)) ?_
  clear hst
  intro v12 g12 w12 hst hle12 hcs12 hp12
  replace hT := hT.mono hle12
  replace h6 := h6.mono hle12
  replace h8 := h8.mono hle12
  replace h45 := h45.mono hle12
  obtain ⟨p0, q0, a0, rfl, h0⟩ := hp12
  refine stepK_call rfl rfl rfl rfl rfl hst (num_Int hst.agree (by decide) (by decide)) ?_
  clear hst
  intro v13 g13 w13 hst hle13 hcs13 hp13
  replace hT := hT.mono hle13
  replace h6 := h6.mono hle13
  replace h8 := h8.mono hle13
  replace h45 := h45.mono hle13
  replace h0 := h0.mono hle13
  obtain ⟨p1, q1, a1, rfl, h1⟩ := hp13
  refine stepK_call rfl rfl rfl rfl rfl hst (num_Int hst.agree (by decide) (by decide)) ?_
  clear hst
  intro v14 g14 w14 hst hle14 hcs14 hp14
  replace hT := hT.mono hle14
  replace h6 := h6.mono hle14
  replace h8 := h8.mono hle14
  replace h45 := h45.mono hle14
  replace h0 := h0.mono hle14
  replace h1 := h1.mono hle14
  obtain ⟨p2, q2, a2, rfl, h2⟩ := hp14
  refine stepK_call rfl rfl rfl rfl rfl hst (num_Int hst.agree (by decide) (by decide)) ?_
  clear hst
  intro v15 g15 w15 hst hle15 hcs15 hp15
  replace hT := hT.mono hle15
  replace h6 := h6.mono hle15
  replace h8 := h8.mono hle15
  replace h45 := h45.mono hle15
  replace h0 := h0.mono hle15
  replace h1 := h1.mono hle15
  replace h2 := h2.mono hle15
  obtain ⟨p3, q3, a3, rfl, h3⟩ := hp15
  refine stepK_alloc rfl rfl rfl rfl zf29 rfl hst ?_
  clear hst
  intro b0 w16 hst
  refine stepK_alloc rfl rfl rfl rfl zf29 rfl hst ?_
  clear hst
  intro b1 w17 hst
  refine stepK_alloc rfl rfl rfl rfl zf29 rfl hst ?_
  clear hst
  intro b2 w18 hst
  refine stepK_alloc rfl rfl rfl rfl zf29 rfl hst ?_
  clear hst
  intro b3 w19 hst
  refine stepK_store 2 rfl rfl rfl rfl rfl rfl zf31 rfl rfl hst rfl (by first | (simp [uN_length]; omega) | simp) ?_
  clear hst
  intro w20 hst
  simp only [zL, splice, Nat.reduceAdd] at hst
  refine stepK_store 3 rfl rfl rfl rfl rfl rfl zf31 rfl rfl hst rfl (by first | (simp [uN_length]; omega) | simp) ?_
  clear hst
  intro w21 hst
  simp only [zL, splice, Nat.reduceAdd] at hst
  refine stepK_store 4 rfl rfl rfl rfl rfl rfl zf31 rfl rfl hst rfl (by first | (simp [uN_length]; omega) | simp) ?_
  clear hst
  intro w22 hst
  simp only [zL, splice, Nat.reduceAdd] at hst
  refine stepK_store 5 rfl rfl rfl rfl rfl rfl zf31 rfl rfl hst rfl (by first | (simp [uN_length]; omega) | simp) ?_
  clear hst
  intro w23 hst
  simp only [zL, splice, Nat.reduceAdd] at hst
  refine znq ?_
  refine zsr ?_
  refine stepK_d rfl rfl rfl hst (does_load_ownN 0 rfl (by kernel_rfl) zf31 rfl rfl rfl) ?_
  refine stepK_call rfl rfl rfl rfl rfl hst (nearest_quotients hst.agree h6 sx (by decide)) ?_
  clear hst
  intro v24 g24 w24 hst hle24 hcs24 hp24
  replace hT := hT.mono hle24
  replace h6 := h6.mono hle24
  replace h8 := h8.mono hle24
  replace h45 := h45.mono hle24
  replace h0 := h0.mono hle24
  replace h1 := h1.mono hle24
  replace h2 := h2.mono hle24
  replace h3 := h3.mono hle24
  obtain ⟨Aq, cq, rfl, hcq, hs⟩ := hp24
  refine stepK_d rfl rfl rfl hst (does_len_slice rfl zf142 rfl) ?_
  refine zM rfl hst rfl ?_
  refine znt ?_
  refine cp_block ?_
  refine cp_loop (ι := Nat × (Int × Int × Option Addr) × (Int × Int × Option Addr) × (Int × Int × Option Addr) × (Int × Int × Option Addr)) (fun (i, (p0, q0, a0), (p1, q1, a1), (p2, q2, a2), (p3, q3, a3)) => [(6, .pointer (some ⟨b6, 0, none⟩)), (8, .pointer (some ⟨b8, 0, none⟩)), (10, .pointer (some ⟨b0, 0, none⟩)), (11, .pointer (some ⟨b1, 0, none⟩)), (12, .pointer (some ⟨b2, 0, none⟩)), (13, .pointer (some ⟨b3, 0, none⟩)), (56, .slice Aq (cf (getR a)).length cq), (57, .int .i64 ((cf (getR a)).length : Int)), (58, .int .i64 (i : Int))]) (fun (i, (p0, q0, a0), (p1, q1, a1), (p2, q2, a2), (p3, q3, a3)) w1 => ∃ g1, St w [] g g1 [(b6, .cells #[.int .i64 p6, .int .i64 q6, .pointer a6] 63 (0, 0)), (b8, .cells #[.int .i64 p8, .int .i64 q8, .pointer a8] 63 (0, 0)), (b0, .cells #[.int .i64 p0, .int .i64 q0, .pointer a0] 63 (0, 0)), (b1, .cells #[.int .i64 p1, .int .i64 q1, .pointer a1] 63 (0, 0)), (b2, .cells #[.int .i64 p2, .int .i64 q2, .pointer a2] 63 (0, 0)), (b3, .cells #[.int .i64 p3, .int .i64 q3, .pointer a3] 63 (0, 0))] w1 ∧ TabG Tryz.prog g1 ∧ RatS g1 Aq (cf (getR a)).length (cfR (getR a)) ∧ IsRat g1 p6 q6 a6 (getR a) ∧ IsRat g1 p8 q8 a8 (((L : Int) : Rat)) ∧ IsRat g1 p0 q0 a0 ((cvS (cf (getR a)) i).n0 : Rat) ∧ IsRat g1 p1 q1 a1 ((cvS (cf (getR a)) i).d0 : Rat) ∧ IsRat g1 p2 q2 a2 ((cvS (cf (getR a)) i).n1 : Rat) ∧ IsRat g1 p3 q3 a3 ((cvS (cf (getR a)) i).d1 : Rat) ∧ i ≤ (cf (getR a)).length ∧ (cvS (cf (getR a)) i).d0 ≤ (L : Int) ∧ (cvS (cf (getR a)) i).d1 ≤ (L : Int)) (fun (i, (p0, q0, a0), (p1, q1, a1), (p2, q2, a2), (p3, q3, a3)) => (cf (getR a)).length - i) (0, (p0, q0, a0), (p1, q1, a1), (p2, q2, a2), (p3, q3, a3)) ?k25 ?i25 ?r25
  case k25 => exact ⟨rfl, rfl, rfl, rfl, rfl, rfl, rfl, rfl, rfl, trivial⟩
  case i25 =>
    exact ⟨_, hst, hT, hs, h6, h8, h0, h1, h2, h3, Nat.zero_le _, by show (1 : Int) ≤ L; omega, by show (0 : Int) ≤ L; omega⟩
  case r25 =>
    clear hst
    clear hs hT h6 h8 h0 h1 h2 h3
    rintro ⟨i, ⟨p0, q0, a0⟩, ⟨p1, q1, a1⟩, ⟨p2, q2, a2⟩, ⟨p3, q3, a3⟩⟩ w1 ⟨g1, hst, hT, hs, h6, h8, h0, h1, h2, h3, hi, hd0L, hd1L⟩
    refine zsr ?_
    refine stepK_d rfl rfl rfl hst (does_lss rfl rfl rfl) ?_
    refine znq ?_
    refine cp_if rfl ?_ ?_
    intro c59
    refine cp_skip ?_
    refine cp_then ?_
    refine cp_seq ?_
    refine cp_block ?_
    refine cp_seq ?_
    obtain ⟨b9, o9, x9, c9, e9, hx9, hlc, hRc, hcc⟩ := hs.cell (j := i) (by omega)
    subst e9
    obtain ⟨p5, q5, a5, rfl, h5⟩ := hRc
    obtain ⟨e, he, rfl, hem⟩ := cfR_get hx9
    have se := cf_sz _ sx e hem
    have fe := se.fit (by omega)
    have hB := cvS_sz (i := i) sx
    obtain ⟨s0, s1, s2, s3⟩ := hB.sz (by decide)
    have f0 := s0.fit (by omega)
    have f1 := s1.fit (by omega)
    have f2 := s2.fit (by omega)
    have f3 := s3.fit (by omega)
    have hB2 := cvS_sz (i := i + 1) sx
    obtain ⟨_, _, s22, s32⟩ := hB2.sz (by decide)
    have f32 := s32.fit (by omega)
    have hstp := cvS_step he
    refine cp_region ?_
    refine stepK_d rfl rfl rfl hst (does_indexAddr (j := i) rfl zf142 zf31 rfl rfl (by omega) (by omega)) ?_
    refine stepK_d rfl rfl rfl hst (does_load_gN rfl (by kernel_rfl) zf31 rfl rfl hcc) ?_
    refine stepK_alloc rfl rfl rfl rfl zf29 rfl hst ?_
    clear hst
    intro b5 w26 hst
    refine stepK_store 6 rfl rfl rfl rfl rfl rfl zf31 rfl rfl hst rfl (by first | (simp [uN_length]; omega) | simp) ?_
    clear hst
    intro w27 hst
    simp only [zL, splice, Nat.reduceAdd] at hst
    refine znq ?_
    refine cp_seq ?_
    refine cp_drawn (by kernel_rfl) 8 [(0, true), (1, true), (3, true), (5, true), (2, false), (4, false), (6, false), (7, true)] _ rfl (by kernel_rfl) (by kernel_rfl) (by kernel_rfl) (fun _ _ _ _ _ h => h) _ (hst.drew) ?_
    have hst0 := hst.drew
    clear hst
    have hst := hst0
    refine stepD_d rfl rfl rfl rfl (does_load_ownN 6 rfl (by kernel_rfl) zf31 rfl rfl rfl) ?_
    refine stepD_d rfl rfl rfl rfl (does_load_ownN 5 rfl (by kernel_rfl) zf31 rfl rfl rfl) ?_
    refine stepD_d rfl rfl rfl rfl (does_load_ownN 3 rfl (by kernel_rfl) zf31 rfl rfl rfl) ?_
    refine stepD_d rfl rfl rfl rfl (does_load_ownN 1 rfl (by kernel_rfl) zf31 rfl rfl rfl) ?_
    refine stepD_call rfl rfl rfl rfl rfl rfl hst (Rat_Mul hst.agree h5 h3 fe f3) (fun _ _ h hle => St.older h hle (by simp) hst0.ext hst0.le) ?_
    clear hst
    intro v28 g28 w28 hst hle28 hcs28 hp28
    have hlesum := hle28
    replace hT := hT.mono hle28
    replace hs := hs.mono hle28
    replace h6 := h6.mono hle28
    replace h8 := h8.mono hle28
    replace h0 := h0.mono hle28
    replace h1 := h1.mono hle28
    replace h2 := h2.mono hle28
    replace h3 := h3.mono hle28
    replace h5 := h5.mono hle28
    obtain ⟨p64, q64, a64, rfl, h64⟩ := hp28
    refine stepD_call rfl rfl rfl rfl rfl rfl hst (Rat_Add hst.agree h64 h1 (se.mul s3 |>.fit (by omega)) f1) (fun _ _ h hle => St.older h (Mem.le.trans hlesum hle) (by simp) hst0.ext hst0.le) ?_
    clear hst
    intro v29 g29 w29 hst hle29 hcs29 hp29
    replace hlesum := Mem.le.trans hlesum hle29
    replace hT := hT.mono hle29
    replace hs := hs.mono hle29
    replace h6 := h6.mono hle29
    replace h8 := h8.mono hle29
    replace h0 := h0.mono hle29
    replace h1 := h1.mono hle29
    replace h2 := h2.mono hle29
    replace h3 := h3.mono hle29
    replace h5 := h5.mono hle29
    replace h64 := h64.mono hle29
    obtain ⟨p66, q66, a66, rfl, h66⟩ := hp29
    rw [cv_castd, ← hstp] at h66
    refine stepD_call rfl rfl rfl rfl rfl rfl hst (Rat_Cmp hst.agree h66 h8 f32 fy) (fun _ _ h hle => St.older h (Mem.le.trans hlesum hle) (by simp) hst0.ext hst0.le) ?_
    clear hst
    intro v30 g30 w30 hst hle30 hcs30 hp30
    replace hlesum := Mem.le.trans hlesum hle30
    replace hT := hT.mono hle30
    replace hs := hs.mono hle30
    replace h6 := h6.mono hle30
    replace h8 := h8.mono hle30
    replace h0 := h0.mono hle30
    replace h1 := h1.mono hle30
    replace h2 := h2.mono hle30
    replace h3 := h3.mono hle30
    replace h5 := h5.mono hle30
    replace h64 := h64.mono hle30
    replace h66 := h66.mono hle30
    obtain rfl := hp30
    refine stepD_d rfl rfl rfl rfl (does_gtr rfl rfl rfl) ?_
    refine stepD_tail ?_
    refine znt ?_
    refine cp_if rfl ?_ ?_
    intro c69
    have hlt : (L : Int) < (cvS (cf (getR a)) (i + 1)).d1 := by
      rcases Int.lt_or_le (L : Int) (cvS (cf (getR a)) (i + 1)).d1 with h | h
      exact h
      exact absurd (sgn_le.2 (Rat.intCast_le_intCast.2 h)) (by omega)
    have hlt2 := hlt
    rw [hstp] at hlt2
    simp only [CV.step] at hlt2
    have hi0 : 0 < i := by
      rcases Nat.eq_zero_or_pos i with h | h
      subst h
      simp [cvS, CV.run, CV.start] at hlt2
      omega
      exact h
    obtain ⟨hok, hp1, _⟩ := cvS_ok (r := getR a) i (by omega)
    have hp1 := hp1 hi0
    obtain ⟨k0, k1, k2⟩ := cut_floor (L := (L : Int)) hp1 hd0L
    have szq := ((sy.sub s1).div s3)
    have szf := floor_sz szq
    obtain ⟨K, hK⟩ : ∃ K, K = (((L : Int) : Rat) - ((cvS (cf (getR a)) i).d0 : Rat)) / ((cvS (cf (getR a)) i).d1 : Rat) := ⟨_, rfl⟩
    rw [← hK] at k0 k1 k2 szq szf
    refine cp_join (ι := (Int × Int × Option Addr) × Nat) (fun ((pk, qk, ak), bk) => [(6, .pointer (some ⟨b6, 0, none⟩)), (8, .pointer (some ⟨b8, 0, none⟩)), (10, .pointer (some ⟨b0, 0, none⟩)), (11, .pointer (some ⟨b1, 0, none⟩)), (12, .pointer (some ⟨b2, 0, none⟩)), (13, .pointer (some ⟨b3, 0, none⟩)), (16, .pointer (some ⟨bk, 0, none⟩))]) (fun ((pk, qk, ak), bk) w3 => ∃ g2, St w [] g g2 [(b6, .cells #[.int .i64 p6, .int .i64 q6, .pointer a6] 63 (0, 0)), (b8, .cells #[.int .i64 p8, .int .i64 q8, .pointer a8] 63 (0, 0)), (b0, .cells #[.int .i64 p0, .int .i64 q0, .pointer a0] 63 (0, 0)), (b1, .cells #[.int .i64 p1, .int .i64 q1, .pointer a1] 63 (0, 0)), (b2, .cells #[.int .i64 p2, .int .i64 q2, .pointer a2] 63 (0, 0)), (b3, .cells #[.int .i64 p3, .int .i64 q3, .pointer a3] 63 (0, 0)), (bk, .cells #[.int .i64 pk, .int .i64 qk, .pointer ak] 63 (0, 0))] w3 ∧ TabG Tryz.prog g2 ∧ IsRat g2 p6 q6 a6 (getR a) ∧ IsRat g2 p8 q8 a8 (((L : Int) : Rat)) ∧ IsRat g2 p0 q0 a0 ((cvS (cf (getR a)) i).n0 : Rat) ∧ IsRat g2 p1 q1 a1 ((cvS (cf (getR a)) i).d0 : Rat) ∧ IsRat g2 p2 q2 a2 ((cvS (cf (getR a)) i).n1 : Rat) ∧ IsRat g2 p3 q3 a3 ((cvS (cf (getR a)) i).d1 : Rat) ∧ IsRat g2 pk qk ak ((K.floor : Rat))) ?c31 ?d31
    case c31 =>
      refine cp_drawnT (by kernel_rfl) 7 (.d 0 (.d 1 (.d 3 (.e 2 (.e 4 (.e 5 (.e 6 .fin .no) (.e 6 (.e 5 .fin .no) .no)) (.e 6 (.e 4 (.e 5 .fin .no) .no) .no)) (.e 6 (.e 2 (.e 4 (.e 5 .fin .no) .no) .no) .no))))) _ rfl (by kernel_rfl) (by kernel_rfl) (by kernel_rfl) (fun _ _ _ _ _ h => h) _ hst.drew ?_
      have hst0 := hst.drew
      have hst9 := hst.drew
      clear hst
      have hst := hst9
      clear hst9
      refine stepT_d rfl rfl rfl rfl (does_load_ownN 1 rfl (by kernel_rfl) zf31 rfl rfl rfl) ?_
      refine stepT_d rfl rfl rfl rfl (does_load_ownN 3 rfl (by kernel_rfl) zf31 rfl rfl rfl) ?_
      refine stepT_d rfl rfl rfl rfl (does_load_ownN 5 rfl (by kernel_rfl) zf31 rfl rfl rfl) ?_
      refine stepT_call rfl rfl rfl rfl rfl rfl hst0 hst (Mem.le.refl _) (by repeat (first | exact zR _ | apply zC | apply zD)) (Rat_Sub hst.agree h8 h1 fy f1) ?_ ?_
      clear hst
      intro v32 g32 w32 hst hle32 hcs32 hp32
      have hlesum := hle32
      replace hT := hT.mono hle32
      replace hs := hs.mono hle32
      replace h6 := h6.mono hle32
      replace h8 := h8.mono hle32
      replace h0 := h0.mono hle32
      replace h1 := h1.mono hle32
      replace h2 := h2.mono hle32
      replace h3 := h3.mono hle32
      replace h5 := h5.mono hle32
      replace h64 := h64.mono hle32
      replace h66 := h66.mono hle32
      obtain ⟨p72, q72, a72, rfl, h72⟩ := hp32
      refine stepT_call rfl rfl rfl rfl rfl rfl hst0 hst hlesum (by repeat (first | exact zR _ | apply zC | apply zD)) (Rat_Quo hst.agree h72 h3 ((sy.sub s1).fit (by omega)) f3) ?_ ?_
      clear hst
      intro v33 g33 w33 hst hle33 hcs33 hp33
      replace hlesum := Mem.le.trans hlesum hle33
      replace hT := hT.mono hle33
      replace hs := hs.mono hle33
      replace h6 := h6.mono hle33
      replace h8 := h8.mono hle33
      replace h0 := h0.mono hle33
      replace h1 := h1.mono hle33
      replace h2 := h2.mono hle33
      replace h3 := h3.mono hle33
      replace h5 := h5.mono hle33
      replace h64 := h64.mono hle33
      replace h66 := h66.mono hle33
      replace h72 := h72.mono hle33
      obtain ⟨p74, q74, a74, rfl, h74⟩ := hp33
      rw [← hK] at h74
      refine stepT_call rfl rfl rfl rfl rfl rfl hst0 hst hlesum (by repeat (first | exact zR _ | apply zC | apply zD)) (Rat_Floor hst.agree h74 (szq.fit (by omega))) ?_ ?_
      clear hst
      intro v34 g34 w34 hst hle34 hcs34 hp34
      replace hlesum := Mem.le.trans hlesum hle34
      replace hT := hT.mono hle34
      replace hs := hs.mono hle34
      replace h6 := h6.mono hle34
      replace h8 := h8.mono hle34
      replace h0 := h0.mono hle34
      replace h1 := h1.mono hle34
      replace h2 := h2.mono hle34
      replace h3 := h3.mono hle34
      replace h5 := h5.mono hle34
      replace h64 := h64.mono hle34
      replace h66 := h66.mono hle34
      replace h72 := h72.mono hle34
      replace h74 := h74.mono hle34
      obtain ⟨pk, qk, ak, rfl, hk⟩ := hp34
      refine stepT_alloc rfl rfl rfl rfl rfl zf29 rfl hst0 hst hlesum (by repeat (first | exact zR _ | apply zC | apply zD)) ?_ ?_
      clear hst
      intro bk w35 hst
      refine stepT_tail ?_
      refine stepK_store 7 rfl rfl rfl rfl rfl rfl zf31 rfl rfl hst rfl (by first | (simp [uN_length]; omega) | simp) ?_
      clear hst
      intro w36 hst
      simp only [zL, splice, Nat.reduceAdd] at hst
      refine wpK_nil ?_
      refine join_end (((pk, qk, ak), bk)) ?_ ?_
      exact ⟨rfl, rfl, rfl, rfl, rfl, rfl, rfl, trivial⟩
      exact ⟨_, hst.weaken _ (by first | exact List.Sublist.refl _ | simp), hT, h6, h8, h0, h1, h2, h3, hk⟩
      exact stepT_no
      refine stepT_alloc rfl rfl rfl rfl rfl zf29 rfl hst0 hst hlesum (by repeat (first | exact zR _ | apply zC | apply zD)) ?_ ?_
      clear hst
      intro bk w37 hst
      refine stepT_call rfl rfl rfl rfl rfl rfl hst0 hst hlesum (by repeat (first | exact zR _ | apply zC | apply zD)) (Rat_Floor hst.agree h74 (szq.fit (by omega))) ?_ ?_
      clear hst
      intro v38 g38 w38 hst hle38 hcs38 hp38
      replace hlesum := Mem.le.trans hlesum hle38
      replace hT := hT.mono hle38
      replace hs := hs.mono hle38
      replace h6 := h6.mono hle38
      replace h8 := h8.mono hle38
      replace h0 := h0.mono hle38
      replace h1 := h1.mono hle38
      replace h2 := h2.mono hle38
      replace h3 := h3.mono hle38
      replace h5 := h5.mono hle38
      replace h64 := h64.mono hle38
      replace h66 := h66.mono hle38
      replace h72 := h72.mono hle38
      replace h74 := h74.mono hle38
      obtain ⟨pk, qk, ak, rfl, hk⟩ := hp38
      refine stepT_tail ?_
      refine stepK_store 7 rfl rfl rfl rfl rfl rfl zf31 rfl rfl hst rfl (by first | (simp [uN_length]; omega) | simp) ?_
      clear hst
      intro w39 hst
      simp only [zL, splice, Nat.reduceAdd] at hst
      refine wpK_nil ?_
      refine join_end (((pk, qk, ak), bk)) ?_ ?_
      exact ⟨rfl, rfl, rfl, rfl, rfl, rfl, rfl, trivial⟩
      exact ⟨_, hst.weaken _ (by first | exact List.Sublist.refl _ | simp), hT, h6, h8, h0, h1, h2, h3, hk⟩
      exact stepT_no
      exact stepT_no
      refine stepT_alloc rfl rfl rfl rfl rfl zf29 rfl hst0 hst hlesum (by repeat (first | exact zR _ | apply zC | apply zD)) ?_ ?_
      clear hst
      intro bk w40 hst
      refine stepT_call rfl rfl rfl rfl rfl rfl hst0 hst hlesum (by repeat (first | exact zR _ | apply zC | apply zD)) (Rat_Quo hst.agree h72 h3 ((sy.sub s1).fit (by omega)) f3) ?_ ?_
      clear hst
      intro v41 g41 w41 hst hle41 hcs41 hp41
      replace hlesum := Mem.le.trans hlesum hle41
      replace hT := hT.mono hle41
      replace hs := hs.mono hle41
      replace h6 := h6.mono hle41
      replace h8 := h8.mono hle41
      replace h0 := h0.mono hle41
      replace h1 := h1.mono hle41
      replace h2 := h2.mono hle41
      replace h3 := h3.mono hle41
      replace h5 := h5.mono hle41
      replace h64 := h64.mono hle41
      replace h66 := h66.mono hle41
      replace h72 := h72.mono hle41
      obtain ⟨p74, q74, a74, rfl, h74⟩ := hp41
      rw [← hK] at h74
      refine stepT_call rfl rfl rfl rfl rfl rfl hst0 hst hlesum (by repeat (first | exact zR _ | apply zC | apply zD)) (Rat_Floor hst.agree h74 (szq.fit (by omega))) ?_ ?_
      clear hst
      intro v42 g42 w42 hst hle42 hcs42 hp42
      replace hlesum := Mem.le.trans hlesum hle42
      replace hT := hT.mono hle42
      replace hs := hs.mono hle42
      replace h6 := h6.mono hle42
      replace h8 := h8.mono hle42
      replace h0 := h0.mono hle42
      replace h1 := h1.mono hle42
      replace h2 := h2.mono hle42
      replace h3 := h3.mono hle42
      replace h5 := h5.mono hle42
      replace h64 := h64.mono hle42
      replace h66 := h66.mono hle42
      replace h72 := h72.mono hle42
      replace h74 := h74.mono hle42
      obtain ⟨pk, qk, ak, rfl, hk⟩ := hp42
      refine stepT_tail ?_
      refine stepK_store 7 rfl rfl rfl rfl rfl rfl zf31 rfl rfl hst rfl (by first | (simp [uN_length]; omega) | simp) ?_
      clear hst
      intro w43 hst
      simp only [zL, splice, Nat.reduceAdd] at hst
      refine wpK_nil ?_
      refine join_end (((pk, qk, ak), bk)) ?_ ?_
      exact ⟨rfl, rfl, rfl, rfl, rfl, rfl, rfl, trivial⟩
      exact ⟨_, hst.weaken _ (by first | exact List.Sublist.refl _ | simp), hT, h6, h8, h0, h1, h2, h3, hk⟩
      exact stepT_no
      exact stepT_no
      exact stepT_no
      refine stepT_alloc rfl rfl rfl rfl rfl zf29 rfl hst0 hst (Mem.le.refl _) (by repeat (first | exact zR _ | apply zC | apply zD)) ?_ ?_
      clear hst
      intro bk w44 hst
      refine stepT_call rfl rfl rfl rfl rfl rfl hst0 hst (Mem.le.refl _) (by repeat (first | exact zR _ | apply zC | apply zD)) (Rat_Sub hst.agree h8 h1 fy f1) ?_ ?_
      clear hst
      intro v45 g45 w45 hst hle45 hcs45 hp45
      have hlesum := hle45
      replace hT := hT.mono hle45
      replace hs := hs.mono hle45
      replace h6 := h6.mono hle45
      replace h8 := h8.mono hle45
      replace h0 := h0.mono hle45
      replace h1 := h1.mono hle45
      replace h2 := h2.mono hle45
      replace h3 := h3.mono hle45
      replace h5 := h5.mono hle45
      replace h64 := h64.mono hle45
      replace h66 := h66.mono hle45
      obtain ⟨p72, q72, a72, rfl, h72⟩ := hp45
      refine stepT_call rfl rfl rfl rfl rfl rfl hst0 hst hlesum (by repeat (first | exact zR _ | apply zC | apply zD)) (Rat_Quo hst.agree h72 h3 ((sy.sub s1).fit (by omega)) f3) ?_ ?_
      clear hst
      intro v46 g46 w46 hst hle46 hcs46 hp46
      replace hlesum := Mem.le.trans hlesum hle46
      replace hT := hT.mono hle46
      replace hs := hs.mono hle46
      replace h6 := h6.mono hle46
      replace h8 := h8.mono hle46
      replace h0 := h0.mono hle46
      replace h1 := h1.mono hle46
      replace h2 := h2.mono hle46
      replace h3 := h3.mono hle46
      replace h5 := h5.mono hle46
      replace h64 := h64.mono hle46
      replace h66 := h66.mono hle46
      replace h72 := h72.mono hle46
      obtain ⟨p74, q74, a74, rfl, h74⟩ := hp46
      rw [← hK] at h74
      refine stepT_call rfl rfl rfl rfl rfl rfl hst0 hst hlesum (by repeat (first | exact zR _ | apply zC | apply zD)) (Rat_Floor hst.agree h74 (szq.fit (by omega))) ?_ ?_
      clear hst
      intro v47 g47 w47 hst hle47 hcs47 hp47
      replace hlesum := Mem.le.trans hlesum hle47
      replace hT := hT.mono hle47
      replace hs := hs.mono hle47
      replace h6 := h6.mono hle47
      replace h8 := h8.mono hle47
      replace h0 := h0.mono hle47
      replace h1 := h1.mono hle47
      replace h2 := h2.mono hle47
      replace h3 := h3.mono hle47
      replace h5 := h5.mono hle47
      replace h64 := h64.mono hle47
      replace h66 := h66.mono hle47
      replace h72 := h72.mono hle47
      replace h74 := h74.mono hle47
      obtain ⟨pk, qk, ak, rfl, hk⟩ := hp47
      refine stepT_tail ?_
      refine stepK_store 7 rfl rfl rfl rfl rfl rfl zf31 rfl rfl hst rfl (by first | (simp [uN_length]; omega) | simp) ?_
      clear hst
      intro w48 hst
      simp only [zL, splice, Nat.reduceAdd] at hst
      refine wpK_nil ?_
      refine join_end (((pk, qk, ak), bk)) ?_ ?_
      exact ⟨rfl, rfl, rfl, rfl, rfl, rfl, rfl, trivial⟩
      exact ⟨_, hst.weaken _ (by first | exact List.Sublist.refl _ | simp), hT, h6, h8, h0, h1, h2, h3, hk⟩
      exact stepT_no
      exact stepT_no
      exact stepT_no
      exact stepT_no
    case d31 =>
      clear hst
      clear hT hs h6 h8 h0 h1 h2 h3 h5 h66
      rintro ⟨⟨pk, qk, ak⟩, bk⟩ w3 ⟨g2, hst, hT, h6, h8, h0, h1, h2, h3, hk⟩
      simp only
      have fk := szf
      refine cp_seq ?_
      refine cp_drawn (by kernel_rfl) 19 [(0, true), (1, true), (2, true), (4, true), (5, true), (6, true), (9, true), (10, true), (11, true), (3, false), (7, false), (8, false), (12, false), (13, false), (14, false), (15, false), (16, false), (17, true), (18, true)] _ rfl (by kernel_rfl) (by kernel_rfl) (by kernel_rfl) (fun _ _ _ _ _ h => h) _ (hst.drew) ?_
      have hst0 := hst.drew
      clear hst
      have hst := hst0
      refine stepD_d rfl rfl rfl rfl (does_load_ownN 0 rfl (by kernel_rfl) zf31 rfl rfl rfl) ?_
      refine stepD_d rfl rfl rfl rfl (does_load_ownN 4 rfl (by kernel_rfl) zf31 rfl rfl rfl) ?_
      refine stepD_d rfl rfl rfl rfl (does_load_ownN 5 rfl (by kernel_rfl) zf31 rfl rfl rfl) ?_
      refine stepD_d rfl rfl rfl rfl (does_load_ownN 2 rfl (by kernel_rfl) zf31 rfl rfl rfl) ?_
      refine stepD_d rfl rfl rfl rfl (does_load_ownN 6 rfl (by kernel_rfl) zf31 rfl rfl rfl) ?_
      refine stepD_d rfl rfl rfl rfl (does_load_ownN 4 rfl (by kernel_rfl) zf31 rfl rfl rfl) ?_
      refine stepD_d rfl rfl rfl rfl (does_load_ownN 3 rfl (by kernel_rfl) zf31 rfl rfl rfl) ?_
      refine stepD_d rfl rfl rfl rfl (does_load_ownN 6 rfl (by kernel_rfl) zf31 rfl rfl rfl) ?_
      refine stepD_d rfl rfl rfl rfl (does_load_ownN 5 rfl (by kernel_rfl) zf31 rfl rfl rfl) ?_
      refine stepD_call rfl rfl rfl rfl rfl rfl hst (Rat_Quo hst.agree h2 h3 f2 f3) (fun _ _ h hle => St.older h hle (by simp) hst0.ext hst0.le) ?_
      clear hst
      intro v49 g49 w49 hst hle49 hcs49 hp49
      have hlesum := hle49
      replace hT := hT.mono hle49
      replace h6 := h6.mono hle49
      replace h8 := h8.mono hle49
      replace h0 := h0.mono hle49
      replace h1 := h1.mono hle49
      replace h2 := h2.mono hle49
      replace h3 := h3.mono hle49
      replace hk := hk.mono hle49
      obtain ⟨p79, q79, a79, rfl, h79⟩ := hp49
      refine stepD_call rfl rfl rfl rfl rfl rfl hst (Rat_Mul hst.agree hk h2 (szf.fit (by omega)) f2) (fun _ _ h hle => St.older h (Mem.le.trans hlesum hle) (by simp) hst0.ext hst0.le) ?_
      clear hst
      intro v50 g50 w50 hst hle50 hcs50 hp50
      replace hlesum := Mem.le.trans hlesum hle50
      replace hT := hT.mono hle50
      replace h6 := h6.mono hle50
      replace h8 := h8.mono hle50
      replace h0 := h0.mono hle50
      replace h1 := h1.mono hle50
      replace h2 := h2.mono hle50
      replace h3 := h3.mono hle50
      replace hk := hk.mono hle50
      replace h79 := h79.mono hle50
      obtain ⟨p83, q83, a83, rfl, h83⟩ := hp50
      refine stepD_call rfl rfl rfl rfl rfl rfl hst (Rat_Add hst.agree h0 h83 f0 ((szf.mul s2).fit (by omega))) (fun _ _ h hle => St.older h (Mem.le.trans hlesum hle) (by simp) hst0.ext hst0.le) ?_
      clear hst
      intro v51 g51 w51 hst hle51 hcs51 hp51
      replace hlesum := Mem.le.trans hlesum hle51
      replace hT := hT.mono hle51
      replace h6 := h6.mono hle51
      replace h8 := h8.mono hle51
      replace h0 := h0.mono hle51
      replace h1 := h1.mono hle51
      replace h2 := h2.mono hle51
      replace h3 := h3.mono hle51
      replace hk := hk.mono hle51
      replace h79 := h79.mono hle51
      replace h83 := h83.mono hle51
      obtain ⟨p84, q84, a84, rfl, h84⟩ := hp51
      refine stepD_call rfl rfl rfl rfl rfl rfl hst (Rat_Mul hst.agree hk h3 (szf.fit (by omega)) f3) (fun _ _ h hle => St.older h (Mem.le.trans hlesum hle) (by simp) hst0.ext hst0.le) ?_
      clear hst
      intro v52 g52 w52 hst hle52 hcs52 hp52
      replace hlesum := Mem.le.trans hlesum hle52
      replace hT := hT.mono hle52
      replace h6 := h6.mono hle52
      replace h8 := h8.mono hle52
      replace h0 := h0.mono hle52
      replace h1 := h1.mono hle52
      replace h2 := h2.mono hle52
      replace h3 := h3.mono hle52
      replace hk := hk.mono hle52
      replace h79 := h79.mono hle52
      replace h83 := h83.mono hle52
      replace h84 := h84.mono hle52
      obtain ⟨p88, q88, a88, rfl, h88⟩ := hp52
      refine stepD_call rfl rfl rfl rfl rfl rfl hst (Rat_Add hst.agree h1 h88 f1 ((szf.mul s3).fit (by omega))) (fun _ _ h hle => St.older h (Mem.le.trans hlesum hle) (by simp) hst0.ext hst0.le) ?_
      clear hst
      intro v53 g53 w53 hst hle53 hcs53 hp53
      replace hlesum := Mem.le.trans hlesum hle53
      replace hT := hT.mono hle53
      replace h6 := h6.mono hle53
      replace h8 := h8.mono hle53
      replace h0 := h0.mono hle53
      replace h1 := h1.mono hle53
      replace h2 := h2.mono hle53
      replace h3 := h3.mono hle53
      replace hk := hk.mono hle53
      replace h79 := h79.mono hle53
      replace h83 := h83.mono hle53
      replace h84 := h84.mono hle53
      replace h88 := h88.mono hle53
      obtain ⟨p89, q89, a89, rfl, h89⟩ := hp53
      refine stepD_call rfl rfl rfl rfl rfl rfl hst (Rat_Quo hst.agree h84 h89 ((s0.add (szf.mul s2)).fit (by omega)) ((s1.add (szf.mul s3)).fit (by omega))) (fun _ _ h hle => St.older h (Mem.le.trans hlesum hle) (by simp) hst0.ext hst0.le) ?_
      clear hst
      intro v54 g54 w54 hst hle54 hcs54 hp54
      replace hlesum := Mem.le.trans hlesum hle54
      replace hT := hT.mono hle54
      replace h6 := h6.mono hle54
      replace h8 := h8.mono hle54
      replace h0 := h0.mono hle54
      replace h1 := h1.mono hle54
      replace h2 := h2.mono hle54
      replace h3 := h3.mono hle54
      replace hk := hk.mono hle54
      replace h79 := h79.mono hle54
      replace h83 := h83.mono hle54
      replace h84 := h84.mono hle54
      replace h88 := h88.mono hle54
      replace h89 := h89.mono hle54
      obtain ⟨p90, q90, a90, rfl, h90⟩ := hp54
      have sA := (s2.div s3).mono (m := 1000000) (by omega)
      have sB := ((s0.add (szf.mul s2)).div (s1.add (szf.mul s3))).mono (m := 1000000) (by omega)
      have sR := nearR_sz (v := getR a) sA sB
      refine stepD_call rfl rfl rfl rfl rfl rfl hst (nearest_nearer hst.agree h6 h79 h90 (sx.mono (by decide)) sA sB (by decide)) (fun _ _ h hle => St.older h (Mem.le.trans hlesum hle) (by simp) hst0.ext hst0.le) ?_
      clear hst
      intro v55 g55 w55 hst hle55 hcs55 hp55
      replace hlesum := Mem.le.trans hlesum hle55
      replace hT := hT.mono hle55
      replace h6 := h6.mono hle55
      replace h8 := h8.mono hle55
      replace h0 := h0.mono hle55
      replace h1 := h1.mono hle55
      replace h2 := h2.mono hle55
      replace h3 := h3.mono hle55
      replace hk := hk.mono hle55
      replace h79 := h79.mono hle55
      replace h83 := h83.mono hle55
      replace h84 := h84.mono hle55
      replace h88 := h88.mono hle55
      replace h89 := h89.mono hle55
      replace h90 := h90.mono hle55
      obtain ⟨p91, q91, a91, rfl, h91⟩ := hp55
      refine stepD_call rfl rfl rfl rfl rfl rfl hst (Rat_String hst.agree hT h91 (sR.fit (by decide))) (fun _ _ h hle => St.older h (Mem.le.trans hlesum hle) (by simp) hst0.ext hst0.le) ?_
      clear hst
      intro v56 g56 w56 hst hle56 hcs56 hp56
      replace hlesum := Mem.le.trans hlesum hle56
      replace hT := hT.mono hle56
      replace h6 := h6.mono hle56
      replace h8 := h8.mono hle56
      replace h0 := h0.mono hle56
      replace h1 := h1.mono hle56
      replace h2 := h2.mono hle56
      replace h3 := h3.mono hle56
      replace hk := hk.mono hle56
      replace h79 := h79.mono hle56
      replace h83 := h83.mono hle56
      replace h84 := h84.mono hle56
      replace h88 := h88.mono hle56
      replace h89 := h89.mono hle56
      replace h90 := h90.mono hle56
      replace h91 := h91.mono hle56
      obtain rfl := hp56
      refine stepD_d rfl rfl rfl rfl (does_assign rfl rfl) ?_
      refine stepD_d rfl rfl rfl rfl (does_assign rfl rfl) ?_
      refine stepD_tail ?_
      refine zn5 ?_
      refine at_block_ret ?_
      refine at_then_ret ?_
      refine at_then_ret ?_
      refine at_block_ret ?_
      refine at_then_ret ?_
      refine ret2 rfl rfl rfl hst ?_
      refine ⟨_, _, rfl, bp_ok ⟨hs1, hs2⟩ hL0 hLe ?_⟩
      rw [cut_cast, cut_cast]
      exact best_cut hi0 (by omega) hd1L he hlt2 k0 k1 k2
    intro c69
    have hle2 : (cvS (cf (getR a)) (i + 1)).d1 ≤ (L : Int) := Rat.intCast_le_intCast.1 (sgn_le.1 (by omega))
    refine cp_skip ?_
    refine cp_then ?_
    refine cp_seq ?_
    refine cp_drawn (by kernel_rfl) 6 [(0, true), (1, true), (2, true), (4, true), (3, false), (5, false)] _ rfl (by kernel_rfl) (by kernel_rfl) (by kernel_rfl) (fun _ _ _ _ _ h => h) _ (hst.drew) ?_
    have hst0 := hst.drew
    clear hst
    have hst := hst0
    refine stepD_d rfl rfl rfl rfl (does_load_ownN 4 rfl (by kernel_rfl) zf31 rfl rfl rfl) ?_
    refine stepD_d rfl rfl rfl rfl (does_load_ownN 6 rfl (by kernel_rfl) zf31 rfl rfl rfl) ?_
    refine stepD_d rfl rfl rfl rfl (does_load_ownN 4 rfl (by kernel_rfl) zf31 rfl rfl rfl) ?_
    refine stepD_d rfl rfl rfl rfl (does_load_ownN 2 rfl (by kernel_rfl) zf31 rfl rfl rfl) ?_
    refine stepD_call rfl rfl rfl rfl rfl rfl hst (Rat_Mul hst.agree h5 h2 fe f2) (fun _ _ h hle => St.older h hle (by simp) hst0.ext hst0.le) ?_
    clear hst
    intro v57 g57 w57 hst hle57 hcs57 hp57
    have hlesum := hle57
    replace hT := hT.mono hle57
    replace hs := hs.mono hle57
    replace h6 := h6.mono hle57
    replace h8 := h8.mono hle57
    replace h0 := h0.mono hle57
    replace h1 := h1.mono hle57
    replace h2 := h2.mono hle57
    replace h3 := h3.mono hle57
    replace h5 := h5.mono hle57
    replace h64 := h64.mono hle57
    replace h66 := h66.mono hle57
    obtain ⟨p96, q96, a96, rfl, h96⟩ := hp57
    refine stepD_call rfl rfl rfl rfl rfl rfl hst (Rat_Add hst.agree h96 h0 (se.mul s2 |>.fit (by omega)) f0) (fun _ _ h hle => St.older h (Mem.le.trans hlesum hle) (by simp) hst0.ext hst0.le) ?_
    clear hst
    intro v58 g58 w58 hst hle58 hcs58 hp58
    replace hlesum := Mem.le.trans hlesum hle58
    replace hT := hT.mono hle58
    replace hs := hs.mono hle58
    replace h6 := h6.mono hle58
    replace h8 := h8.mono hle58
    replace h0 := h0.mono hle58
    replace h1 := h1.mono hle58
    replace h2 := h2.mono hle58
    replace h3 := h3.mono hle58
    replace h5 := h5.mono hle58
    replace h64 := h64.mono hle58
    replace h66 := h66.mono hle58
    replace h96 := h96.mono hle58
    obtain ⟨p98, q98, a98, rfl, h98⟩ := hp58
    refine stepD_tail ?_
    refine stepK_store 2 rfl rfl rfl rfl rfl rfl zf31 rfl rfl hst rfl (by first | (simp [uN_length]; omega) | simp) ?_
    clear hst
    intro w59 hst
    simp only [zL, splice, Nat.reduceAdd] at hst
    refine stepK_store 4 rfl rfl rfl rfl rfl rfl zf31 rfl rfl hst rfl (by first | (simp [uN_length]; omega) | simp) ?_
    clear hst
    intro w60 hst
    simp only [zL, splice, Nat.reduceAdd] at hst
    refine znt ?_
    refine cp_drawn (by kernel_rfl) 6 [(0, true), (1, true), (2, true), (4, true), (3, false), (5, false)] _ rfl (by kernel_rfl) (by kernel_rfl) (by kernel_rfl) (fun _ _ _ _ _ h => h) _ (hst.drew) ?_
    have hst0 := hst.drew
    clear hst
    have hst := hst0
    refine stepD_d rfl rfl rfl rfl (does_load_ownN 5 rfl (by kernel_rfl) zf31 rfl rfl rfl) ?_
    refine stepD_d rfl rfl rfl rfl (does_load_ownN 6 rfl (by kernel_rfl) zf31 rfl rfl rfl) ?_
    refine stepD_d rfl rfl rfl rfl (does_load_ownN 5 rfl (by kernel_rfl) zf31 rfl rfl rfl) ?_
    refine stepD_d rfl rfl rfl rfl (does_load_ownN 3 rfl (by kernel_rfl) zf31 rfl rfl rfl) ?_
    refine stepD_call rfl rfl rfl rfl rfl rfl hst (Rat_Mul hst.agree h5 h3 fe f3) (fun _ _ h hle => St.older h hle (by simp) hst0.ext hst0.le) ?_
    clear hst
    intro v61 g61 w61 hst hle61 hcs61 hp61
    have hlesum := hle61
    replace hT := hT.mono hle61
    replace hs := hs.mono hle61
    replace h6 := h6.mono hle61
    replace h8 := h8.mono hle61
    replace h0 := h0.mono hle61
    replace h1 := h1.mono hle61
    replace h2 := h2.mono hle61
    replace h3 := h3.mono hle61
    replace h5 := h5.mono hle61
    replace h64 := h64.mono hle61
    replace h66 := h66.mono hle61
    replace h96 := h96.mono hle61
    replace h98 := h98.mono hle61
    obtain ⟨p102, q102, a102, rfl, h102⟩ := hp61
    refine stepD_call rfl rfl rfl rfl rfl rfl hst (Rat_Add hst.agree h102 h1 (se.mul s3 |>.fit (by omega)) f1) (fun _ _ h hle => St.older h (Mem.le.trans hlesum hle) (by simp) hst0.ext hst0.le) ?_
    clear hst
    intro v62 g62 w62 hst hle62 hcs62 hp62
    replace hlesum := Mem.le.trans hlesum hle62
    replace hT := hT.mono hle62
    replace hs := hs.mono hle62
    replace h6 := h6.mono hle62
    replace h8 := h8.mono hle62
    replace h0 := h0.mono hle62
    replace h1 := h1.mono hle62
    replace h2 := h2.mono hle62
    replace h3 := h3.mono hle62
    replace h5 := h5.mono hle62
    replace h64 := h64.mono hle62
    replace h66 := h66.mono hle62
    replace h96 := h96.mono hle62
    replace h98 := h98.mono hle62
    replace h102 := h102.mono hle62
    obtain ⟨p104, q104, a104, rfl, h104⟩ := hp62
    rw [cv_castn, ← hstp] at h98
    rw [cv_castd, ← hstp] at h104
    refine stepD_tail ?_
    refine stepK_store 3 rfl rfl rfl rfl rfl rfl zf31 rfl rfl hst rfl (by first | (simp [uN_length]; omega) | simp) ?_
    clear hst
    intro w63 hst
    simp only [zL, splice, Nat.reduceAdd] at hst
    refine stepK_store 5 rfl rfl rfl rfl rfl rfl zf31 rfl rfl hst rfl (by first | (simp [uN_length]; omega) | simp) ?_
    clear hst
    intro w64 hst
    simp only [zL, splice, Nat.reduceAdd] at hst
    refine wpK_nil ?_
    refine at_block_normal ?_
    refine cp_then ?_
    refine cp_region ?_
    refine stepK_d rfl rfl rfl hst (Does.int (does_add rfl rfl rfl) (wrap_i64 (by omega) (by omega))) ?_
    refine zM rfl hst rfl ?_
    refine wpK_nil ?_
    refine round_end ((i + 1, (p2, q2, a2), (p3, q3, a3), (p98, q98, a98), (p104, q104, a104))) ?_ ?_ ?_
    exact ⟨rfl, rfl, rfl, rfl, rfl, rfl, rfl, rfl, rfl, trivial⟩
    exact ⟨_, hst.weaken _ (by simp), hT, hs, h6, h8, by rw [hstp]; exact h2, by rw [hstp]; exact h3, h98, h104, by omega, by rw [hstp]; exact hd1L, hle2⟩
    show (cf (getR a)).length - (i + 1) < (cf (getR a)).length - i
    omega
    intro c59
    refine cp_exit ?_
    refine at_then_exit ?_
    refine at_then_exit ?_
    refine cp_exit_here ?_
    refine cp_then ?_
    refine cp_seq ?_
    exfalso
    obtain rfl : i = (cf (getR a)).length := by omega
    rw [(cvS_end (getR a)).2] at hd1L
    omega

end Go.Proofs.YtnbcedkpkcgmkaaGreatDoor
