/- The walks of functions, printed by a program of this session out of its specs. -/
import Derived.Test.YtnbcedkpkcgmkaaGreatDoorXZ
import Derived.Test.YtnbcedkpkcgmkaaGreatDoorFM
import Derived.Test.YtnbcedkpkcgmkaaGreatDoorF9
import Derived.Test.YtnbcedkpkcgmkaaGreatDoorFB
import Derived.Test.YtnbcedkpkcgmkaaGreatDoorFC
import Derived.Test.YtnbcedkpkcgmkaaGreatDoorProg
import Derived.Test.YtnbcedkpkcgmkaaGreatDoorF0
namespace Go.Proofs.YtnbcedkpkcgmkaaGreatDoor
open Go Go.RowKit Go.Proofs.Vc
set_option linter.unusedVariables false
set_option linter.unusedSimpArgs false

set_option maxHeartbeats 4000000 in
theorem sref_Dyadic {g : Mem} {w : World} (hag : Agree g w) {na nb : Bool} {A B : Option Addr} {n c m d : Nat} {r : Rat} (ha : IsQ g na A n nb B m r) {k e : Nat} (hz : Sz k r) (hk : k ≤ 1000) (he : e ≤ 4096) :
    CallTo Tryz.prog 13 #[.agg #[.bool na, .slice A n c, .bool nb, .slice B m d], .int .i64 (e : Int)] w (Ret w g fun v g => ∃ na A n c nb B m d, v = .agg #[.bool na, .slice A n c, .bool nb, .slice B m d] ∧ IsQ g na A n nb B m (dyR r e)) := by
  refine CallTo.enter (vs := [.agg #[.bool na, .slice A n c, .bool nb, .slice B m d], .int .i64 (e : Int)]) zf139 (by kernel_rfl) rfl rfl rfl ?_
  have hst := St.init hag
  have hp := two_pow_sz e
  have hx := hz.mul hp
  have fr := hz.fitH (by omega)
  have fp := hp.fitH (by omega)
  have fx := hx.fitH (by omega)
  have sf := floor_sz hx
  have ff := sf.fitH (by omega)
  have so : Sz 1 (1 : Rat) := ⟨by decide +kernel, by decide +kernel⟩
  have st2 : Sz 1 (2 : Rat) := ⟨by decide +kernel, by decide +kernel⟩
  refine zsr ?_
  refine stepK_box rfl rfl rfl rfl rfl rfl hst ?_
  clear hst
  intro b2 w1 hst
  refine stepK_alloc rfl rfl rfl rfl zf107 rfl hst ?_
  clear hst
  intro b4 w2 hst
  refine zn4 ?_
  refine stepK_call rfl rfl rfl rfl rfl hst (snum_FromInt hst.agree (x := 1) (by decide) (by decide)) ?_
  clear hst
  intro v3 g3 w3 hst hle3 hcs3 hp3
  replace ha := ha.mono hle3
  obtain ⟨_, _, l9, _, rfl, h9⟩ := hp3
  have l9b := h9.len (k := 1) (by decide)
  refine zM rfl hst rfl ?_
  refine stepK_call rfl rfl rfl rfl rfl hst (snum_ShiftP (k := e) hst.agree h9 (by omega) (by omega)) ?_
  clear hst
  intro v4 g4 w4 hst hle4 hcs4 hp4
  replace ha := ha.mono hle4
  replace h9 := h9.mono hle4
  obtain ⟨n5, A5, l5, c5, rfl, h5⟩ := hp4
  rw [Int.one_mul] at h5
  have l5b := h5.len (k := 1099511627776) (by have := fp.1; rwa [Rat.num_intCast] at this)
  refine stepK_alloc rfl rfl rfl rfl zf87 rfl hst ?_
  clear hst
  intro b5 w5 hst
  refine stepK_store 2 rfl rfl rfl rfl rfl rfl zf89 rfl rfl hst rfl (by first | (simp [uN_length]; omega) | simp) ?_
  clear hst
  intro w6 hst
  simp only [zL, splice, Nat.reduceAdd] at hst
  refine zn4 ?_
  refine stepK_d rfl rfl rfl hst (does_load_ownN 0 rfl (by kernel_rfl) zf105 rfl rfl rfl) ?_
  refine stepK_d rfl rfl rfl hst (does_load_ownN 2 rfl (by kernel_rfl) zf89 rfl rfl rfl) ?_
  refine stepK_d rfl rfl rfl hst (does_build rfl zf108 rfl rfl) ?_
  refine stepK_call rfl rfl rfl rfl rfl hst (snum_RMul hst.agree ha (IsQ.int h5) fr fp) ?_
  clear hst
  intro v7 g7 w7 hst hle7 hcs7 hp7
  replace ha := ha.mono hle7
  replace h9 := h9.mono hle7
  replace h5 := h5.mono hle7
  obtain ⟨na6, A6, n6, c6, nb6, B6, m6, d6, rfl, h6⟩ := hp7
  refine stepK_alloc rfl rfl rfl rfl zf107 rfl hst ?_
  clear hst
  intro b6 w8 hst
  refine stepK_store 3 rfl rfl rfl rfl rfl rfl zf105 rfl rfl hst rfl (by first | (simp [uN_length]; omega) | simp) ?_
  clear hst
  intro w9 hst
  simp only [zL, splice, Nat.reduceAdd] at hst
  refine zn4 ?_
  refine stepK_d rfl rfl rfl hst (does_load_ownN 3 rfl (by kernel_rfl) zf105 rfl rfl rfl) ?_
  refine stepK_call rfl rfl rfl rfl rfl hst (snum_Floor hst.agree h6 fx) ?_
  clear hst
  intro v10 g10 w10 hst hle10 hcs10 hp10
  replace ha := ha.mono hle10
  replace h9 := h9.mono hle10
  replace h5 := h5.mono hle10
  replace h6 := h6.mono hle10
  obtain ⟨n7, A7, l7, c7, rfl, h7⟩ := hp10
  have l7b := h7.len (k := 1099511627776) (by have := ff.1; rwa [Rat.num_intCast] at this)
  refine stepK_alloc rfl rfl rfl rfl zf87 rfl hst ?_
  clear hst
  intro b7 w11 hst
  refine stepK_store 4 rfl rfl rfl rfl rfl rfl zf89 rfl rfl hst rfl (by first | (simp [uN_length]; omega) | simp) ?_
  clear hst
  intro w12 hst
  simp only [zL, splice, Nat.reduceAdd] at hst
  refine znq ?_
  refine cp_drawn (by kernel_rfl) 9 [(1, true), (2, true), (3, true), (0, false), (4, false), (5, false), (6, false), (7, false), (8, true)] _ rfl (by kernel_rfl) (by kernel_rfl) (by kernel_rfl) (fun _ _ _ _ _ h => h) _ (hst.drew) ?_
  have hst0 := hst.drew
  clear hst
  have hst := hst0
  refine stepD_d rfl rfl rfl rfl (does_load_ownN 3 rfl (by kernel_rfl) zf105 rfl rfl rfl) ?_
  refine stepD_d rfl rfl rfl rfl (does_load_ownN 4 rfl (by kernel_rfl) zf89 rfl rfl rfl) ?_
  refine stepD_d rfl rfl rfl rfl (does_build rfl zf108 rfl rfl) ?_
  refine stepD_call rfl rfl rfl rfl rfl rfl hst (snum_R hst.agree (x := 2) (by decide) (by decide)) (fun _ _ h hle => St.older h hle (by simp) hst0.ext hst0.le) ?_
  clear hst
  intro v13 g13 w13 hst hle13 hcs13 hp13
  have hlesum := hle13
  replace ha := ha.mono hle13
  replace h9 := h9.mono hle13
  replace h5 := h5.mono hle13
  replace h6 := h6.mono hle13
  replace h7 := h7.mono hle13
  obtain ⟨_, _, _, _, _, _, _, _, rfl, h18⟩ := hp13
  refine stepD_call rfl rfl rfl rfl rfl rfl hst (snum_RSub hst.agree h6 (IsQ.int h7) fx ff) (fun _ _ h hle => St.older h (Mem.le.trans hlesum hle) (by simp) hst0.ext hst0.le) ?_
  clear hst
  intro v14 g14 w14 hst hle14 hcs14 hp14
  replace hlesum := Mem.le.trans hlesum hle14
  replace ha := ha.mono hle14
  replace h9 := h9.mono hle14
  replace h5 := h5.mono hle14
  replace h6 := h6.mono hle14
  replace h7 := h7.mono hle14
  replace h18 := h18.mono hle14
  obtain ⟨_, _, _, _, _, _, _, _, rfl, h22⟩ := hp14
  refine stepD_call rfl rfl rfl rfl rfl rfl hst (snum_RMul hst.agree (h18.to (show ((2 : Int) : Rat) = 2 from rfl)) h22 (st2.fitH (by decide)) ((hx.sub sf).fitH (by omega))) (fun _ _ h hle => St.older h (Mem.le.trans hlesum hle) (by simp) hst0.ext hst0.le) ?_
  clear hst
  intro v15 g15 w15 hst hle15 hcs15 hp15
  replace hlesum := Mem.le.trans hlesum hle15
  replace ha := ha.mono hle15
  replace h9 := h9.mono hle15
  replace h5 := h5.mono hle15
  replace h6 := h6.mono hle15
  replace h7 := h7.mono hle15
  replace h18 := h18.mono hle15
  replace h22 := h22.mono hle15
  obtain ⟨_, _, _, _, _, _, _, _, rfl, h23⟩ := hp15
  refine stepD_call rfl rfl rfl rfl rfl rfl hst (sref_One hst.agree) (fun _ _ h hle => St.older h (Mem.le.trans hlesum hle) (by simp) hst0.ext hst0.le) ?_
  clear hst
  intro v16 g16 w16 hst hle16 hcs16 hp16
  replace hlesum := Mem.le.trans hlesum hle16
  replace ha := ha.mono hle16
  replace h9 := h9.mono hle16
  replace h5 := h5.mono hle16
  replace h6 := h6.mono hle16
  replace h7 := h7.mono hle16
  replace h18 := h18.mono hle16
  replace h22 := h22.mono hle16
  replace h23 := h23.mono hle16
  obtain ⟨_, _, _, _, _, _, _, _, rfl, h24⟩ := hp16
  refine stepD_call rfl rfl rfl rfl rfl rfl hst (snum_RCmp hst.agree h23 h24 ((st2.mul (hx.sub sf)).fitH (by omega)) (so.fitH (by decide))) (fun _ _ h hle => St.older h (Mem.le.trans hlesum hle) (by simp) hst0.ext hst0.le) ?_
  clear hst
  intro v17 g17 w17 hst hle17 hcs17 hp17
  replace hlesum := Mem.le.trans hlesum hle17
  replace ha := ha.mono hle17
  replace h9 := h9.mono hle17
  replace h5 := h5.mono hle17
  replace h6 := h6.mono hle17
  replace h7 := h7.mono hle17
  replace h18 := h18.mono hle17
  replace h22 := h22.mono hle17
  replace h23 := h23.mono hle17
  replace h24 := h24.mono hle17
  obtain rfl := hp17
  refine stepD_d rfl rfl rfl rfl (does_assign rfl rfl) ?_
  refine stepD_tail ?_
  refine znt ?_
  refine cp_join (ι := (Bool × Option Addr × Nat × Nat) × Int × Nat) (fun ((n7, A7, l7, c7), F, k9) => [(2, .pointer (some ⟨b2, 0, none⟩)), (4, .pointer (some ⟨b4, 0, none⟩)), (5, .pointer (some ⟨b5, 0, none⟩)), (6, .pointer (some ⟨b6, 0, none⟩)), (7, .pointer (some ⟨b7, 0, none⟩))]) (fun ((n7, A7, l7, c7), F, k9) w2 => ∃ g2, St w [] g g2 [(b2, .cells #[.bool na, .slice A n c, .bool nb, .slice B m d] 30 (0, 0)), (b4, .cells #[.bool false, .slice none 0 0, .bool false, .slice none 0 0] 30 (0, 0)), (b5, .cells #[.bool n5, .slice A5 l5 c5] 28 (0, 0)), (b6, .cells #[.bool na6, .slice A6 n6 c6, .bool nb6, .slice B6 m6 d6] 30 (0, 0)), (b7, .cells #[.bool n7, .slice A7 l7 c7] 28 (0, 0))] w2 ∧ IsZ g2 n5 A5 l5 ((2 ^ e : Nat) : Int) ∧ IsZ g2 n7 A7 l7 F ∧ l7 ≤ 8796093022206 ∧ F = halfEven (r * (((2 ^ e : Nat) : Int) : Rat))) ?c18 ?d18
  case c18 =>
    refine cp_seq ?_
    obtain ⟨⟨xs, hxs, hxw, hxt, hxv⟩, _⟩ := id h7
    have hlx := hxs.1
    refine cp_region ?_
    refine zM rfl hst rfl ?_
    refine stepK_d rfl rfl rfl hst (does_gtr rfl rfl rfl) ?_
    refine zM rfl hst rfl ?_
    refine wpK_split (t := 28) rfl ?_ ?_
    intro s28
    refine stepK_pass rfl rfl rfl rfl rfl rfl rfl ?_
    refine stepK_pass rfl rfl rfl rfl rfl rfl rfl ?_
    refine stepK_pass rfl rfl rfl rfl rfl rfl rfl ?_
    refine stepK_passU rfl rfl rfl rfl rfl rfl ?_
    refine stepK_passU rfl rfl rfl rfl rfl rfl ?_
    refine stepK_passU rfl rfl rfl rfl rfl rfl ?_
    refine stepK_passU rfl rfl rfl rfl rfl rfl ?_
    refine stepK_pass rfl rfl rfl rfl rfl rfl rfl ?_
    refine stepK_pass rfl rfl rfl rfl rfl rfl rfl ?_
    refine stepK_passU rfl rfl rfl rfl rfl rfl ?_
    refine stepK_passU rfl rfl rfl rfl rfl rfl ?_
    refine stepK_passU rfl rfl rfl rfl rfl rfl ?_
    refine stepK_passU rfl rfl rfl rfl rfl rfl ?_
    refine stepK_passU rfl rfl rfl rfl rfl rfl ?_
    refine stepK_passU rfl rfl rfl rfl rfl rfl ?_
    refine stepK_pass rfl rfl rfl rfl rfl rfl rfl ?_
    refine stepK_d rfl rfl rfl hst (does_pick_true rfl rfl rfl) ?_
    refine znt ?_
    refine cp_cond_true rfl ?_
    refine cp_drawn (by kernel_rfl) 3 [(0, true), (1, false), (2, false)] _ rfl (by kernel_rfl) (by kernel_rfl) (by kernel_rfl) (fun _ _ _ _ _ h => h) _ (hst.drew) ?_
    have hst0 := hst.drew
    clear hst
    have hst := hst0
    refine stepD_d rfl rfl rfl rfl (does_load_ownN 4 rfl (by kernel_rfl) zf89 rfl rfl rfl) ?_
    refine stepD_call rfl rfl rfl rfl rfl rfl hst (snum_FromInt hst.agree (x := 1) (by decide) (by decide)) (fun _ _ h hle => St.older h hle (by simp) hst0.ext hst0.le) ?_
    clear hst
    intro v19 g19 w19 hst hle19 hcs19 hp19
    have hlesum := hle19
    replace ha := ha.mono hle19
    replace h9 := h9.mono hle19
    replace h5 := h5.mono hle19
    replace h6 := h6.mono hle19
    replace h7 := h7.mono hle19
    replace h18 := h18.mono hle19
    replace h22 := h22.mono hle19
    replace h23 := h23.mono hle19
    replace h24 := h24.mono hle19
    obtain ⟨_, _, l47, _, rfl, h47⟩ := hp19
    have l47b := h47.len (k := 1) (by decide)
    refine stepD_call rfl rfl rfl rfl rfl rfl hst (snum_Add hst.agree h7 h47 (by omega) (by omega)) (fun _ _ h hle => St.older h (Mem.le.trans hlesum hle) (by simp) hst0.ext hst0.le) ?_
    clear hst
    intro v20 g20 w20 hst hle20 hcs20 hp20
    replace hlesum := Mem.le.trans hlesum hle20
    replace ha := ha.mono hle20
    replace h9 := h9.mono hle20
    replace h5 := h5.mono hle20
    replace h6 := h6.mono hle20
    replace h7 := h7.mono hle20
    replace h18 := h18.mono hle20
    replace h22 := h22.mono hle20
    replace h23 := h23.mono hle20
    replace h24 := h24.mono hle20
    replace h47 := h47.mono hle20
    obtain ⟨n48, A48, l48, c48, rfl, h48⟩ := hp20
    refine stepD_tail ?_
    refine stepK_store 4 rfl rfl rfl rfl rfl rfl zf89 rfl rfl hst rfl (by first | (simp [uN_length]; omega) | simp) ?_
    clear hst
    intro w21 hst
    simp only [zL, splice, Nat.reduceAdd] at hst
    refine wpK_nil ?_
    refine join_end (((n48, A48, l48, c48), (r * (((2 ^ e : Nat) : Int) : Rat)).floor + 1, 0)) ?_ ?_
    exact ⟨rfl, rfl, rfl, rfl, rfl, trivial⟩
    refine ⟨_, hst, h5, h48, ?_, (halfEven_up (.inl (by omega))).symm⟩
    have h9 := len_succ (k := 1099511627776) h48 (by have := ff.1; rwa [Rat.num_intCast] at this)
    omega
    intro s28
    refine stepK_guard rfl rfl rfl rfl rfl rfl hst (does_move rfl rfl) ?_
    refine stepK_guard rfl rfl rfl rfl rfl rfl hst (does_eql rfl rfl rfl) ?_
    refine stepK_guard rfl rfl rfl rfl rfl rfl hst (does_move rfl rfl) ?_
    refine wpK_split (t := 31) rfl ?_ ?_
    intro s31
    refine stepK_guard rfl rfl rfl rfl rfl rfl hst (does_fieldAddr rfl zf93 rfl) ?_
    refine stepK_guard rfl rfl rfl rfl rfl rfl hst (does_load_ownL 4 rfl (by kernel_rfl) rfl rfl rfl) ?_
    refine stepK_guard rfl rfl rfl rfl rfl rfl hst (does_len_slice rfl zf76 rfl) ?_
    refine stepK_guard rfl rfl rfl rfl rfl rfl hst (does_gtr rfl rfl rfl) ?_
    refine stepK_guard rfl rfl rfl rfl rfl rfl hst (does_pick_true rfl rfl rfl) ?_
    refine stepK_guard rfl rfl rfl rfl rfl rfl hst (does_move rfl rfl) ?_
    refine wpK_split (t := 37) rfl ?_ ?_
    intro s37
    obtain ⟨b1, o1, e1, hb1⟩ := hxs.some_ (by omega)
    subst e1
    obtain ⟨x0, hx0⟩ := get_of_lt (ws := xs) (j := 0) (by omega)
    have hxl := hxw.get hx0
    have hodd := hval_odd hx0
    rw [hxv] at hodd
    refine stepK_guard rfl rfl rfl rfl rfl rfl hst (does_fieldAddr rfl zf93 rfl) ?_
    refine stepK_guard rfl rfl rfl rfl rfl rfl hst (does_load_ownL 4 rfl (by kernel_rfl) rfl rfl rfl) ?_
    refine stepK_guard rfl rfl rfl rfl rfl rfl hst (does_indexAddr1 (j := 0) rfl zf76 (by kernel_rfl) rfl rfl (by omega) (by omega)) ?_
    refine stepK_guard rfl rfl rfl rfl rfl rfl hst (does_load_g1 rfl (by kernel_rfl) rfl (hb1.at_ _ _ hx0)) ?_
    refine stepK_guard rfl rfl rfl rfl rfl rfl hst (does_odd_u32 rfl rfl rfl hxl) ?_
    refine stepK_guard rfl rfl rfl rfl rfl rfl hst (does_eql_n (b := 1) rfl rfl rfl) ?_
    refine stepK_guard rfl rfl rfl rfl rfl rfl hst (does_pick_true rfl rfl rfl) ?_
    refine stepK_d rfl rfl rfl hst (does_pick_false rfl rfl rfl) ?_
    refine znt ?_
    refine cp_if rfl ?_ ?_
    intro c45
    refine cp_drawn (by kernel_rfl) 3 [(0, true), (1, false), (2, false)] _ rfl (by kernel_rfl) (by kernel_rfl) (by kernel_rfl) (fun _ _ _ _ _ h => h) _ (hst.drew) ?_
    have hst0 := hst.drew
    clear hst
    have hst := hst0
    refine stepD_d rfl rfl rfl rfl (does_load_ownN 4 rfl (by kernel_rfl) zf89 rfl rfl rfl) ?_
    refine stepD_call rfl rfl rfl rfl rfl rfl hst (snum_FromInt hst.agree (x := 1) (by decide) (by decide)) (fun _ _ h hle => St.older h hle (by simp) hst0.ext hst0.le) ?_
    clear hst
    intro v22 g22 w22 hst hle22 hcs22 hp22
    have hlesum := hle22
    replace ha := ha.mono hle22
    replace h9 := h9.mono hle22
    replace h5 := h5.mono hle22
    replace h6 := h6.mono hle22
    replace h7 := h7.mono hle22
    replace h18 := h18.mono hle22
    replace h22 := h22.mono hle22
    replace h23 := h23.mono hle22
    replace h24 := h24.mono hle22
    obtain ⟨_, _, l47, _, rfl, h47⟩ := hp22
    have l47b := h47.len (k := 1) (by decide)
    refine stepD_call rfl rfl rfl rfl rfl rfl hst (snum_Add hst.agree h7 h47 (by omega) (by omega)) (fun _ _ h hle => St.older h (Mem.le.trans hlesum hle) (by simp) hst0.ext hst0.le) ?_
    clear hst
    intro v23 g23 w23 hst hle23 hcs23 hp23
    replace hlesum := Mem.le.trans hlesum hle23
    replace ha := ha.mono hle23
    replace h9 := h9.mono hle23
    replace h5 := h5.mono hle23
    replace h6 := h6.mono hle23
    replace h7 := h7.mono hle23
    replace h18 := h18.mono hle23
    replace h22 := h22.mono hle23
    replace h23 := h23.mono hle23
    replace h24 := h24.mono hle23
    replace h47 := h47.mono hle23
    obtain ⟨n48, A48, l48, c48, rfl, h48⟩ := hp23
    refine stepD_tail ?_
    refine stepK_store 4 rfl rfl rfl rfl rfl rfl zf89 rfl rfl hst rfl (by first | (simp [uN_length]; omega) | simp) ?_
    clear hst
    intro w24 hst
    simp only [zL, splice, Nat.reduceAdd] at hst
    refine wpK_nil ?_
    refine join_end (((n48, A48, l48, c48), (r * (((2 ^ e : Nat) : Int) : Rat)).floor + 1, 0)) ?_ ?_
    exact ⟨rfl, rfl, rfl, rfl, rfl, trivial⟩
    refine ⟨_, hst, h5, h48, ?_, (halfEven_up (.inr ⟨s31, by omega⟩)).symm⟩
    have h9 := len_succ (k := 1099511627776) h48 (by have := ff.1; rwa [Rat.num_intCast] at this)
    omega
    intro c45
    refine cp_skip ?_
    refine join_end (((n7, some ⟨b1, o1, none⟩, l7, c7), (r * (((2 ^ e : Nat) : Int) : Rat)).floor, 0)) ?_ ?_
    exact ⟨rfl, rfl, rfl, rfl, rfl, trivial⟩
    exact ⟨_, hst, h5, h7, by omega, (halfEven_down (fun h => by rcases h with h | h <;> first | omega | (have := h.2; omega) | exact absurd h.1 (by assumption) | (have h1 := h.2; rw [Nat.zero_add] at h1; exact absurd h1 (by decide)))).symm⟩
    intro s37
    refine stepK_pass rfl rfl rfl rfl rfl rfl rfl ?_
    refine stepK_pass rfl rfl rfl rfl rfl rfl rfl ?_
    refine stepK_pass rfl rfl rfl rfl rfl rfl rfl ?_
    refine stepK_pass rfl rfl rfl rfl rfl rfl rfl ?_
    refine stepK_pass rfl rfl rfl rfl rfl rfl rfl ?_
    refine stepK_pass rfl rfl rfl rfl rfl rfl rfl ?_
    refine stepK_guard rfl rfl rfl rfl rfl rfl hst (does_pick_false rfl rfl rfl) ?_
    refine stepK_d rfl rfl rfl hst (does_pick_false rfl rfl rfl) ?_
    refine znt ?_
    refine cp_cond_false rfl ?_
    refine cp_skip ?_
    refine join_end (((n7, A7, l7, c7), (r * (((2 ^ e : Nat) : Int) : Rat)).floor, 0)) ?_ ?_
    exact ⟨rfl, rfl, rfl, rfl, rfl, trivial⟩
    exact ⟨_, hst, h5, h7, by omega, (halfEven_down (fun h => by rcases h with h | h <;> first | omega | (have := h.2; omega) | exact absurd h.1 (by assumption) | (have h1 := h.2; rw [h7.z0.1 (by omega)] at h1; exact absurd h1 (by decide)))).symm⟩
    intro s31
    refine stepK_pass rfl rfl rfl rfl rfl rfl rfl ?_
    refine stepK_pass rfl rfl rfl rfl rfl rfl rfl ?_
    refine stepK_pass rfl rfl rfl rfl rfl rfl rfl ?_
    refine stepK_pass rfl rfl rfl rfl rfl rfl rfl ?_
    refine stepK_guard rfl rfl rfl rfl rfl rfl hst (does_pick_false rfl rfl rfl) ?_
    refine stepK_guard rfl rfl rfl rfl rfl rfl hst (does_move rfl rfl) ?_
    refine stepK_pass rfl rfl rfl rfl rfl rfl rfl ?_
    refine stepK_pass rfl rfl rfl rfl rfl rfl rfl ?_
    refine stepK_pass rfl rfl rfl rfl rfl rfl rfl ?_
    refine stepK_pass rfl rfl rfl rfl rfl rfl rfl ?_
    refine stepK_pass rfl rfl rfl rfl rfl rfl rfl ?_
    refine stepK_pass rfl rfl rfl rfl rfl rfl rfl ?_
    refine stepK_guard rfl rfl rfl rfl rfl rfl hst (does_pick_false rfl rfl rfl) ?_
    refine stepK_d rfl rfl rfl hst (does_pick_false rfl rfl rfl) ?_
    refine znt ?_
    refine cp_cond_false rfl ?_
    refine cp_skip ?_
    refine join_end (((n7, A7, l7, c7), (r * (((2 ^ e : Nat) : Int) : Rat)).floor, 0)) ?_ ?_
    exact ⟨rfl, rfl, rfl, rfl, rfl, trivial⟩
    exact ⟨_, hst, h5, h7, by omega, (halfEven_down (fun h => by rcases h with h | h <;> first | omega | (have := h.2; omega) | exact absurd h.1 (by assumption) | (have h1 := h.2; rw [Nat.zero_add] at h1; exact absurd h1 (by decide)))).symm⟩
  case d18 =>
    clear hst
    clear h5 h7 l7b
    rintro ⟨⟨n7, A7, l7, c7⟩, F, k9⟩ w2 ⟨g2, hst, h5, h7, l7b, hF⟩
    simp only
    refine zsr ?_
    refine stepK_d rfl rfl rfl hst (does_load_ownN 4 rfl (by kernel_rfl) zf89 rfl rfl rfl) ?_
    refine stepK_d rfl rfl rfl hst (does_load_ownN 2 rfl (by kernel_rfl) zf89 rfl rfl rfl) ?_
    refine stepK_call rfl rfl rfl rfl rfl hst (snum_Frac hst.agree h7 h5 (two_pow_ne e) (by omega) (by omega)) ?_
    clear hst
    intro v25 g25 w25 hst hle25 hcs25 hp25
    replace h5 := h5.mono hle25
    replace h7 := h7.mono hle25
    obtain ⟨_, _, _, _, _, _, _, _, rfl, h51⟩ := hp25
    refine stepK_store 1 rfl rfl rfl rfl rfl rfl zf105 rfl rfl hst rfl (by first | (simp [uN_length]; omega) | simp) ?_
    clear hst
    intro w26 hst
    simp only [zL, splice, Nat.reduceAdd] at hst
    refine znt ?_
    refine cp_ret ?_
    refine ret1c (k := 1) rfl rfl (by kernel_rfl) (by kernel_rfl) rfl hst rfl ?_
    unfold dyR
    rw [← hF]
    exact ⟨_, _, _, _, _, _, _, _, rfl, h51⟩

end Go.Proofs.YtnbcedkpkcgmkaaGreatDoor
