/- The walks of functions, printed by a program of this session out of its specs. -/
import Derived.Test.YtnbcedkpkcgmkaaGreatDoorBN
import Derived.Test.YtnbcedkpkcgmkaaGreatDoorBR
import Derived.Test.YtnbcedkpkcgmkaaGreatDoorCN
import Derived.Test.YtnbcedkpkcgmkaaGreatDoorFN
import Derived.Test.YtnbcedkpkcgmkaaGreatDoorFA
import Derived.Test.YtnbcedkpkcgmkaaGreatDoorQ3
import Derived.Test.YtnbcedkpkcgmkaaGreatDoorProg
import Derived.Test.YtnbcedkpkcgmkaaGreatDoorF0
namespace Go.Proofs.YtnbcedkpkcgmkaaGreatDoor
open Go Go.RowKit Go.Proofs.Vc
set_option linter.unusedVariables false
set_option linter.unusedSimpArgs false

set_option maxHeartbeats 8000000 in
theorem NearestBest_walk {g : Mem} {w : World} (hag : Agree g w) (hT : TabG Tryz.prog g) {a b : ByteArray} {c : Int} (z1 : -9223372036854775808 ≤ c) (z2 : c ≤ 9223372036854775807) :
    CallTo Tryz.prog 6 #[.string a, .string b, .int .i64 c] w (Ret w g fun v g => v = .bool true) := by
  refine CallTo.enter (vs := [.string a, .string b, .int .i64 c]) zf163 (by kernel_rfl) rfl rfl rfl ?_
  have hst := St.init hag
  refine zsr ?_
  refine zA rfl hst rfl ?_
  refine znq ?_
  refine zsr ?_
  refine zM rfl hst rfl ?_
  refine stepK_d rfl rfl rfl hst (does_len_string rfl (by kernel_rfl) rfl) ?_
  refine stepK_d rfl rfl rfl hst (does_gtr rfl rfl rfl) ?_
  refine zM rfl hst rfl ?_
  refine wpK_split (t := 16) rfl ?_ ?_
  intro s16
  refine stepK_pass rfl rfl rfl rfl rfl rfl rfl ?_
  refine stepK_pass rfl rfl rfl rfl rfl rfl rfl ?_
  refine stepK_pass rfl rfl rfl rfl rfl rfl rfl ?_
  refine stepK_d rfl rfl rfl hst (does_pick_true rfl rfl rfl) ?_
  refine znt ?_
  refine cp_cond_true rfl ?_
  refine zsr ?_
  refine stepK_call rfl rfl rfl rfl rfl hst (law28_known hst.agree hT) ?_
  clear hst
  intro v1 g1 w1 hst hle1 hcs1 hp1
  replace hT := hT.mono hle1
  obtain rfl := hp1
  refine zA rfl hst rfl ?_
  refine zn5 ?_
  refine ret1 rfl rfl hst ?_
  first
  | rfl
  | contradiction
  | simp_all
  intro s16
  have ha : a.size ≤ 40 := by omega
  refine stepK_guard rfl rfl rfl rfl rfl rfl hst (does_move rfl rfl) ?_
  refine stepK_guard rfl rfl rfl rfl rfl rfl hst (does_len_string rfl (by kernel_rfl) rfl) ?_
  refine stepK_guard rfl rfl rfl rfl rfl rfl hst (does_gtr rfl rfl rfl) ?_
  refine stepK_d rfl rfl rfl hst (does_pick_false rfl rfl rfl) ?_
  refine znt ?_
  refine cp_if rfl ?_ ?_
  intro c20
  refine zsr ?_
  refine stepK_call rfl rfl rfl rfl rfl hst (law28_known hst.agree hT) ?_
  clear hst
  intro v2 g2 w2 hst hle2 hcs2 hp2
  replace hT := hT.mono hle2
  obtain rfl := hp2
  refine zA rfl hst rfl ?_
  refine zn5 ?_
  refine ret1 rfl rfl hst ?_
  first
  | rfl
  | contradiction
  | simp_all
  intro c20
  have hb : b.size ≤ 40 := by omega
  obtain ⟨K, hK1, hK2, hK, hK3, hK4, hK5, hK6⟩ := smallK c 60 (by decide)
  refine zk4 ?_
  refine zM rfl hst rfl ?_
  refine stepK_call rfl rfl rfl rfl rfl hst (snum_Read hst.agree (by omega)) ?_
  clear hst
  intro v3 g3 w3 hst hle3 hcs3 hp3
  replace hT := hT.mono hle3
  obtain ⟨na7, A7, n7, c7, nb7, B7, m7, d7, ok1, ρ1, rfl, h7, hy1, hn1⟩ := hp3
  refine zM rfl hst rfl ?_
  refine zE rfl hst rfl rfl ?_
  refine zE rfl hst rfl rfl ?_
  refine stepK_alloc rfl rfl rfl rfl zf107 rfl hst ?_
  clear hst
  intro b7 w4 hst
  refine stepK_store 0 rfl rfl rfl rfl rfl rfl zf105 rfl rfl hst rfl (by first | (simp [uN_length]; omega) | simp) ?_
  clear hst
  intro w5 hst
  simp only [zL, splice, Nat.reduceAdd] at hst
  refine zA rfl hst rfl ?_
  refine zn4 ?_
  refine zM rfl hst rfl ?_
  refine stepK_call rfl rfl rfl rfl rfl hst (snum_Read hst.agree (by omega)) ?_
  clear hst
  intro v6 g6 w6 hst hle6 hcs6 hp6
  replace hT := hT.mono hle6
  replace h7 := h7.mono hle6
  obtain ⟨na9, A9, n9, c9, nb9, B9, m9, d9, ok2, ρ2, rfl, h9, hy2, hn2⟩ := hp6
  refine zM rfl hst rfl ?_
  refine zE rfl hst rfl rfl ?_
  refine zE rfl hst rfl rfl ?_
  refine stepK_alloc rfl rfl rfl rfl zf107 rfl hst ?_
  clear hst
  intro b9 w7 hst
  refine stepK_store 1 rfl rfl rfl rfl rfl rfl zf105 rfl rfl hst rfl (by first | (simp [uN_length]; omega) | simp) ?_
  clear hst
  intro w8 hst
  simp only [zL, splice, Nat.reduceAdd] at hst
  refine zA rfl hst rfl ?_
  refine znt ?_
  refine cp_join (ι := ByteArray × Bool × Rat × (Bool × Option Addr × Nat × Nat × Bool × Option Addr × Nat × Nat)) (fun (b2, ok3, ρ, (na6, A6, n6, c6, nb6, B6, m6, d6)) => [(0, .string a), (1, .string b2), (2, .int .i64 c), (7, .pointer (some ⟨b7, 0, none⟩)), (8, .bool ok1), (9, .pointer (some ⟨b9, 0, none⟩)), (10, .bool ok3)]) (fun (b2, ok3, ρ, (na6, A6, n6, c6, nb6, B6, m6, d6)) w2 => ∃ g2, St w [] g g2 [(b7, .cells #[.bool na7, .slice A7 n7 c7, .bool nb7, .slice B7 m7 d7] 30 (0, 0)), (b9, .cells #[.bool na6, .slice A6 n6 c6, .bool nb6, .slice B6 m6 d6] 30 (0, 0))] w2 ∧ TabG Tryz.prog g2 ∧ IsQ g2 na7 A7 n7 nb7 B7 m7 (ρ1) ∧ IsQ g2 na6 A6 n6 nb6 B6 m6 (ρ) ∧ LimOk b2 ok3 ρ K) ?c9 ?d9
  case c9 =>
    refine zsr ?_
    refine zM rfl hst rfl ?_
    refine zM rfl hst rfl ?_
    refine wpK_splitb (t := 33) rfl ?_ ?_
    intro s33
    subst s33
    have e2 := hy2 rfl
    have g2e : getR b = ρ2 := by unfold getR; rw [e2]; rfl
    have sy := (getR_sz b).mono (m := 61) (by omega)
    rw [g2e] at sy
    have fy := sy.fitH (by decide)
    refine stepK_guard rfl rfl rfl rfl rfl rfl hst (does_load_ownN 1 rfl (by kernel_rfl) zf105 rfl rfl rfl) ?_
    refine stepK_call_guard rfl rfl rfl rfl rfl rfl rfl rfl hst (snum_RSign hst.agree h9) ?_
    clear hst
    intro v10 g10 w10 hst hle10 hcs10 hp10
    replace hT := hT.mono hle10
    replace h7 := h7.mono hle10
    replace h9 := h9.mono hle10
    obtain rfl := hp10
    refine stepK_guard rfl rfl rfl rfl rfl rfl hst (does_gtr rfl rfl rfl) ?_
    refine stepK_d rfl rfl rfl hst (does_pick_true rfl rfl rfl) ?_
    refine zM rfl hst rfl ?_
    refine wpK_split (t := 38) rfl ?_ ?_
    intro s38
    refine stepK_guard rfl rfl rfl rfl rfl rfl hst (does_load_ownN 1 rfl (by kernel_rfl) zf105 rfl rfl rfl) ?_
    refine stepK_call_guard rfl rfl rfl rfl rfl rfl rfl rfl hst (snum_Den hst.agree h9) ?_
    clear hst
    intro v11 g11 w11 hst hle11 hcs11 hp11
    replace hT := hT.mono hle11
    replace h7 := h7.mono hle11
    replace h9 := h9.mono hle11
    obtain ⟨_, _, l40, _, rfl, h40⟩ := hp11
    have l40b := h40.len fy.2
    refine stepK_call_guard rfl rfl rfl rfl rfl rfl rfl rfl hst (snum_Bits hst.agree h40 (by omega)) ?_
    clear hst
    intro v12 g12 w12 hst hle12 hcs12 hp12
    replace hT := hT.mono hle12
    replace h7 := h7.mono hle12
    replace h9 := h9.mono hle12
    replace h40 := h40.mono hle12
    obtain rfl := hp12
    rw [Int.natAbs_natCast]
    refine stepK_guard rfl rfl rfl rfl rfl rfl hst (does_eql rfl rfl rfl) ?_
    refine stepK_d rfl rfl rfl hst (does_pick_true rfl rfl rfl) ?_
    refine znt ?_
    refine cp_if rfl ?_ ?_
    intro c43
    refine zsr ?_
    refine zM rfl hst rfl ?_
    refine stepK_d rfl rfl rfl hst (does_rem rfl rfl rfl (by decide)) ?_
    refine stepK_d rfl rfl rfl hst (Does.int (does_add rfl rfl rfl) (wrap_i64 (by omega) (by omega))) ?_
    refine stepK_d rfl rfl rfl hst (does_rem rfl rfl rfl (by decide)) ?_
    refine stepK_d rfl rfl rfl hst (Does.nat (b := K) (Does.int (does_add rfl rfl rfl) (wrap_i64 (by omega) (by omega))) hK) ?_
    refine stepK_call rfl rfl rfl rfl rfl hst (snum_R hst.agree (x := (K : Int)) (by omega) (by omega)) ?_
    clear hst
    intro v13 g13 w13 hst hle13 hcs13 hp13
    replace hT := hT.mono hle13
    replace h7 := h7.mono hle13
    replace h9 := h9.mono hle13
    replace h40 := h40.mono hle13
    obtain ⟨na5, A5, n5, c5, nb5, B5, m5, d5, rfl, h5⟩ := hp13
    refine stepK_store 1 rfl rfl rfl rfl rfl rfl zf105 rfl rfl hst rfl (by first | (simp [uN_length]; omega) | simp) ?_
    clear hst
    intro w14 hst
    simp only [zL, splice, Nat.reduceAdd] at hst
    refine znt ?_
    have sK : Sz 2 ((K : Int) : Rat) := intR_sz (by rw [Int.natAbs_natCast]; omega) (by decide)
    refine cp_region ?_
    refine stepK_d rfl rfl rfl hst (does_load_ownN 1 rfl (by kernel_rfl) zf105 rfl rfl rfl) ?_
    refine stepK_call rfl rfl rfl rfl rfl hst (snum_Text hst.agree h5 (sK.fitH (by decide))) ?_
    clear hst
    intro v15 g15 w15 hst hle15 hcs15 hp15
    replace hT := hT.mono hle15
    replace h7 := h7.mono hle15
    replace h9 := h9.mono hle15
    replace h40 := h40.mono hle15
    replace h5 := h5.mono hle15
    obtain rfl := hp15
    refine zA rfl hst rfl ?_
    refine wpK_nil ?_
    refine join_end ((ratS ((K : Int) : Rat), true, ((K : Int) : Rat), (na5, A5, n5, c5, nb5, B5, m5, d5))) ?_ ?_
    exact ⟨rfl, rfl, rfl, rfl, rfl, rfl, rfl, trivial⟩
    exact ⟨_, hst, hT, h7, h5, lim_K hK1 (by omega)⟩
    intro c43
    refine cp_skip ?_
    refine join_end ((b, true, ρ2, (na9, A9, n9, c9, nb9, B9, m9, d9))) ?_ ?_
    exact ⟨rfl, rfl, rfl, rfl, rfl, rfl, rfl, trivial⟩
    exact ⟨_, hst, hT, h7, h9, ⟨by omega, hy2, hn2, fun _ h _ => absurd (by rw [h]; decide) c43⟩⟩
    intro s38
    refine stepK_pass rfl rfl rfl rfl rfl rfl rfl ?_
    refine stepK_pass rfl rfl rfl rfl rfl rfl rfl ?_
    refine stepK_pass rfl rfl rfl rfl rfl rfl rfl ?_
    refine stepK_pass rfl rfl rfl rfl rfl rfl rfl ?_
    refine stepK_d rfl rfl rfl hst (does_pick_false rfl rfl rfl) ?_
    refine znt ?_
    refine cp_cond_false rfl ?_
    refine cp_skip ?_
    refine join_end ((b, true, ρ2, (na9, A9, n9, c9, nb9, B9, m9, d9))) ?_ ?_
    exact ⟨rfl, rfl, rfl, rfl, rfl, rfl, rfl, trivial⟩
    exact ⟨_, hst, hT, h7, h9, ⟨by omega, hy2, hn2, fun _ _ h => absurd (sgn_pos.2 h) s38⟩⟩
    intro s33
    subst s33
    refine stepK_pass rfl rfl rfl rfl rfl rfl rfl ?_
    refine stepK_pass rfl rfl rfl rfl rfl rfl rfl ?_
    refine stepK_pass rfl rfl rfl rfl rfl rfl rfl ?_
    refine stepK_d rfl rfl rfl hst (does_pick_false rfl rfl rfl) ?_
    refine zM rfl hst rfl ?_
    refine stepK_pass rfl rfl rfl rfl rfl rfl rfl ?_
    refine stepK_pass rfl rfl rfl rfl rfl rfl rfl ?_
    refine stepK_pass rfl rfl rfl rfl rfl rfl rfl ?_
    refine stepK_pass rfl rfl rfl rfl rfl rfl rfl ?_
    refine stepK_d rfl rfl rfl hst (does_pick_false rfl rfl rfl) ?_
    refine znt ?_
    refine cp_cond_false rfl ?_
    refine cp_skip ?_
    refine join_end ((b, false, ρ2, (na9, A9, n9, c9, nb9, B9, m9, d9))) ?_ ?_
    exact ⟨rfl, rfl, rfl, rfl, rfl, rfl, rfl, trivial⟩
    exact ⟨_, hst, hT, h7, h9, ⟨by omega, hy2, hn2, fun h => by cases h⟩⟩
  case d9 =>
    clear hst
    clear hT h7 h9 hy2 hn2
    rintro ⟨b2, ok3, ρ, ⟨na6, A6, n6, c6, nb6, B6, m6, d6⟩⟩ w2 ⟨g2, hst, hT, h7, h6, hlim⟩
    simp only
    have hb2 := hlim.size
    have sy := (getR_sz b2).mono (m := 61) (by omega)
    refine zsr ?_
    refine zM rfl hst rfl ?_
    refine zM rfl hst rfl ?_
    refine stepK_call rfl rfl rfl rfl rfl hst (nearest_Best hst.agree hT (a := a) (b := b2) (by omega) hb2) ?_
    clear hst
    intro v16 g16 w16 hst hle16 hcs16 hp16
    replace hT := hT.mono hle16
    replace h7 := h7.mono hle16
    replace h6 := h6.mono hle16
    obtain ⟨s, e, rfl, hB⟩ := hp16
    refine zM rfl hst rfl ?_
    refine zE rfl hst rfl rfl ?_
    refine zE rfl hst rfl rfl ?_
    refine zA rfl hst rfl ?_
    refine zA rfl hst rfl ?_
    refine znq ?_
    refine zsr ?_
    refine zM rfl hst rfl ?_
    refine stepK_d rfl rfl rfl hst (does_not rfl rfl) ?_
    refine zM rfl hst rfl ?_
    refine wpK_splitb (t := 60) rfl ?_ ?_
    intro s60
    have hno : ¬ ((readR a).isSome ∧ (readR b2).isSome) := fun h => by have e9 := hn1 (by simpa using s60); rw [e9] at h; cases h.1
    obtain ⟨rfl, rfl⟩ := hB.1 hno
    refine stepK_pass rfl rfl rfl rfl rfl rfl rfl ?_
    refine stepK_pass rfl rfl rfl rfl rfl rfl rfl ?_
    refine stepK_d rfl rfl rfl hst (does_pick_true rfl rfl rfl) ?_
    refine znt ?_
    refine cp_cond_true rfl ?_
    refine zsr ?_
    refine stepK_call rfl rfl rfl rfl rfl hst (law28_known hst.agree hT) ?_
    clear hst
    intro v17 g17 w17 hst hle17 hcs17 hp17
    replace hT := hT.mono hle17
    replace h7 := h7.mono hle17
    replace h6 := h6.mono hle17
    obtain rfl := hp17
    refine zM rfl hst rfl ?_
    refine stepK_guard rfl rfl rfl rfl rfl rfl hst (does_move rfl rfl) ?_
    refine stepK_guard rfl rfl rfl rfl rfl rfl hst (Does.yes (does_eql rfl rfl rfl) rfl) ?_
    refine stepK_d rfl rfl rfl hst (does_pick_true rfl rfl rfl) ?_
    refine zM rfl hst rfl ?_
    refine stepK_guard rfl rfl rfl rfl rfl rfl hst (does_move rfl rfl) ?_
    refine stepK_guard rfl rfl rfl rfl rfl rfl hst (Does.yes (does_eql_string rfl rfl rfl) rfl) ?_
    refine stepK_d rfl rfl rfl hst (does_pick_true rfl rfl rfl) ?_
    refine zA rfl hst rfl ?_
    refine zn5 ?_
    refine ret1 rfl rfl hst ?_
    first
    | rfl
    | contradiction
    | simp_all
    intro s60
    have ho1 : ok1 = true := by simpa using s60
    have e1 := hy1 ho1
    have g1 : getR a = ρ1 := by unfold getR; rw [e1]; rfl
    have hs1 : (readR a).isSome = true := by rw [e1]; rfl
    refine stepK_guard rfl rfl rfl rfl rfl rfl hst (does_move rfl rfl) ?_
    refine stepK_guard rfl rfl rfl rfl rfl rfl hst (does_not rfl rfl) ?_
    refine stepK_d rfl rfl rfl hst (does_pick_false rfl rfl rfl) ?_
    refine znt ?_
    refine cp_cond rfl ?_ ?_
    intro c63
    have hno : ¬ ((readR a).isSome ∧ (readR b2).isSome) := fun h => by first | assumption | (have e9 := hlim.no (by simpa using c63); rw [e9] at h; cases h.2)
    obtain ⟨rfl, rfl⟩ := hB.1 hno
    refine zsr ?_
    refine stepK_call rfl rfl rfl rfl rfl hst (law28_known hst.agree hT) ?_
    clear hst
    intro v18 g18 w18 hst hle18 hcs18 hp18
    replace hT := hT.mono hle18
    replace h7 := h7.mono hle18
    replace h6 := h6.mono hle18
    obtain rfl := hp18
    refine zM rfl hst rfl ?_
    refine stepK_guard rfl rfl rfl rfl rfl rfl hst (does_move rfl rfl) ?_
    refine stepK_guard rfl rfl rfl rfl rfl rfl hst (Does.yes (does_eql rfl rfl rfl) rfl) ?_
    refine stepK_d rfl rfl rfl hst (does_pick_true rfl rfl rfl) ?_
    refine zM rfl hst rfl ?_
    refine stepK_guard rfl rfl rfl rfl rfl rfl hst (does_move rfl rfl) ?_
    refine stepK_guard rfl rfl rfl rfl rfl rfl hst (Does.yes (does_eql_string rfl rfl rfl) rfl) ?_
    refine stepK_d rfl rfl rfl hst (does_pick_true rfl rfl rfl) ?_
    refine zA rfl hst rfl ?_
    refine zn5 ?_
    refine ret1 rfl rfl hst ?_
    first
    | rfl
    | contradiction
    | simp_all
    intro c63
    have ho2 : ok3 = true := by simpa using c63
    have e2 := hlim.yes ho2
    have g2e := hlim.getR ho2
    have hs2 : (readR b2).isSome = true := by rw [e2]; rfl
    rw [g2e] at sy
    have fy := sy.fitH (by decide)
    have sx := (getR_sz a).mono (m := 61) (by omega)
    rw [g1] at sx
    refine cp_skip ?_
    refine cp_then ?_
    refine cp_seq ?_
    refine zsr ?_
    refine stepK_d rfl rfl rfl hst (does_load_ownN 1 rfl (by kernel_rfl) zf105 rfl rfl rfl) ?_
    refine stepK_call rfl rfl rfl rfl rfl hst (snum_Den hst.agree h6) ?_
    clear hst
    intro v19 g19 w19 hst hle19 hcs19 hp19
    replace hT := hT.mono hle19
    replace h7 := h7.mono hle19
    replace h6 := h6.mono hle19
    obtain ⟨_, _, l74, _, rfl, h74⟩ := hp19
    have l74b := h74.len fy.2
    refine stepK_call rfl rfl rfl rfl rfl hst (snum_Bits hst.agree h74 (by omega)) ?_
    clear hst
    intro v20 g20 w20 hst hle20 hcs20 hp20
    replace hT := hT.mono hle20
    replace h7 := h7.mono hle20
    replace h6 := h6.mono hle20
    replace h74 := h74.mono hle20
    obtain rfl := hp20
    rw [Int.natAbs_natCast]
    refine stepK_d rfl rfl rfl hst (does_neq rfl rfl rfl) ?_
    refine zM rfl hst rfl ?_
    refine wpK_split (t := 77) rfl ?_ ?_
    intro s77
    have hrg : ¬ ((getR b2).den = 1 ∧ 0 < getR b2) := fun h => by rw [g2e] at h; have h9 := bitLen_one.2 h.1; omega
    obtain ⟨rfl, rfl⟩ := hB.2.1 ⟨hs1, hs2⟩ hrg
    refine stepK_pass rfl rfl rfl rfl rfl rfl rfl ?_
    refine stepK_pass rfl rfl rfl rfl rfl rfl rfl ?_
    refine stepK_pass rfl rfl rfl rfl rfl rfl rfl ?_
    refine stepK_d rfl rfl rfl hst (does_pick_true rfl rfl rfl) ?_
    refine znt ?_
    refine cp_cond_true rfl ?_
    refine zsr ?_
    refine stepK_call rfl rfl rfl rfl rfl hst (law28_known hst.agree hT) ?_
    clear hst
    intro v21 g21 w21 hst hle21 hcs21 hp21
    replace hT := hT.mono hle21
    replace h7 := h7.mono hle21
    replace h6 := h6.mono hle21
    replace h74 := h74.mono hle21
    obtain rfl := hp21
    refine zM rfl hst rfl ?_
    refine stepK_guard rfl rfl rfl rfl rfl rfl hst (does_move rfl rfl) ?_
    refine stepK_guard rfl rfl rfl rfl rfl rfl hst (Does.yes (does_eql rfl rfl rfl) rfl) ?_
    refine stepK_d rfl rfl rfl hst (does_pick_true rfl rfl rfl) ?_
    refine zM rfl hst rfl ?_
    refine stepK_guard rfl rfl rfl rfl rfl rfl hst (does_move rfl rfl) ?_
    refine stepK_guard rfl rfl rfl rfl rfl rfl hst (Does.yes (does_eql_string rfl rfl rfl) rfl) ?_
    refine stepK_d rfl rfl rfl hst (does_pick_true rfl rfl rfl) ?_
    refine zA rfl hst rfl ?_
    refine zn5 ?_
    refine ret1 rfl rfl hst ?_
    first
    | rfl
    | contradiction
    | simp_all
    intro s77
    refine stepK_guard rfl rfl rfl rfl rfl rfl hst (does_load_ownN 1 rfl (by kernel_rfl) zf105 rfl rfl rfl) ?_
    refine stepK_call_guard rfl rfl rfl rfl rfl rfl rfl rfl hst (snum_RSign hst.agree h6) ?_
    clear hst
    intro v22 g22 w22 hst hle22 hcs22 hp22
    replace hT := hT.mono hle22
    replace h7 := h7.mono hle22
    replace h6 := h6.mono hle22
    replace h74 := h74.mono hle22
    obtain rfl := hp22
    refine stepK_guard rfl rfl rfl rfl rfl rfl hst (does_leq rfl rfl rfl) ?_
    refine stepK_d rfl rfl rfl hst (does_pick_false rfl rfl rfl) ?_
    refine znt ?_
    refine cp_if rfl ?_ ?_
    intro c81
    have hrg : ¬ ((getR b2).den = 1 ∧ 0 < getR b2) := fun h => by first | exact hrg h | (rw [g2e] at h; exact sgn_nonpos.1 c81 h.2)
    obtain ⟨rfl, rfl⟩ := hB.2.1 ⟨hs1, hs2⟩ hrg
    refine zsr ?_
    refine stepK_call rfl rfl rfl rfl rfl hst (law28_known hst.agree hT) ?_
    clear hst
    intro v23 g23 w23 hst hle23 hcs23 hp23
    replace hT := hT.mono hle23
    replace h7 := h7.mono hle23
    replace h6 := h6.mono hle23
    replace h74 := h74.mono hle23
    obtain rfl := hp23
    refine zM rfl hst rfl ?_
    refine stepK_guard rfl rfl rfl rfl rfl rfl hst (does_move rfl rfl) ?_
    refine stepK_guard rfl rfl rfl rfl rfl rfl hst (Does.yes (does_eql rfl rfl rfl) rfl) ?_
    refine stepK_d rfl rfl rfl hst (does_pick_true rfl rfl rfl) ?_
    refine zM rfl hst rfl ?_
    refine stepK_guard rfl rfl rfl rfl rfl rfl hst (does_move rfl rfl) ?_
    refine stepK_guard rfl rfl rfl rfl rfl rfl hst (Does.yes (does_eql_string rfl rfl rfl) rfl) ?_
    refine stepK_d rfl rfl rfl hst (does_pick_true rfl rfl rfl) ?_
    refine zA rfl hst rfl ?_
    refine zn5 ?_
    refine ret1 rfl rfl hst ?_
    first
    | rfl
    | contradiction
    | simp_all
    intro c81
    have hd1 : ρ.den = 1 := bitLen_one.1 (by omega)
    have hpos : 0 < ρ := Decidable.byContradiction fun h => c81 (sgn_nonpos.2 h)
    obtain ⟨rfl, z, hz, rfl⟩ := hB.2.2 ⟨hs1, hs2⟩ K (by omega) (by rw [g2e]; exact hlim.val ho2 hd1 hpos)
    rw [g1] at hz
    refine zk4 ?_
    refine stepK_call rfl rfl rfl rfl rfl hst (law28_known hst.agree hT) ?_
    clear hst
    intro v24 g24 w24 hst hle24 hcs24 hp24
    replace hT := hT.mono hle24
    replace h7 := h7.mono hle24
    replace h6 := h6.mono hle24
    replace h74 := h74.mono hle24
    obtain rfl := hp24
    refine zM rfl hst rfl ?_
    refine stepK_guard rfl rfl rfl rfl rfl rfl hst (does_move rfl rfl) ?_
    refine stepK_guard rfl rfl rfl rfl rfl rfl hst (Does.yes (does_eql rfl rfl rfl) rfl) ?_
    refine stepK_d rfl rfl rfl hst (does_pick_true rfl rfl rfl) ?_
    refine zM rfl hst rfl ?_
    refine stepK_guard rfl rfl rfl rfl rfl rfl hst (does_move rfl rfl) ?_
    refine stepK_guard rfl rfl rfl rfl rfl rfl hst (does_load_ownN 0 rfl (by kernel_rfl) zf105 rfl rfl rfl) ?_
    refine stepK_guard rfl rfl rfl rfl rfl rfl hst (does_move rfl rfl) ?_
    refine stepK_guard rfl rfl rfl rfl rfl rfl hst (does_rem rfl rfl rfl (by decide)) ?_
    refine stepK_guard rfl rfl rfl rfl rfl rfl hst (Does.int (does_add rfl rfl rfl) (wrap_i64 (by omega) (by omega))) ?_
    refine stepK_guard rfl rfl rfl rfl rfl rfl hst (does_rem rfl rfl rfl (by decide)) ?_
    refine stepK_guard rfl rfl rfl rfl rfl rfl hst (Does.nat (b := K) (Does.int (does_add rfl rfl rfl) (wrap_i64 (by omega) (by omega))) hK) ?_
    refine stepK_call_guard rfl rfl rfl rfl rfl rfl rfl rfl hst (sref_Best (k := 61) (L := K) hst.agree h7 sx (by decide) (by omega) (by omega)) ?_
    clear hst
    intro v25 g25 w25 hst hle25 hcs25 hp25
    replace hT := hT.mono hle25
    replace h7 := h7.mono hle25
    replace h6 := h6.mono hle25
    replace h74 := h74.mono hle25
    obtain ⟨na3, A3, n3, c3, nb3, B3, m3, d3, z3, rfl, h3, hB3, s3⟩ := hp25
    obtain rfl := BestIs.unique hz hB3
    refine stepK_call_guard rfl rfl rfl rfl rfl rfl rfl rfl hst (snum_Text hst.agree h3 (s3.fitH (by decide))) ?_
    clear hst
    intro v26 g26 w26 hst hle26 hcs26 hp26
    replace hT := hT.mono hle26
    replace h7 := h7.mono hle26
    replace h6 := h6.mono hle26
    replace h74 := h74.mono hle26
    replace h3 := h3.mono hle26
    obtain rfl := hp26
    refine stepK_guard rfl rfl rfl rfl rfl rfl hst (Does.yes (does_eql_string rfl rfl rfl) rfl) ?_
    refine stepK_d rfl rfl rfl hst (does_pick_true rfl rfl rfl) ?_
    refine zA rfl hst rfl ?_
    refine znt ?_
    refine cp_ret ?_
    refine ret1 rfl rfl hst ?_
    first
    | rfl
    | contradiction
    | simp_all

end Go.Proofs.YtnbcedkpkcgmkaaGreatDoor
