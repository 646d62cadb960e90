/- A helper of the claim: general lemmas and walks of functions, printed by a program of this session. Conditions: none. -/
import Derived.Test.YtbamjcfdlgnicaaGreatDoorF6
import Derived.Test.YtbamjcfdlgnicaaGreatDoorProg
import Derived.Test.YtbamjcfdlgnicaaGreatDoorFA
import Derived.Test.YtbamjcfdlgnicaaGreatDoorQX
import Derived.Test.YtbamjcfdlgnicaaGreatDoorF0
namespace Go.Proofs.YtbamjcfdlgnicaaGreatDoor
open Go Go.RowKit Go.Proofs.Vc
set_option linter.unusedVariables false
set_option linter.unusedSimpArgs false

set_option maxHeartbeats 1000000 in
theorem keep_Short {g : Mem} {w : World} (hag : Agree g w) {bl : Nat} {ss : List ByteArray} (hc : ∀ (j : Nat) s, ss[j]? = some s → gcell g bl j = some (.string s)) (hl : ss.length ≤ 1000000) {n : Nat} :
    CallTo Tryz.prog 52 #[.int .i64 (n : Int), .slice (some ⟨bl, 0, none⟩) ss.length ss.length] w (Ret w g fun v g => v = .bool (decide (∀ s ∈ ss, s.size ≤ n))) := by
  refine CallTo.enter (vs := [.int .i64 (n : Int), .slice (some ⟨bl, 0, none⟩) ss.length ss.length]) zf167 (by kernel_rfl) rfl rfl rfl ?_
  have hst := St.init hag
  refine zsr ?_
  refine zA rfl hst rfl ?_
  refine znq ?_
  refine zsr ?_
  refine zA rfl hst rfl ?_
  refine znt ?_
  refine cp_block ?_
  refine cp_loop (ι := Nat) (fun k => [(0, .int .i64 (n : Int)), (1, .slice (some ⟨bl, 0, none⟩) ss.length ss.length), (5, .int .i64 (k : Int))]) (fun k w1 => St w [] g g [] w1 ∧ k ≤ ss.length ∧ ∀ s ∈ ss.take k, s.size ≤ n) (fun k => ss.length - k) 0 ?k1 ?i1 ?r1
  case k1 => exact ⟨rfl, rfl, rfl, trivial⟩
  case i1 =>
    exact ⟨hst, Nat.zero_le _, by simp⟩
  case r1 =>
    clear hst
    rintro k w1 ⟨hst, hk, hd⟩
    refine cp_seq ?_
    refine zsr ?_
    refine zM rfl hst rfl ?_
    refine zM rfl hst rfl ?_
    refine stepK_d rfl rfl rfl hst (does_len_slice rfl zf168 rfl) ?_
    refine stepK_d rfl rfl rfl hst (does_lss rfl rfl rfl) ?_
    refine znt ?_
    refine cp_if rfl ?_ ?_
    intro c9
    refine cp_skip ?_
    refine cp_then ?_
    refine cp_seq ?_
    refine cp_block ?_
    refine cp_seq ?_
    obtain ⟨x, hx⟩ : ∃ x, ss[k]? = some x := ⟨_, List.getElem?_eq_getElem (by omega)⟩
    refine cp_region ?_
    refine zM rfl hst rfl ?_
    refine zM rfl hst rfl ?_
    refine stepK_d rfl rfl rfl hst (does_indexAddr1 rfl zf168 (by kernel_rfl) rfl rfl rfl (by omega)) ?_
    refine stepK_d rfl rfl rfl hst (does_load_g1 rfl (by kernel_rfl) rfl (by rw [Nat.zero_add]; exact hc _ _ hx)) ?_
    refine stepK_d rfl rfl rfl hst (does_len_string rfl (by kernel_rfl) rfl) ?_
    refine zM rfl hst rfl ?_
    refine stepK_d rfl rfl rfl hst (does_gtr rfl rfl rfl) ?_
    refine znt ?_
    refine cp_if rfl ?_ ?_
    intro c18
    refine zsr ?_
    refine zA rfl hst rfl ?_
    refine znt ?_
    refine cp_ret ?_
    refine at_block_ret ?_
    refine at_then_ret ?_
    refine at_then_ret ?_
    refine at_block_ret ?_
    refine at_then_ret ?_
    refine ret1 rfl rfl hst ?_
    rw [decide_eq_false (fun h => by have := h x (List.mem_of_getElem? hx); omega)]
    intro c18
    refine cp_skip ?_
    refine at_block_normal ?_
    refine cp_then ?_
    refine cp_region ?_
    refine zM rfl hst rfl ?_
    refine stepK_d rfl rfl rfl hst (Does.int (does_add rfl rfl rfl) (wrap_i64 (by omega) (by omega))) ?_
    refine zA rfl hst rfl ?_
    refine wpK_nil ?_
    refine round_end (k + 1) ?_ ?_ ?_
    exact ⟨rfl, rfl, rfl, trivial⟩
    refine ⟨hst, by omega, fun y hy => ?_⟩
    rw [List.take_add_one, hx] at hy
    rcases List.mem_append.1 hy with hy | hy
    exact hd y hy
    have : y = x := by simpa using hy
    subst this
    omega
    omega
    intro c9
    refine cp_exit ?_
    refine at_then_exit ?_
    refine at_then_exit ?_
    refine cp_exit_here ?_
    refine cp_then ?_
    refine zsr ?_
    refine zA rfl hst rfl ?_
    refine znt ?_
    refine cp_ret ?_
    refine ret1 rfl rfl hst ?_
    rw [decide_eq_true]
    intro s hs
    exact hd s (by rw [List.take_of_length_le (by omega)]; exact hs)

end Go.Proofs.YtbamjcfdlgnicaaGreatDoor

namespace Go.Proofs.YtbamjcfdlgnicaaGreatDoor
open Go Go.RowKit Go.Proofs.Vc
set_option linter.unusedVariables false
set_option linter.unusedSimpArgs false

set_option maxHeartbeats 1000000 in
theorem sref_Valid {g : Mem} {w : World} (hag : Agree g w) {a : ByteArray} (ha : a.size < 50000000) :
    CallTo Tryz.prog 72 #[.string a] w (Ret w g fun v g => v = .bool (readR a).isSome) := by
  refine CallTo.enter (vs := [.string a]) zf169 (by kernel_rfl) rfl rfl rfl ?_
  have hst := St.init hag
  refine zsr ?_
  refine zA rfl hst rfl ?_
  refine zn4 ?_
  refine zM rfl hst rfl ?_
  refine stepK_call rfl rfl rfl rfl rfl hst (snum_Read hst.agree (by omega)) ?_
  clear hst
  intro v1 g1 w1 hst hle1 hcs1 hp1
  obtain ⟨na, A, n, c, nb, B, m, d, ok, ρ, rfl, hq, hy, hn⟩ := hp1
  refine zM rfl hst rfl ?_
  refine zE rfl hst rfl rfl ?_
  refine zE rfl hst rfl rfl ?_
  refine stepK_alloc rfl rfl rfl rfl zf121 rfl hst ?_
  clear hst
  intro b2 w2 hst
  refine stepK_store 0 rfl rfl rfl rfl rfl rfl zf119 rfl rfl hst rfl (by first | (simp [uN_length]; omega) | simp) ?_
  clear hst
  intro w3 hst
  simp only [zL, splice, Nat.reduceAdd] at hst
  refine zA rfl hst rfl ?_
  refine zn4 ?_
  refine zM rfl hst rfl ?_
  refine zA rfl hst rfl ?_
  refine znt ?_
  refine cp_ret ?_
  refine ret1 rfl rfl hst ?_
  cases ok
  rw [hn rfl]
  rfl
  rw [hy rfl]
  rfl

set_option maxHeartbeats 1000000 in
theorem sref_Parts {g : Mem} {w : World} (hag : Agree g w) {a : ByteArray} (ha : a.size < 50000000) :
    CallTo Tryz.prog 63 #[.string a] w (Ret w g fun v g => v = .tuple #[.string (ratS ((getR a).num : Rat)), .string (ratS (((getR a).den : Int) : Rat))]) := by
  refine CallTo.enter (vs := [.string a]) zf170 (by kernel_rfl) rfl rfl rfl ?_
  have hst := St.init hag
  have sa := getR_sz a
  have fa := sa.fitH (by omega)
  refine zsr ?_
  refine zA rfl hst rfl ?_
  refine zA rfl hst rfl ?_
  refine zn4 ?_
  refine zM rfl hst rfl ?_
  refine stepK_call rfl rfl rfl rfl rfl hst (snum_Num hst.agree (by omega)) ?_
  clear hst
  intro v1 g1 w1 hst hle1 hcs1 hp1
  obtain ⟨na, A, ln, c, nb, B, m, d, rfl, hx⟩ := hp1
  refine stepK_alloc rfl rfl rfl rfl zf121 rfl hst ?_
  clear hst
  intro b2 w2 hst
  refine stepK_store 0 rfl rfl rfl rfl rfl rfl zf119 rfl rfl hst rfl (by first | (simp [uN_length]; omega) | simp) ?_
  clear hst
  intro w3 hst
  simp only [zL, splice, Nat.reduceAdd] at hst
  refine znq ?_
  refine cp_drawn (by kernel_rfl) 10 [(0, true), (1, true), (2, true), (4, true), (3, false), (5, false), (6, true), (7, false), (8, true), (9, true)] _ rfl (by kernel_rfl) (by kernel_rfl) (by kernel_rfl) (fun _ _ _ _ _ h => h) _ (hst.drew) ?_
  have hst0 := hst.drew
  clear hst
  have hst := hst0
  refine stepD_d rfl rfl rfl rfl (does_fieldAddr rfl zf124 rfl) ?_
  refine stepD_d rfl rfl rfl rfl (does_load_ownN 0 rfl (by kernel_rfl) zf103 rfl rfl rfl) ?_
  refine stepD_d rfl rfl rfl rfl (does_build rfl zf122 rfl rfl) ?_
  refine stepD_d rfl rfl rfl rfl (does_load_ownN 0 rfl (by kernel_rfl) zf119 rfl rfl rfl) ?_
  refine stepD_call rfl rfl rfl rfl rfl rfl hst (snum_Text hst.agree (IsQ.int hx.1) (Sz.fitH (sa.numI) (by omega))) (fun _ _ h hle => St.older h hle (by simp) hst0.ext hst0.le) ?_
  clear hst
  intro v4 g4 w4 hst hle4 hcs4 hp4
  have hlesum := hle4
  replace hx := hx.mono hle4
  obtain rfl := hp4
  refine stepD_call rfl rfl rfl rfl rfl rfl hst (snum_Den hst.agree hx) (fun _ _ h hle => St.older h (Mem.le.trans hlesum hle) (by simp) hst0.ext hst0.le) ?_
  clear hst
  intro v5 g5 w5 hst hle5 hcs5 hp5
  replace hlesum := Mem.le.trans hlesum hle5
  replace hx := hx.mono hle5
  obtain ⟨nd1, D1, dn1, dc1, rfl, hd1⟩ := hp5
  refine stepD_d rfl rfl rfl rfl (does_build rfl zf122 rfl rfl) ?_
  refine stepD_call rfl rfl rfl rfl rfl rfl hst (snum_Text hst.agree (IsQ.int hd1) (Sz.fitH (sa.denI) (by omega))) (fun _ _ h hle => St.older h (Mem.le.trans hlesum hle) (by simp) hst0.ext hst0.le) ?_
  clear hst
  intro v6 g6 w6 hst hle6 hcs6 hp6
  replace hlesum := Mem.le.trans hlesum hle6
  replace hx := hx.mono hle6
  replace hd1 := hd1.mono hle6
  obtain rfl := hp6
  refine stepD_d rfl rfl rfl rfl (does_assign rfl rfl) ?_
  refine stepD_d rfl rfl rfl rfl (does_assign rfl rfl) ?_
  refine stepD_tail ?_
  refine znt ?_
  refine cp_ret ?_
  refine ret2 rfl rfl rfl hst ?_
  rfl

set_option maxHeartbeats 1000000 in
theorem sref_Bits {g : Mem} {w : World} (hag : Agree g w) {a : ByteArray} (ha : a.size < 50000000) :
    CallTo Tryz.prog 82 #[.string a] w (Ret w g fun v g => v = .int .i64 ((bitLen (getR a).num.natAbs + bitLen (getR a).den : Nat) : Int)) := by
  refine CallTo.enter (vs := [.string a]) zf171 (by kernel_rfl) rfl rfl rfl ?_
  have hst := St.init hag
  have sa := getR_sz a
  have fa := sa.fitH (by omega)
  have hb1 := bitLen_sz sa.1
  have hb2 := bitLen_sz sa.2
  refine zsr ?_
  refine zA rfl hst rfl ?_
  refine zn4 ?_
  refine zM rfl hst rfl ?_
  refine stepK_call rfl rfl rfl rfl rfl hst (snum_Num hst.agree (by omega)) ?_
  clear hst
  intro v1 g1 w1 hst hle1 hcs1 hp1
  obtain ⟨na, A, ln, c, nb, B, m, d, rfl, hx⟩ := hp1
  have l1 := hx.1.len fa.1
  refine stepK_alloc rfl rfl rfl rfl zf121 rfl hst ?_
  clear hst
  intro b2 w2 hst
  refine stepK_store 0 rfl rfl rfl rfl rfl rfl zf119 rfl rfl hst rfl (by first | (simp [uN_length]; omega) | simp) ?_
  clear hst
  intro w3 hst
  simp only [zL, splice, Nat.reduceAdd] at hst
  refine znq ?_
  refine cp_drawn (by kernel_rfl) 8 [(0, true), (1, true), (3, true), (2, false), (4, false), (5, false), (6, true), (7, true)] _ rfl (by kernel_rfl) (by kernel_rfl) (by kernel_rfl) (fun _ _ _ _ _ h => h) _ (hst.drew) ?_
  have hst0 := hst.drew
  clear hst
  have hst := hst0
  refine stepD_d rfl rfl rfl rfl (does_fieldAddr rfl zf124 rfl) ?_
  refine stepD_d rfl rfl rfl rfl (does_load_ownN 0 rfl (by kernel_rfl) zf103 rfl rfl rfl) ?_
  refine stepD_d rfl rfl rfl rfl (does_load_ownN 0 rfl (by kernel_rfl) zf119 rfl rfl rfl) ?_
  refine stepD_call rfl rfl rfl rfl rfl rfl hst (snum_Bits hst.agree hx.1 (by omega)) (fun _ _ h hle => St.older h hle (by simp) hst0.ext hst0.le) ?_
  clear hst
  intro v4 g4 w4 hst hle4 hcs4 hp4
  have hlesum := hle4
  replace hx := hx.mono hle4
  obtain rfl := hp4
  refine stepD_call rfl rfl rfl rfl rfl rfl hst (snum_Den hst.agree hx) (fun _ _ h hle => St.older h (Mem.le.trans hlesum hle) (by simp) hst0.ext hst0.le) ?_
  clear hst
  intro v5 g5 w5 hst hle5 hcs5 hp5
  replace hlesum := Mem.le.trans hlesum hle5
  replace hx := hx.mono hle5
  obtain ⟨nd1, D1, dn1, dc1, rfl, hd1⟩ := hp5
  have l2 := hd1.len fa.2
  refine stepD_call rfl rfl rfl rfl rfl rfl hst (snum_Bits hst.agree hd1 (by omega)) (fun _ _ h hle => St.older h (Mem.le.trans hlesum hle) (by simp) hst0.ext hst0.le) ?_
  clear hst
  intro v6 g6 w6 hst hle6 hcs6 hp6
  replace hlesum := Mem.le.trans hlesum hle6
  replace hx := hx.mono hle6
  replace hd1 := hd1.mono hle6
  obtain rfl := hp6
  refine stepD_d rfl rfl rfl rfl (Does.int (does_add rfl rfl rfl) (show _ = ((bitLen (getR a).num.natAbs + bitLen (getR a).den : Nat) : Int) by rw [Int.natAbs_natCast, wrap_i64 (by omega) (by omega)]; omega)) ?_
  refine stepD_d rfl rfl rfl rfl (does_assign rfl rfl) ?_
  refine stepD_tail ?_
  refine znt ?_
  refine cp_ret ?_
  refine ret1 rfl rfl hst ?_
  rfl

end Go.Proofs.YtbamjcfdlgnicaaGreatDoor
