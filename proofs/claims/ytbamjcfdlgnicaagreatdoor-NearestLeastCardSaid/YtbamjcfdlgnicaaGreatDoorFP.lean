/- A helper of the claim: general lemmas and walks of functions, printed by a program of this session. Conditions: none. -/
import Derived.Test.YtbamjcfdlgnicaaGreatDoorXO
import Derived.Test.YtbamjcfdlgnicaaGreatDoorQ1
import Derived.Test.YtbamjcfdlgnicaaGreatDoorProg
import Derived.Test.YtbamjcfdlgnicaaGreatDoorQ3
import Derived.Test.YtbamjcfdlgnicaaGreatDoorF0
namespace Go.Proofs.YtbamjcfdlgnicaaGreatDoor
open Go Go.RowKit Go.Proofs.Vc
set_option linter.unusedVariables false
set_option linter.unusedSimpArgs false

set_option maxHeartbeats 1000000 in
theorem tape_Next {g : Mem} {w : World} (hag : Agree g w) {bo n c i m : Nat} {A : Option Addr} (hs : IntS g A n) (hb : w.heap[bo]? = some (.cells #[.slice A n c, .int .i64 (i : Int)] 101 (0, 0))) (hgb : g bo = none) (hi : i ≤ n) (hn : n ≤ 1000000) (hm : 0 < m) (hm2 : m ≤ 1000000000) :
    CallTo Tryz.prog 26 #[.pointer (some ⟨bo, 0, none⟩), .int .i64 (m : Int)] w (RetM w bo g fun v g o => ∃ z k : Nat, v = .int .i64 (z : Int) ∧ z < m ∧ o = .cells #[.slice A n c, .int .i64 (k : Int)] 101 (0, 0) ∧ k ≤ n) := by
  refine CallTo.enter (vs := [.pointer (some ⟨bo, 0, none⟩), .int .i64 (m : Int)]) (by kernel_rfl : Tryz.prog.funcs[26]? = some Tryz.f26) (by kernel_rfl) rfl rfl rfl ?_
  have hst := St.initM hag hb hgb
  refine zsr ?_
  refine zA rfl hst rfl ?_
  refine znq ?_
  refine cp_seq ?_
  refine cp_drawn (by kernel_rfl) 10 [(0, true), (1, true), (2, true), (3, true), (4, true), (5, true), (6, true), (7, true), (8, true), (9, true)] _ rfl (by kernel_rfl) (by kernel_rfl) (by kernel_rfl) (fun _ _ _ _ _ h => h) _ (hst.drew) ?_
  have hst0 := hst.drew
  clear hst
  have hst := hst0
  refine stepD_d rfl rfl rfl rfl (does_move rfl rfl) ?_
  refine stepD_d rfl rfl rfl rfl (does_nilCheck rfl rfl) ?_
  refine stepD_d rfl rfl rfl rfl (does_fieldAddr rfl (by kernel_rfl : fieldOf Tryz.prog 101 1 = some (1, 0 + 1, false)) rfl) ?_
  refine stepD_d rfl rfl rfl rfl (does_load_ownL 0 rfl (by kernel_rfl) rfl rfl rfl) ?_
  refine stepD_d rfl rfl rfl rfl (does_move rfl rfl) ?_
  refine stepD_d rfl rfl rfl rfl (does_nilCheck rfl rfl) ?_
  refine stepD_d rfl rfl rfl rfl (does_fieldAddr rfl (by kernel_rfl : fieldOf Tryz.prog 101 0 = some (0, 0 + 1, false)) rfl) ?_
  refine stepD_d rfl rfl rfl rfl (does_load_ownL 0 rfl (by kernel_rfl) rfl rfl rfl) ?_
  refine stepD_d rfl rfl rfl rfl (does_len_slice rfl (by kernel_rfl : Program.underlying Tryz.prog 37 = some (.slice 3)) rfl) ?_
  refine stepD_d rfl rfl rfl rfl (does_geq rfl rfl rfl) ?_
  refine stepD_tail ?_
  refine znt ?_
  refine cp_if rfl ?_ ?_
  intro c15
  refine zsr ?_
  refine zA rfl hst rfl ?_
  refine zn5 ?_
  refine retM1 rfl rfl hst ?_
  exact ⟨0, i, rfl, hm, rfl, hi⟩
  intro c15
  have hin : i < n := by omega
  obtain ⟨b1, o1, z, e1, hz, hz1, hz2⟩ := hs.cell hin
  subst e1
  obtain ⟨ht1, ht2⟩ := tmod_bounds (z := z) hm
  obtain ⟨u, hu⟩ : ∃ u : Nat, z.tmod (m : Int) + (m : Int) = (u : Int) := ⟨(z.tmod (m : Int) + (m : Int)).toNat, by omega⟩
  refine cp_skip ?_
  refine cp_then ?_
  refine cp_seq ?_
  refine cp_drawn (by kernel_rfl) 11 [(0, true), (1, true), (2, true), (3, true), (4, true), (5, true), (6, true), (7, true), (8, true), (9, true), (10, true)] _ rfl (by kernel_rfl) (by kernel_rfl) (by kernel_rfl) (fun _ _ _ _ _ h => h) _ (hst.drew) ?_
  have hst0 := hst.drew
  clear hst
  have hst := hst0
  refine stepD_d rfl rfl rfl rfl (does_move rfl rfl) ?_
  refine stepD_d rfl rfl rfl rfl (does_nilCheck rfl rfl) ?_
  refine stepD_d rfl rfl rfl rfl (does_fieldAddr rfl (by kernel_rfl : fieldOf Tryz.prog 101 0 = some (0, 0 + 1, false)) rfl) ?_
  refine stepD_d rfl rfl rfl rfl (does_load_ownL 0 rfl (by kernel_rfl) rfl rfl rfl) ?_
  refine stepD_d rfl rfl rfl rfl (does_move rfl rfl) ?_
  refine stepD_d rfl rfl rfl rfl (does_nilCheck rfl rfl) ?_
  refine stepD_d rfl rfl rfl rfl (does_fieldAddr rfl (by kernel_rfl : fieldOf Tryz.prog 101 1 = some (1, 0 + 1, false)) rfl) ?_
  refine stepD_d rfl rfl rfl rfl (does_load_ownL 0 rfl (by kernel_rfl) rfl rfl rfl) ?_
  refine stepD_d rfl rfl rfl rfl (does_indexAddr1 (j := i) rfl (by kernel_rfl : Program.underlying Tryz.prog 37 = some (.slice 3)) (by kernel_rfl) rfl rfl (by omega) (by omega)) ?_
  refine stepD_d rfl rfl rfl rfl (does_load_g1 rfl (by kernel_rfl) rfl hz) ?_
  refine stepD_d rfl rfl rfl rfl (does_assign rfl rfl) ?_
  refine stepD_tail ?_
  refine zn4 ?_
  refine zM rfl hst rfl ?_
  refine stepK_d rfl rfl rfl hst (does_nilCheck rfl rfl) ?_
  refine stepK_d rfl rfl rfl hst (does_fieldAddr rfl (by kernel_rfl : fieldOf Tryz.prog 101 1 = some (1, 0 + 1, false)) rfl) ?_
  refine stepK_d rfl rfl rfl hst (does_load_ownL 0 rfl (by kernel_rfl) rfl rfl rfl) ?_
  refine stepK_d rfl rfl rfl hst (Does.nat (b := i + 1) (does_add rfl rfl rfl) (by rw [wrap_i64 (by omega) (by omega)]; omega)) ?_
  refine stepK_d rfl rfl rfl hst (does_nilCheck rfl rfl) ?_
  refine stepK_d rfl rfl rfl hst (does_fieldAddr rfl (by kernel_rfl : fieldOf Tryz.prog 101 1 = some (1, 0 + 1, false)) rfl) ?_
  refine stepK_store 0 rfl rfl rfl rfl rfl rfl (by kernel_rfl : sizeB Tryz.prog 3 = some 1) rfl rfl hst rfl (by first | (simp [uN_length]; omega) | simp) ?_
  clear hst
  intro w1 hst
  simp only [zL, splice, Nat.reduceAdd] at hst
  refine zn4 ?_
  refine zM rfl hst rfl ?_
  refine zM rfl hst rfl ?_
  refine stepK_d rfl rfl rfl hst (does_rem rfl rfl rfl (by omega)) ?_
  refine zM rfl hst rfl ?_
  refine stepK_d rfl rfl rfl hst (Does.nat (b := u) (does_add rfl rfl rfl) (by rw [wrap_i64 (by omega) (by omega)]; exact hu)) ?_
  refine zM rfl hst rfl ?_
  refine stepK_d rfl rfl rfl hst (does_rem_p rfl rfl rfl (by omega)) ?_
  refine zA rfl hst rfl ?_
  refine znt ?_
  refine cp_ret ?_
  refine retM1 rfl rfl hst ?_
  exact ⟨u % m, i + 1, rfl, Nat.mod_lt _ hm, rfl, by omega⟩

end Go.Proofs.YtbamjcfdlgnicaaGreatDoor

namespace Go.Proofs.YtbamjcfdlgnicaaGreatDoor
open Go Go.RowKit Go.Proofs.Vc
set_option linter.unusedVariables false
set_option linter.unusedSimpArgs false

set_option maxHeartbeats 1000000 in
theorem scene_New {g : Mem} {w : World} (hag : Agree g w) {n c : Nat} {A : Option Addr} (hs : IntS g A n) (hc : n ≤ c) (hn : n ≤ 9223372036854775807) :
    CallTo Tryz.prog 23 #[.slice A n c] w (RetO w g fun v g own => ∃ bt nt ct : Nat, v = .pointer (some ⟨bt, 0, none⟩) ∧ own = [(bt, .cells #[.slice A nt ct, .int .i64 0] 101 (0, 0))] ∧ IntS g A nt ∧ nt ≤ 400) := by
  refine CallTo.enter (vs := [.slice A n c]) (by kernel_rfl : Tryz.prog.funcs[23]? = some Tryz.f23) (by kernel_rfl) rfl rfl rfl ?_
  have hst := St.init hag
  refine zsr ?_
  refine zA rfl hst rfl ?_
  refine zn4 ?_
  refine zM rfl hst rfl ?_
  refine zM rfl hst rfl ?_
  refine stepK_d rfl rfl rfl hst (does_len_slice rfl (by kernel_rfl : Program.underlying Tryz.prog 37 = some (.slice 3)) rfl) ?_
  refine stepK_d rfl rfl rfl hst (Does.nat (b := min n 400) (does_min rfl rfl rfl) (by omega)) ?_
  refine stepK_d rfl rfl rfl hst (does_slice_to rfl (by kernel_rfl : Program.underlying Tryz.prog 37 = some (.slice 3)) (by kernel_rfl : sizeB Tryz.prog 3 = some 1) rfl rfl rfl (by omega)) ?_
  refine stepK_d rfl rfl rfl hst (does_build rfl (by kernel_rfl : layOf Tryz.prog 101 = some ([(0, 1), (1, 1)], [.slice none 0 0, .int .i64 0])) rfl rfl) ?_
  refine stepK_box rfl rfl rfl rfl rfl rfl hst ?_
  clear hst
  intro bt w1 hst
  refine zA rfl hst rfl ?_
  refine znt ?_
  refine cp_ret ?_
  refine retO1 rfl rfl hst ?_
  exact ⟨_, _, _, rfl, rfl, hs.less (Nat.min_le_left _ _), Nat.min_le_right _ _⟩

end Go.Proofs.YtbamjcfdlgnicaaGreatDoor
