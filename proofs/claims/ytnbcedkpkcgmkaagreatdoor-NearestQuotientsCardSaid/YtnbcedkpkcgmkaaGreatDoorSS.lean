/- The walks of functions, printed by a program of this session out of its specs. -/
import Derived.Test.YtnbcedkpkcgmkaaGreatDoorCY
import Derived.Test.YtnbcedkpkcgmkaaGreatDoorProg
import Derived.Test.YtnbcedkpkcgmkaaGreatDoorF0
namespace Go.Proofs.YtnbcedkpkcgmkaaGreatDoor
open Go Go.RowKit Go.Proofs.Vc
set_option linter.unusedVariables false
set_option linter.unusedSimpArgs false

set_option maxHeartbeats 1000000 in
theorem same_Strings {g : Mem} {w : World} (hag : Agree g w) {A B : Option Addr} {n c m d : Nat} {ss ts : List ByteArray} (ha : StrS g A n ss) (hb : StrS g B m ts) (hn : n ≤ 1000000000) :
    CallTo Tryz.prog 24 #[.slice A n c, .slice B m d] w (Ret w g fun v g => v = .bool (decide (ss = ts))) := by
  refine CallTo.enter (vs := [.slice A n c, .slice B m d]) zf155 (by kernel_rfl) rfl rfl rfl ?_
  have hst := St.init hag
  refine zsr ?_
  refine zA rfl hst rfl ?_
  refine znq ?_
  refine zsr ?_
  refine zM rfl hst rfl ?_
  refine stepK_d rfl rfl rfl hst (does_len_slice rfl zf145 rfl) ?_
  refine zM rfl hst rfl ?_
  refine stepK_d rfl rfl rfl hst (does_len_slice rfl zf145 rfl) ?_
  refine stepK_d rfl rfl rfl hst (does_neq rfl rfl rfl) ?_
  refine znt ?_
  refine cp_if rfl ?_ ?_
  intro c10
  have hno : ss ≠ ts := fun e => by have h1 := ha.1; have h2 := hb.1; rw [e] at h1; omega
  refine zsr ?_
  refine zA rfl hst rfl ?_
  refine zn5 ?_
  refine ret1 rfl rfl hst ?_
  rw [decide_eq_false hno]
  intro c10
  have hnm : n = m := by omega
  refine cp_skip ?_
  refine cp_then ?_
  refine cp_seq ?_
  refine zsr ?_
  refine zM rfl hst rfl ?_
  refine stepK_d rfl rfl rfl hst (does_len_slice rfl zf145 rfl) ?_
  refine zM rfl hst rfl ?_
  refine znt ?_
  refine cp_block ?_
  refine cp_loop (ι := Nat) (fun k => [(0, .slice A n c), (1, .slice B m d), (12, .int .i64 (n : Int)), (13, .int .i64 (k : Int))]) (fun k w1 => St w [] g g [] w1 ∧ k ≤ n ∧ ss.take k = ts.take k) (fun k => n - k) 0 ?k1 ?i1 ?r1
  case k1 => exact ⟨rfl, rfl, rfl, rfl, trivial⟩
  case i1 =>
    exact ⟨hst, Nat.zero_le _, by simp⟩
  case r1 =>
    clear hst
    rintro k w1 ⟨hst, hk, hkk⟩
    refine zsr ?_
    refine stepK_d rfl rfl rfl hst (does_lss rfl rfl rfl) ?_
    refine znq ?_
    refine cp_if rfl ?_ ?_
    intro c14
    refine cp_skip ?_
    refine cp_then ?_
    refine cp_seq ?_
    refine cp_block ?_
    refine zsr ?_
    refine zM rfl hst rfl ?_
    refine zA rfl hst rfl ?_
    refine znq ?_
    obtain ⟨b1, o1, s9, e1, hs9, hc1⟩ := ha.cell (j := k) (by omega)
    obtain ⟨b2, o2, t9, e2, ht9, hc2⟩ := hb.cell (j := k) (by omega)
    subst e1
    subst e2
    refine cp_drawn (by kernel_rfl) 9 [(0, true), (1, true), (2, true), (3, true), (4, true), (5, true), (6, true), (7, true), (8, true)] _ rfl (by kernel_rfl) (by kernel_rfl) (by kernel_rfl) (fun _ _ _ _ _ h => h) _ (hst.drew) ?_
    have hst0 := hst.drew
    clear hst
    have hst := hst0
    refine stepD_d rfl rfl rfl rfl (does_move rfl rfl) ?_
    refine stepD_d rfl rfl rfl rfl (does_move rfl rfl) ?_
    refine stepD_d rfl rfl rfl rfl (does_indexAddr1 (j := k) rfl zf145 (by kernel_rfl) rfl rfl (by omega) (by omega)) ?_
    refine stepD_d rfl rfl rfl rfl (does_load_g1 rfl (by kernel_rfl) rfl hc1) ?_
    refine stepD_d rfl rfl rfl rfl (does_move rfl rfl) ?_
    refine stepD_d rfl rfl rfl rfl (does_move rfl rfl) ?_
    refine stepD_d rfl rfl rfl rfl (does_indexAddr1 (j := k) rfl zf145 (by kernel_rfl) rfl rfl (by omega) (by omega)) ?_
    refine stepD_d rfl rfl rfl rfl (does_load_g1 rfl (by kernel_rfl) rfl hc2) ?_
    refine stepD_d rfl rfl rfl rfl (does_neq_string rfl rfl rfl) ?_
    refine stepD_tail ?_
    refine znt ?_
    refine cp_if rfl ?_ ?_
    intro c24
    have hno : ss ≠ ts := fun e => c24 (by rw [e, ht9] at hs9; exact (Option.some.inj hs9).symm)
    refine zsr ?_
    refine zA rfl hst rfl ?_
    refine znt ?_
    refine cp_ret ?_
    refine at_block_ret ?_
    refine at_then_ret ?_
    refine at_then_ret ?_
    refine at_block_ret ?_
    refine at_then_ret ?_
    refine ret1 rfl rfl hst ?_
    rw [decide_eq_false hno]
    intro c24
    refine cp_skip ?_
    refine at_block_normal ?_
    refine cp_then ?_
    refine cp_region ?_
    refine stepK_d rfl rfl rfl hst (Does.int (does_add rfl rfl rfl) (wrap_i64 (by omega) (by omega))) ?_
    refine zM rfl hst rfl ?_
    refine wpK_nil ?_
    refine round_end (k + 1) ?_ ?_ ?_
    exact ⟨rfl, rfl, rfl, rfl, trivial⟩
    exact ⟨hst, by omega, take_eq_step hkk hs9 ht9 (Decidable.not_not.1 c24)⟩
    show n - (k + 1) < n - k
    omega
    intro c14
    refine cp_exit ?_
    refine at_then_exit ?_
    refine at_then_exit ?_
    refine cp_exit_here ?_
    refine cp_then ?_
    refine zsr ?_
    refine zA rfl hst rfl ?_
    refine znt ?_
    refine cp_ret ?_
    refine ret1 rfl rfl hst ?_
    rw [decide_eq_true]
    have h1 := ha.1
    have h2 := hb.1
    rw [show k = n by omega, List.take_of_length_le (by omega), List.take_of_length_le (by omega)] at hkk
    exact hkk

end Go.Proofs.YtnbcedkpkcgmkaaGreatDoor
