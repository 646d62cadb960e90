/- The walks of functions, printed by a program of this session out of its specs. -/
import Derived.Test.YtcjhnkmoloiepaaGreatDoorFT
import Derived.Test.YtcjhnkmoloiepaaGreatDoorProg
import Derived.Test.YtcjhnkmoloiepaaGreatDoorF0
namespace Go.Proofs.YtcjhnkmoloiepaaGreatDoor
open Go Go.RowKit Go.Proofs.Vc
set_option linter.unusedVariables false
set_option linter.unusedSimpArgs false

set_option maxHeartbeats 1000000 in
theorem keep_Short {g : Mem} {w : World} (hag : Agree g w) {bl : Nat} {ss : List ByteArray} (hc : ∀ (j : Nat) s, ss[j]? = some s → gcell g bl j = some (.string s)) (hl : ss.length ≤ 1000000) {n : Nat} :
    CallTo Tryz.prog 21 #[.int .i64 (n : Int), .slice (some ⟨bl, 0, none⟩) ss.length ss.length] w (Ret w g fun v g => v = .bool (decide (∀ s ∈ ss, s.size ≤ n))) := by
  refine CallTo.enter (vs := [.int .i64 (n : Int), .slice (some ⟨bl, 0, none⟩) ss.length ss.length]) zf152 (by kernel_rfl) rfl rfl rfl ?_
  have hst := St.init hag
  refine zsr ?_
  refine zA rfl hst rfl ?_
  refine znq ?_
  refine zsr ?_
  refine zA rfl hst rfl ?_
  refine znt ?_
  refine cp_block ?_
  refine cp_loop (ι := Nat) (fun k => [(0, .int .i64 (n : Int)), (1, .slice (some ⟨bl, 0, none⟩) ss.length ss.length), (5, .int .i64 (k : Int))]) (fun k w1 => St w [] g g [] w1 ∧ k ≤ ss.length ∧ ∀ s ∈ ss.take k, s.size ≤ n) (fun k => ss.length - k) 0 ?k1 ?i1 ?r1
  case k1 => exact ⟨rfl, rfl, rfl, trivial⟩
  case i1 =>
    exact ⟨hst, Nat.zero_le _, by simp⟩
  case r1 =>
    clear hst
    rintro k w1 ⟨hst, hk, hd⟩
    refine cp_seq ?_
    refine zsr ?_
    refine zM rfl hst rfl ?_
    refine zM rfl hst rfl ?_
    refine stepK_d rfl rfl rfl hst (does_len_slice rfl zf153 rfl) ?_
    refine stepK_d rfl rfl rfl hst (does_lss rfl rfl rfl) ?_
    refine znt ?_
    refine cp_if rfl ?_ ?_
    intro c9
    refine cp_skip ?_
    refine cp_then ?_
    refine cp_seq ?_
    refine cp_block ?_
    refine cp_seq ?_
    obtain ⟨x, hx⟩ : ∃ x, ss[k]? = some x := ⟨_, List.getElem?_eq_getElem (by omega)⟩
    refine cp_region ?_
    refine zM rfl hst rfl ?_
    refine zM rfl hst rfl ?_
    refine stepK_d rfl rfl rfl hst (does_indexAddr1 rfl zf153 (by kernel_rfl) rfl rfl rfl (by omega)) ?_
    refine stepK_d rfl rfl rfl hst (does_load_g1 rfl (by kernel_rfl) rfl (by rw [Nat.zero_add]; exact hc _ _ hx)) ?_
    refine stepK_d rfl rfl rfl hst (does_len_string rfl (by kernel_rfl) rfl) ?_
    refine zM rfl hst rfl ?_
    refine stepK_d rfl rfl rfl hst (does_gtr rfl rfl rfl) ?_
    refine znt ?_
    refine cp_if rfl ?_ ?_
    intro c18
    refine zsr ?_
    refine zA rfl hst rfl ?_
    refine znt ?_
    refine cp_ret ?_
    refine at_block_ret ?_
    refine at_then_ret ?_
    refine at_then_ret ?_
    refine at_block_ret ?_
    refine at_then_ret ?_
    refine ret1 rfl rfl hst ?_
    rw [decide_eq_false (fun h => by have := h x (List.mem_of_getElem? hx); omega)]
    intro c18
    refine cp_skip ?_
    refine at_block_normal ?_
    refine cp_then ?_
    refine cp_region ?_
    refine zM rfl hst rfl ?_
    refine stepK_d rfl rfl rfl hst (Does.int (does_add rfl rfl rfl) (wrap_i64 (by omega) (by omega))) ?_
    refine zA rfl hst rfl ?_
    refine wpK_nil ?_
    refine round_end (k + 1) ?_ ?_ ?_
    exact ⟨rfl, rfl, rfl, trivial⟩
    refine ⟨hst, by omega, fun y hy => ?_⟩
    rw [List.take_add_one, hx] at hy
    rcases List.mem_append.1 hy with hy | hy
    exact hd y hy
    have : y = x := by simpa using hy
    subst this
    omega
    omega
    intro c9
    refine cp_exit ?_
    refine at_then_exit ?_
    refine at_then_exit ?_
    refine cp_exit_here ?_
    refine cp_then ?_
    refine zsr ?_
    refine zA rfl hst rfl ?_
    refine znt ?_
    refine cp_ret ?_
    refine ret1 rfl rfl hst ?_
    rw [decide_eq_true]
    intro s hs
    exact hd s (by rw [List.take_of_length_le (by omega)]; exact hs)

end Go.Proofs.YtcjhnkmoloiepaaGreatDoor
