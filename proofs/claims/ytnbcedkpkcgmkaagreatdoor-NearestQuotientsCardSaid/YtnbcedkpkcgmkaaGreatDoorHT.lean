/- The walks of functions, printed by a program of this session out of its specs. -/
import Derived.Test.YtnbcedkpkcgmkaaGreatDoorCY
import Derived.Test.YtnbcedkpkcgmkaaGreatDoorCG
import Derived.Test.YtnbcedkpkcgmkaaGreatDoorF6
import Derived.Test.YtnbcedkpkcgmkaaGreatDoorProg
import Derived.Test.YtnbcedkpkcgmkaaGreatDoorF0
namespace Go.Proofs.YtnbcedkpkcgmkaaGreatDoor
open Go Go.RowKit Go.Proofs.Vc
set_option linter.unusedVariables false
set_option linter.unusedSimpArgs false

set_option maxHeartbeats 1000000 in
theorem num_Texts {g : Mem} {w : World} (hag : Agree g w) (hT : TabG Tryz.prog g) {A : Option Addr} {n c : Nat} {l : List Rat} (hs : RatS g A n l) (hf : ∀ r ∈ l, Fit r) (hn : n ≤ 1000000000) :
    CallTo Tryz.prog 63 #[.slice A n c] w (Ret w g fun v g => ∃ A c, v = .slice A n c ∧ StrS g A n (l.map ratS)) := by
  refine CallTo.enter (vs := [.slice A n c]) zf144 (by kernel_rfl) rfl rfl rfl ?_
  have hst := St.init hag
  refine zsr ?_
  refine zA rfl hst rfl ?_
  refine zn4 ?_
  refine zM rfl hst rfl ?_
  refine stepK_d rfl rfl rfl hst (does_len_slice rfl zf142 rfl) ?_
  refine stepK_make rfl rfl rfl (l := n) (c := n) rfl zf145 zf146 rfl rfl rfl rfl rfl rfl (by omega) (by omega) (by omega) hst ?_
  clear hst
  intro bo w1 hst
  rw [sN_rep] at hst
  refine zA rfl hst rfl ?_
  refine znq ?_
  refine zsr ?_
  refine zM rfl hst rfl ?_
  refine stepK_d rfl rfl rfl hst (does_len_slice rfl zf142 rfl) ?_
  refine zM rfl hst rfl ?_
  refine znt ?_
  refine cp_block ?_
  refine cp_loop (ι := Nat × List ByteArray) (fun (i, ss) => [(3, .slice (some ⟨bo, 0, none⟩) n n), (9, .slice A n c), (10, .int .i64 (n : Int)), (11, .int .i64 (i : Int))]) (fun (i, ss) w1 => ∃ g1, St w [] g g1 [(bo, .cells (sN ss).toArray 9 (0, 0))] w1 ∧ RatS g1 A n l ∧ TabG Tryz.prog g1 ∧ i ≤ n ∧ ss.length = n ∧ ss.take i = (l.take i).map ratS) (fun (i, ss) => n - i) (0, List.replicate n ByteArray.empty) ?k2 ?i2 ?r2
  case k2 => exact ⟨rfl, rfl, rfl, rfl, trivial⟩
  case i2 =>
    exact ⟨_, hst, hs, hT, Nat.zero_le _, by simp, by simp⟩
  case r2 =>
    clear hst
    clear hs hT
    rintro ⟨i, ss⟩ w1 ⟨g1, hst, hs, hT, hi, hsl, htk⟩
    refine zsr ?_
    refine stepK_d rfl rfl rfl hst (does_lss rfl rfl rfl) ?_
    refine znq ?_
    refine cp_if rfl ?_ ?_
    intro c12
    refine cp_skip ?_
    refine cp_then ?_
    refine cp_seq ?_
    refine cp_block ?_
    refine cp_seq ?_
    obtain ⟨b1, o1, x1, c1, e1, hx1, hlc, hRc, hcc⟩ := hs.cell (j := i) (by omega)
    subst e1
    obtain ⟨p1, q1, a1, rfl, hr1⟩ := hRc
    have fx := hf x1 (List.mem_of_getElem? hx1)
    refine cp_region ?_
    refine zM rfl hst rfl ?_
    refine stepK_d rfl rfl rfl hst (does_indexAddr (j := i) rfl zf142 zf31 rfl rfl (by omega) (by omega)) ?_
    refine stepK_d rfl rfl rfl hst (does_load_gN rfl (by kernel_rfl) zf31 rfl rfl hcc) ?_
    refine stepK_alloc rfl rfl rfl rfl zf29 rfl hst ?_
    clear hst
    intro b5 w3 hst
    refine zA rfl hst rfl ?_
    refine stepK_store 1 rfl rfl rfl rfl rfl rfl zf31 rfl rfl hst rfl (by first | (simp [uN_length]; omega) | simp) ?_
    clear hst
    intro w4 hst
    simp only [zL, splice, Nat.reduceAdd] at hst
    refine zn3 ?_
    refine zM rfl hst rfl ?_
    refine zM rfl hst rfl ?_
    refine stepK_d rfl rfl rfl hst (does_load_ownN 1 rfl (by kernel_rfl) zf31 rfl rfl rfl) ?_
    refine stepK_call rfl rfl rfl rfl rfl hst (Rat_String hst.agree hT hr1 fx) ?_
    clear hst
    intro v5 g5 w5 hst hle5 hcs5 hp5
    replace hs := hs.mono hle5
    replace hT := hT.mono hle5
    obtain rfl := hp5
    refine stepK_d rfl rfl rfl hst (does_indexAddr1 (j := i) rfl zf145 (by kernel_rfl) rfl rfl (by omega) (by omega)) ?_
    refine stepK_store 0 rfl rfl rfl rfl rfl rfl zf147 rfl rfl hst rfl (by simp [sN_length]; omega) ?_
    clear hst
    intro w6 hst
    rw [Nat.zero_add, sN_set _ _ _ (by omega)] at hst
    simp only [List.set_cons_zero] at hst
    refine wpK_nil ?_
    refine at_block_normal ?_
    refine cp_then ?_
    refine cp_region ?_
    refine stepK_d rfl rfl rfl hst (Does.int (does_add rfl rfl rfl) (wrap_i64 (by omega) (by omega))) ?_
    refine zM rfl hst rfl ?_
    refine wpK_nil ?_
    refine round_end ((i + 1, ss.set i (ratS x1))) ?_ ?_ ?_
    exact ⟨rfl, rfl, rfl, rfl, trivial⟩
    exact ⟨_, hst.weaken _ (by simp), hs, hT, by omega, by simp [hsl], by rw [map_take_step ratS hx1]; exact take_set_step htk (by omega)⟩
    show n - (i + 1) < n - i
    omega
    intro c12
    refine cp_exit ?_
    refine at_then_exit ?_
    refine at_then_exit ?_
    refine cp_exit_here ?_
    refine cp_then ?_
    refine zsr ?_
    refine zM rfl hst rfl ?_
    refine zA rfl hst rfl ?_
    refine znt ?_
    refine cp_ret ?_
    have e9 : ss = l.map ratS := by
      rw [List.take_of_length_le (by omega), List.take_of_length_le (by have := hs.1; omega)] at htk
      exact htk
    obtain ⟨hst, hle9⟩ := hst.publish 0 rfl
    refine ret1 rfl rfl hst ⟨_, _, rfl, ?_⟩
    rw [← e9]
    exact sN_publish hsl

end Go.Proofs.YtnbcedkpkcgmkaaGreatDoor
