/- The walks of functions, printed by a program of this session out of its specs. -/
import Derived.Test.YtcjhnkmoloiepaaDoorH4
import Derived.Test.YtcjhnkmoloiepaaDoorH1
import Derived.Test.YtcjhnkmoloiepaaDoorFV
import Derived.Test.YtcjhnkmoloiepaaDoorP2
import Derived.Test.YtcjhnkmoloiepaaDoorF6
import Derived.Test.YtcjhnkmoloiepaaDoorQX
import Derived.Test.YtcjhnkmoloiepaaDoorProg
import Derived.Test.YtcjhnkmoloiepaaDoorF0
namespace Go.Proofs.YtcjhnkmoloiepaaDoor
open Go Go.RowKit Go.Proofs.Vc
set_option linter.unusedVariables false
set_option linter.unusedSimpArgs false

set_option maxHeartbeats 8000000 in
theorem mod_Combine {g : Mem} {w : World} (hag : Agree g w) (hT : TabG Tryd.prog g) {A B : Option Addr} {n m c d : Nat} {rs ps : List Int} (hr : IntL g A n rs) (hp : IntL g B m ps) (hn : n ≤ 1000000) (hm : m ≤ 1000000) (hmd : m ≤ d) :
    CallTo Tryd.prog 12 #[.slice A n c, .slice B m d] w (Ret w g fun v g => v = .tuple #[.string (combR rs ps).1, .string (combR rs ps).2.1, .int .i64 (combR rs ps).2.2]) := by
  refine CallTo.enter (vs := [.slice A n c, .slice B m d]) zf89 (by kernel_rfl) rfl rfl rfl ?_
  have hst := St.init hag
  have hl1 := hr.1
  have hl2 := hp.1
  refine zsr ?_
  refine zA rfl hst rfl ?_
  refine zA rfl hst rfl ?_
  refine zA rfl hst rfl ?_
  refine znq ?_
  refine zsr ?_
  refine zM rfl hst rfl ?_
  refine stepK_d rfl rfl rfl hst (does_len_slice rfl zf90 rfl) ?_
  refine zM rfl hst rfl ?_
  refine stepK_d rfl rfl rfl hst (does_len_slice rfl zf90 rfl) ?_
  refine stepK_d rfl rfl rfl hst (does_neq rfl rfl rfl) ?_
  refine znt ?_
  refine cp_if rfl ?_ ?_
  intro c26
  refine zsr ?_
  refine zA rfl hst rfl ?_
  refine zA rfl hst rfl ?_
  refine zA rfl hst rfl ?_
  refine zn5 ?_
  refine ret3 rfl rfl rfl rfl hst ?_
  rw [combR_shape (by omega)]
  intro c26
  refine cp_skip ?_
  refine cp_then ?_
  refine cp_seq ?_
  refine zsr ?_
  refine zM rfl hst rfl ?_
  refine stepK_d rfl rfl rfl hst (does_len_slice rfl zf90 rfl) ?_
  refine stepK_d rfl rfl rfl hst (does_gtr rfl rfl rfl) ?_
  refine znt ?_
  refine cp_if rfl ?_ ?_
  intro c29
  refine zsr ?_
  refine zA rfl hst rfl ?_
  refine zA rfl hst rfl ?_
  refine zA rfl hst rfl ?_
  refine zn5 ?_
  refine ret3 rfl rfl rfl rfl hst ?_
  rw [combR_limit (by omega) (by omega)]
  intro c29
  refine cp_skip ?_
  refine cp_then ?_
  refine cp_seq ?_
  refine zsr ?_
  refine zM rfl hst rfl ?_
  refine stepK_d rfl rfl rfl hst (does_len_slice rfl zf90 rfl) ?_
  refine zM rfl hst rfl ?_
  refine znt ?_
  refine cp_block ?_
  refine cp_loop (ι := Nat) (fun i => [(0, .slice A n c), (1, .slice B m d), (30, .slice B m d), (31, .int .i64 (m : Int)), (32, .int .i64 (i : Int))]) (fun i w1 => ∃ g1, St w [] g g1 [] w1 ∧ IntL g1 A n rs ∧ IntL g1 B m ps ∧ TabG Tryd.prog g1 ∧ i ≤ m ∧ ∀ p ∈ ps.take i, Prm p) (fun i => m - i) 0 ?k1 ?i1 ?r1
  case k1 => exact ⟨rfl, rfl, rfl, rfl, rfl, trivial⟩
  case i1 =>
    exact ⟨_, hst, hr, hp, hT, Nat.zero_le _, by simp⟩
  case r1 =>
    clear hst
    clear hr hp hT
    rintro i w1 ⟨g1, hst, hr, hp, hT, hi, hpr⟩
    refine zsr ?_
    refine stepK_d rfl rfl rfl hst (does_lss rfl rfl rfl) ?_
    refine znq ?_
    refine cp_if rfl ?_ ?_
    intro c33
    refine cp_skip ?_
    refine cp_then ?_
    refine cp_seq ?_
    refine cp_block ?_
    refine cp_seq ?_
    obtain ⟨b1, o1, z, e1, hz, hzm, hzi, hzd, hc1⟩ := hp.cell (j := i) (by omega)
    subst e1
    refine cp_region ?_
    refine stepK_d rfl rfl rfl hst (does_indexAddr1 (j := i) rfl zf90 (by kernel_rfl) rfl rfl (by omega) (by omega)) ?_
    refine stepK_d rfl rfl rfl hst (does_load_g1 rfl (by kernel_rfl) rfl hc1) ?_
    refine zA rfl hst rfl ?_
    refine zn4 ?_
    refine zM rfl hst rfl ?_
    refine stepK_call rfl rfl rfl rfl rfl hst (mod_IsPrime hst.agree hzi.1 hzi.2) ?_
    clear hst
    intro v2 g2 w2 hst hle2 hcs2 hp2
    replace hr := hr.mono hle2
    replace hp := hp.mono hle2
    replace hT := hT.mono hle2
    obtain rfl := hp2
    refine stepK_d rfl rfl rfl hst (does_not rfl rfl) ?_
    refine znt ?_
    refine cp_cond rfl ?_ ?_
    intro c38
    refine zsr ?_
    refine zA rfl hst rfl ?_
    refine zA rfl hst rfl ?_
    refine zA rfl hst rfl ?_
    refine znt ?_
    refine cp_ret ?_
    refine at_block_ret ?_
    refine at_then_ret ?_
    refine at_then_ret ?_
    refine at_block_ret ?_
    refine at_then_ret ?_
    refine ret3 rfl rfl rfl rfl hst ?_
    rw [combR_bad (by omega) (by omega) hzm (not_prm c38)]
    intro c38
    refine cp_skip ?_
    refine at_block_normal ?_
    refine cp_then ?_
    refine cp_region ?_
    refine stepK_d rfl rfl rfl hst (Does.int (does_add rfl rfl rfl) (wrap_i64 (by omega) (by omega))) ?_
    refine zM rfl hst rfl ?_
    refine wpK_nil ?_
    refine round_end (i + 1) ?_ ?_ ?_
    exact ⟨rfl, rfl, rfl, rfl, rfl, trivial⟩
    exact ⟨_, hst, hr, hp, hT, by omega, fun p h9 => by
      rw [List.take_add_one, hz, List.mem_append] at h9
      rcases h9 with h9 | h9
      exact hpr p h9
      have : p = z := by simpa using h9
      rw [this]
      exact is_prm c38⟩
    show m - (i + 1) < m - i
    omega
    intro c33
    refine cp_exit ?_
    refine at_then_exit ?_
    refine at_then_exit ?_
    refine cp_exit_here ?_
    refine cp_then ?_
    refine cp_seq ?_
    obtain rfl : m = i := by omega
    have hall : ∀ p ∈ ps, Prm p := fun p h => hpr p (by rw [List.take_of_length_le (by omega)]; exact h)
    refine cp_region ?_
    refine stepK_call rfl rfl rfl rfl rfl hst (num_Int hst.agree (by decide) (by decide)) ?_
    clear hst
    intro v3 g3 w3 hst hle3 hcs3 hp3
    replace hr := hr.mono hle3
    replace hp := hp.mono hle3
    replace hT := hT.mono hle3
    obtain ⟨p9, q9, a9, rfl, h9⟩ := hp3
    refine stepK_call rfl rfl rfl rfl rfl hst (num_Int hst.agree (by decide) (by decide)) ?_
    clear hst
    intro v4 g4 w4 hst hle4 hcs4 hp4
    replace hr := hr.mono hle4
    replace hp := hp.mono hle4
    replace hT := hT.mono hle4
    replace h9 := h9.mono hle4
    obtain ⟨p0, q0, a0, rfl, h0⟩ := hp4
    refine stepK_alloc rfl rfl rfl rfl zf29 rfl hst ?_
    clear hst
    intro b9 w5 hst
    refine stepK_alloc rfl rfl rfl rfl zf29 rfl hst ?_
    clear hst
    intro b10 w6 hst
    refine stepK_store 0 rfl rfl rfl rfl rfl rfl zf31 rfl rfl hst rfl (by first | (simp [uN_length]; omega) | simp) ?_
    clear hst
    intro w7 hst
    simp only [zL, splice, Nat.reduceAdd] at hst
    refine stepK_store 1 rfl rfl rfl rfl rfl rfl zf31 rfl rfl hst rfl (by first | (simp [uN_length]; omega) | simp) ?_
    clear hst
    intro w8 hst
    simp only [zL, splice, Nat.reduceAdd] at hst
    refine znq ?_
    refine zsr ?_
    refine zM rfl hst rfl ?_
    refine stepK_d rfl rfl rfl hst (does_len_slice rfl zf90 rfl) ?_
    refine zM rfl hst rfl ?_
    refine znt ?_
    refine cp_block ?_
    refine cp_loop (ι := Nat × (Int × Int × Option Addr) × (Int × Int × Option Addr)) (fun (i, (p9, q9, a9), (p0, q0, a0)) => [(0, .slice A n c), (1, .slice B m d), (9, .pointer (some ⟨b9, 0, none⟩)), (10, .pointer (some ⟨b10, 0, none⟩)), (42, .slice B m d), (43, .int .i64 (m : Int)), (44, .int .i64 (i : Int))]) (fun (i, (p9, q9, a9), (p0, q0, a0)) w1 => ∃ g1, St w [] g g1 [(b9, .cells #[.int .i64 p9, .int .i64 q9, .pointer a9] 46 (0, 0)), (b10, .cells #[.int .i64 p0, .int .i64 q0, .pointer a0] 46 (0, 0))] w1 ∧ IntL g1 A n rs ∧ IntL g1 B m ps ∧ TabG Tryd.prog g1 ∧ IsRat g1 p9 q9 a9 ((cbRun rs ps i).v : Rat) ∧ IsRat g1 p0 q0 a0 ((cbRun rs ps i).m : Rat) ∧ i ≤ m ∧ (ps.take i).Nodup) (fun (i, (p9, q9, a9), (p0, q0, a0)) => m - i) (0, (p9, q9, a9), (p0, q0, a0)) ?k9 ?i9 ?r9
    case k9 => exact ⟨rfl, rfl, rfl, rfl, rfl, rfl, rfl, trivial⟩
    case i9 =>
      exact ⟨_, hst, hr, hp, hT, h9, h0, Nat.zero_le _, by simp⟩
    case r9 =>
      clear hst
      clear hr hp hT h9 h0
      rintro ⟨i, ⟨p9, q9, a9⟩, ⟨p0, q0, a0⟩⟩ w1 ⟨g1, hst, hr, hp, hT, h9, h0, hi, hnd⟩
      have hok := cbRun_ok (rs := rs) hall i (by omega)
      obtain ⟨sv, sm⟩ := hok.sz
      have sv := sv.mono (m := 700) (by omega)
      have sm := sm.mono (m := 700) (by omega)
      refine zsr ?_
      refine stepK_d rfl rfl rfl hst (does_lss rfl rfl rfl) ?_
      refine znq ?_
      refine cp_if rfl ?_ ?_
      intro c45
      refine cp_skip ?_
      refine cp_then ?_
      refine cp_seq ?_
      refine cp_block ?_
      refine cp_seq ?_
      obtain ⟨b1, o1, z, e1, hz, hzm, hzi, hzd, hc1⟩ := hp.cell (j := i) (by omega)
      subst e1
      have hzp := hall z hzm
      have hz0 := hzp.1
      have hz1 := hzp.2.1
      refine cp_region ?_
      refine zM rfl hst rfl ?_
      refine stepK_d rfl rfl rfl hst (does_indexAddr1 (j := i) rfl zf90 (by kernel_rfl) rfl rfl (by omega) (by omega)) ?_
      refine stepK_d rfl rfl rfl hst (does_load_g1 rfl (by kernel_rfl) rfl hc1) ?_
      refine zA rfl hst rfl ?_
      refine zA rfl hst rfl ?_
      refine znq ?_
      refine zsr ?_
      refine zM rfl hst rfl ?_
      refine zM rfl hst rfl ?_
      refine stepK_d rfl rfl rfl hst (does_slice_to (h := i) rfl zf90 zf91 rfl rfl (by omega) (by omega)) ?_
      refine stepK_d rfl rfl rfl hst (does_len_slice rfl zf90 rfl) ?_
      refine zM rfl hst rfl ?_
      refine znt ?_
      refine cp_block ?_
      refine cp_loop (ι := Nat) (fun j => [(0, .slice A n c), (1, .slice (some ⟨b1, o1, none⟩) m d), (9, .pointer (some ⟨b9, 0, none⟩)), (10, .pointer (some ⟨b10, 0, none⟩)), (11, .int .i64 (i : Int)), (12, .int .i64 z), (42, .slice (some ⟨b1, o1, none⟩) m d), (43, .int .i64 (m : Int)), (44, .int .i64 (i : Int)), (51, .slice (some ⟨b1, o1, none⟩) i d), (52, .int .i64 (i : Int)), (53, .int .i64 (j : Int))]) (fun j w2 => St w [] g g1 [(b9, .cells #[.int .i64 p9, .int .i64 q9, .pointer a9] 46 (0, 0)), (b10, .cells #[.int .i64 p0, .int .i64 q0, .pointer a0] 46 (0, 0))] w2 ∧ j ≤ i ∧ ∀ (j2 : Nat) y, j2 < j → ps[j2]? = some y → y ≠ z) (fun j => i - j) 0 ?k10 ?i10 ?r10
      case k10 => exact ⟨rfl, rfl, rfl, rfl, rfl, rfl, rfl, rfl, rfl, rfl, rfl, rfl, trivial⟩
      case i10 =>
        exact ⟨hst, Nat.zero_le _, fun j2 y h => by omega⟩
      case r10 =>
        clear hst
        rintro j w2 ⟨hst, hj, hdf⟩
        refine zsr ?_
        refine stepK_d rfl rfl rfl hst (does_lss rfl rfl rfl) ?_
        refine znq ?_
        refine cp_if rfl ?_ ?_
        intro c54
        refine cp_skip ?_
        refine cp_then ?_
        refine cp_seq ?_
        refine cp_block ?_
        refine cp_seq ?_
        obtain ⟨b2, o2, y2, e2, hz2, _, _, _, hc2⟩ := hp.cell (j := j) (by omega)
        cases e2
        refine cp_region ?_
        refine stepK_d rfl rfl rfl hst (does_indexAddr1 (j := j) rfl zf90 (by kernel_rfl) rfl rfl (by omega) (by omega)) ?_
        refine stepK_d rfl rfl rfl hst (does_load_g1 rfl (by kernel_rfl) rfl hc2) ?_
        refine zA rfl hst rfl ?_
        refine zn4 ?_
        refine zM rfl hst rfl ?_
        refine zM rfl hst rfl ?_
        refine stepK_d rfl rfl rfl hst (does_eql rfl rfl rfl) ?_
        refine znt ?_
        refine cp_if rfl ?_ ?_
        intro c59
        have hdup : ¬ ps.Nodup := not_nodup hz (mem_take_get (by rw [hz2, c59]) (by omega))
        refine zsr ?_
        refine zA rfl hst rfl ?_
        refine zA rfl hst rfl ?_
        refine zA rfl hst rfl ?_
        refine znt ?_
        refine cp_ret ?_
        refine at_block_ret ?_
        refine at_then_ret ?_
        refine at_then_ret ?_
        refine at_block_ret ?_
        refine at_then_ret ?_
        refine at_block_ret ?_
        refine at_then_ret ?_
        refine at_then_ret ?_
        refine at_block_ret ?_
        refine at_then_ret ?_
        refine ret3 rfl rfl rfl rfl hst ?_
        rw [combR_dup (by omega) (by omega) hall hdup]
        intro c59
        refine cp_skip ?_
        refine at_block_normal ?_
        refine cp_then ?_
        refine cp_region ?_
        refine stepK_d rfl rfl rfl hst (Does.int (does_add rfl rfl rfl) (wrap_i64 (by omega) (by omega))) ?_
        refine zM rfl hst rfl ?_
        refine wpK_nil ?_
        refine round_end (j + 1) ?_ ?_ ?_
        exact ⟨rfl, rfl, rfl, rfl, rfl, rfl, rfl, rfl, rfl, rfl, rfl, rfl, trivial⟩
        exact ⟨hst, by omega, fun j2 y h1 h2 => by
          by_cases e : j2 = j
          subst e
          rw [hz2] at h2
          rw [← Option.some.inj h2]
          exact fun e2 => c59 e2.symm
          exact hdf j2 y (by omega) h2⟩
        show i - (j + 1) < i - j
        omega
        intro c54
        refine cp_exit ?_
        refine at_then_exit ?_
        refine at_then_exit ?_
        refine cp_exit_here ?_
        refine cp_then ?_
        refine cp_seq ?_
        obtain rfl : i = j := by omega
        obtain ⟨k1, k2, k3⟩ := (show I64z z from hzi) |> fun h => (⟨h.1, h.2, trivial⟩ : _ ∧ _ ∧ True)
        have sz := int_sz k1 k2
        refine cp_region ?_
        refine zM rfl hst rfl ?_
        refine stepK_call rfl rfl rfl rfl rfl hst (num_Int hst.agree k1 k2) ?_
        clear hst
        intro v11 g11 w11 hst hle11 hcs11 hp11
        replace hr := hr.mono hle11
        replace hp := hp.mono hle11
        replace hT := hT.mono hle11
        replace h9 := h9.mono hle11
        replace h0 := h0.mono hle11
        obtain ⟨p15, q15, a15, rfl, h15⟩ := hp11
        refine stepK_alloc rfl rfl rfl rfl zf29 rfl hst ?_
        clear hst
        intro b15 w12 hst
        refine stepK_store 2 rfl rfl rfl rfl rfl rfl zf31 rfl rfl hst rfl (by first | (simp [uN_length]; omega) | simp) ?_
        clear hst
        intro w13 hst
        simp only [zL, splice, Nat.reduceAdd] at hst
        refine zn4 ?_
        refine stepK_d rfl rfl rfl hst (does_load_ownN 0 rfl (by kernel_rfl) zf31 rfl rfl rfl) ?_
        refine stepK_d rfl rfl rfl hst (does_load_ownN 2 rfl (by kernel_rfl) zf31 rfl rfl rfl) ?_
        refine stepK_call rfl rfl rfl rfl rfl hst (Rat_Mod hst.agree h9 h15 (by omega) (k := 700) sv (sz.mono (by decide)) (by decide)) ?_
        clear hst
        intro v14 g14 w14 hst hle14 hcs14 hp14
        replace hr := hr.mono hle14
        replace hp := hp.mono hle14
        replace hT := hT.mono hle14
        replace h9 := h9.mono hle14
        replace h0 := h0.mono hle14
        replace h15 := h15.mono hle14
        obtain ⟨p66, q66, a66, rfl, h66⟩ := hp14
        refine stepK_call rfl rfl rfl rfl rfl hst (Rat_Int64 hst.agree h66 ((intR_sz (k := 20) (by have := Int.emod_nonneg (cbRun rs ps i).v (show z ≠ 0 by omega); have := Int.emod_lt_of_pos (cbRun rs ps i).v (show 0 < z by omega); omega) (by decide)).fit (by decide))) ?_
        clear hst
        intro v15 g15 w15 hst hle15 hcs15 hp15
        replace hr := hr.mono hle15
        replace hp := hp.mono hle15
        replace hT := hT.mono hle15
        replace h9 := h9.mono hle15
        replace h0 := h0.mono hle15
        replace h15 := h15.mono hle15
        replace h66 := h66.mono hle15
        obtain rfl := hp15
        rw [if_pos (i64_mod (by omega) (by omega)), Rat.num_intCast]
        refine zM rfl hst rfl ?_
        refine zE rfl hst rfl rfl ?_
        refine zE rfl hst rfl rfl ?_
        refine zA rfl hst rfl ?_
        refine zA rfl hst rfl ?_
        refine zn4 ?_
        refine stepK_d rfl rfl rfl hst (does_load_ownN 1 rfl (by kernel_rfl) zf31 rfl rfl rfl) ?_
        refine stepK_d rfl rfl rfl hst (does_load_ownN 2 rfl (by kernel_rfl) zf31 rfl rfl rfl) ?_
        refine stepK_call rfl rfl rfl rfl rfl hst (Rat_Mod hst.agree h0 h15 (by omega) (k := 700) sm (sz.mono (by decide)) (by decide)) ?_
        clear hst
        intro v16 g16 w16 hst hle16 hcs16 hp16
        replace hr := hr.mono hle16
        replace hp := hp.mono hle16
        replace hT := hT.mono hle16
        replace h9 := h9.mono hle16
        replace h0 := h0.mono hle16
        replace h15 := h15.mono hle16
        replace h66 := h66.mono hle16
        obtain ⟨p73, q73, a73, rfl, h73⟩ := hp16
        refine stepK_call rfl rfl rfl rfl rfl hst (Rat_Int64 hst.agree h73 ((intR_sz (k := 20) (by have := Int.emod_nonneg (cbRun rs ps i).m (show z ≠ 0 by omega); have := Int.emod_lt_of_pos (cbRun rs ps i).m (show 0 < z by omega); omega) (by decide)).fit (by decide))) ?_
        clear hst
        intro v17 g17 w17 hst hle17 hcs17 hp17
        replace hr := hr.mono hle17
        replace hp := hp.mono hle17
        replace hT := hT.mono hle17
        replace h9 := h9.mono hle17
        replace h0 := h0.mono hle17
        replace h15 := h15.mono hle17
        replace h66 := h66.mono hle17
        replace h73 := h73.mono hle17
        obtain rfl := hp17
        rw [if_pos (i64_mod (by omega) (by omega)), Rat.num_intCast]
        refine zM rfl hst rfl ?_
        refine zE rfl hst rfl rfl ?_
        refine zE rfl hst rfl rfl ?_
        refine zA rfl hst rfl ?_
        refine zA rfl hst rfl ?_
        refine znq ?_
        have hb1 := Int.emod_nonneg (cbRun rs ps i).v (show z ≠ 0 by omega)
        have hb2 := Int.emod_lt_of_pos (cbRun rs ps i).v (show 0 < z by omega)
        have hb3 := Int.emod_nonneg (cbRun rs ps i).m (show z ≠ 0 by omega)
        have hb4 := Int.emod_lt_of_pos (cbRun rs ps i).m (show 0 < z by omega)
        obtain ⟨V, hV⟩ : ∃ V : Nat, (V : Int) = (cbRun rs ps i).v % z := ⟨((cbRun rs ps i).v % z).toNat, by omega⟩
        obtain ⟨P, hP⟩ : ∃ P : Nat, (P : Int) = z := ⟨z.toNat, by omega⟩
        refine cp_region ?_
        refine zM rfl hst rfl ?_
        refine stepK_d rfl rfl rfl hst (Does.nat (b := ((cbRun rs ps i).m % z).toNat) (does_conv rfl (by kernel_rfl) (by kernel_rfl) rfl) (by rw [IntKind.wrap_u64]; omega)) ?_
        refine zM rfl hst rfl ?_
        refine stepK_d rfl rfl rfl hst (Does.int (does_sub rfl rfl rfl) (wrap_i64 (by omega) (by omega))) ?_
        refine stepK_d rfl rfl rfl hst (Does.nat (b := (z - 2).toNat) (does_conv rfl (by kernel_rfl) (by kernel_rfl) rfl) (by rw [IntKind.wrap_u64]; omega)) ?_
        refine zM rfl hst rfl ?_
        refine stepK_d rfl rfl rfl hst (Does.nat (b := z.toNat) (does_conv rfl (by kernel_rfl) (by kernel_rfl) rfl) (by rw [IntKind.wrap_u64]; omega)) ?_
        refine stepK_call rfl rfl rfl rfl rfl hst (mod_power hst.agree (by omega) (by omega) (by omega) (by omega)) ?_
        clear hst
        intro v18 g18 w18 hst hle18 hcs18 hp18
        replace hr := hr.mono hle18
        replace hp := hp.mono hle18
        replace hT := hT.mono hle18
        replace h9 := h9.mono hle18
        replace h0 := h0.mono hle18
        replace h15 := h15.mono hle18
        replace h66 := h66.mono hle18
        replace h73 := h73.mono hle18
        obtain rfl := hp18
        refine zA rfl hst rfl ?_
        refine znq ?_
        obtain ⟨b3, o3, r, e3, hr3, hrm, hri, hrd, hc3⟩ := hr.cell (j := i) (by omega)
        subst e3
        have hb5 := Int.emod_nonneg r (show z ≠ 0 by omega)
        have hb6 := Int.emod_lt_of_pos r (show 0 < z by omega)
        obtain ⟨I, hI⟩ : ∃ I : Nat, I = powM ((cbRun rs ps i).m % z).toNat (z - 2).toNat z.toNat := ⟨_, rfl⟩
        have hIl := powM_lt (a := ((cbRun rs ps i).m % z).toNat) (n := (z - 2).toNat) (p := z.toNat) (by omega)
        rw [← hI] at hIl ⊢
        have hIz : (I : Int) = invM (cbRun rs ps i).m z := by rw [hI]; rfl
        obtain ⟨R, hR⟩ : ∃ R : Nat, (R : Int) = r % z := ⟨(r % z).toNat, by omega⟩
        have hX := Nat.mod_lt (R + P - V) (show 0 < P by omega)
        have hmul := mul32 (x := (R + P - V) % P) (y := I) (by omega) (by omega)
        have hK := Nat.mod_lt ((R + P - V) % P * I) (show 0 < P by omega)
        have hk := cb_k (s := (cbRun rs ps i)) hR hP hV hIz (by omega)
        refine cp_region ?_
        refine zM rfl hst rfl ?_
        refine zM rfl hst rfl ?_
        refine stepK_d rfl rfl rfl hst (does_indexAddr1 (j := i) rfl zf90 (by kernel_rfl) rfl rfl (by omega) (by omega)) ?_
        refine stepK_d rfl rfl rfl hst (does_load_g1 rfl (by kernel_rfl) rfl hc3) ?_
        refine zM rfl hst rfl ?_
        refine stepK_call rfl rfl rfl rfl rfl hst (mod_residue hst.agree hri.1 hri.2 (by omega) (by omega)) ?_
        clear hst
        intro v19 g19 w19 hst hle19 hcs19 hp19
        replace hr := hr.mono hle19
        replace hp := hp.mono hle19
        replace hT := hT.mono hle19
        replace h9 := h9.mono hle19
        replace h0 := h0.mono hle19
        replace h15 := h15.mono hle19
        replace h66 := h66.mono hle19
        replace h73 := h73.mono hle19
        obtain rfl := hp19
        rw [show (r % z).toNat = R by omega]
        refine zM rfl hst rfl ?_
        refine stepK_d rfl rfl rfl hst (Does.nat (b := P) (does_conv rfl (by kernel_rfl) (by kernel_rfl) rfl) (by rw [IntKind.wrap_u64]; omega)) ?_
        refine stepK_d rfl rfl rfl hst (does_add_u64x rfl rfl rfl (by omega)) ?_
        refine zM rfl hst rfl ?_
        refine stepK_d rfl rfl rfl hst (Does.nat (b := V) (does_conv rfl (by kernel_rfl) (by kernel_rfl) rfl) (by rw [IntKind.wrap_u64]; omega)) ?_
        refine stepK_d rfl rfl rfl hst (Does.nat (b := R + P - V) (does_sub_u64 rfl rfl rfl) (by omega)) ?_
        refine zM rfl hst rfl ?_
        refine stepK_d rfl rfl rfl hst (Does.nat (b := P) (does_conv rfl (by kernel_rfl) (by kernel_rfl) rfl) (by rw [IntKind.wrap_u64]; omega)) ?_
        refine stepK_d rfl rfl rfl hst (does_rem_n rfl rfl rfl (by omega)) ?_
        refine zM rfl hst rfl ?_
        refine stepK_d rfl rfl rfl hst (does_mul_u64x rfl rfl rfl (by omega)) ?_
        refine zM rfl hst rfl ?_
        refine stepK_d rfl rfl rfl hst (Does.nat (b := P) (does_conv rfl (by kernel_rfl) (by kernel_rfl) rfl) (by rw [IntKind.wrap_u64]; omega)) ?_
        refine stepK_d rfl rfl rfl hst (does_rem_n rfl rfl rfl (by omega)) ?_
        refine zA rfl hst rfl ?_
        refine znq ?_
        obtain ⟨kb1, kb2⟩ := Cb.k_bound (s := (cbRun rs ps i)) (r := r) (p := z) (by omega)
        have sk := int_sz (x := (cbRun rs ps i).k r z) (by omega) (by omega)
        have hstp : cbRun rs ps (i + 1) = (cbRun rs ps i).step r z := by show (cbRun rs ps i).step (rs.getD i 0) (ps.getD i 0) = _; rw [hrd, hzd]
        refine cp_drawn (by kernel_rfl) 7 [(0, true), (1, true), (2, true), (3, true), (4, false), (5, false), (6, false)] _ rfl (by kernel_rfl) (by kernel_rfl) (by kernel_rfl) (fun _ _ _ _ _ h => h) _ (hst.drew) ?_
        have hst0 := hst.drew
        clear hst
        have hst := hst0
        refine stepD_d rfl rfl rfl rfl (does_load_ownN 0 rfl (by kernel_rfl) zf31 rfl rfl rfl) ?_
        refine stepD_d rfl rfl rfl rfl (does_load_ownN 1 rfl (by kernel_rfl) zf31 rfl rfl rfl) ?_
        refine stepD_d rfl rfl rfl rfl (does_move rfl rfl) ?_
        refine stepD_d rfl rfl rfl rfl (Does.int (b := (cbRun rs ps i).k r z) (does_conv_n_i64 rfl (by kernel_rfl) (by kernel_rfl) rfl (by omega)) hk) ?_
        refine stepD_call rfl rfl rfl rfl rfl rfl hst (num_Int hst.agree (by omega) (by omega)) (fun _ _ h hle => St.older h hle (by simp) hst0.ext hst0.le) ?_
        clear hst
        intro v20 g20 w20 hst hle20 hcs20 hp20
        have hlesum := hle20
        replace hr := hr.mono hle20
        replace hp := hp.mono hle20
        replace hT := hT.mono hle20
        replace h9 := h9.mono hle20
        replace h0 := h0.mono hle20
        replace h15 := h15.mono hle20
        replace h66 := h66.mono hle20
        replace h73 := h73.mono hle20
        obtain ⟨p109, q109, a109, rfl, h109⟩ := hp20
        refine stepD_call rfl rfl rfl rfl rfl rfl hst (Rat_Mul hst.agree h0 h109 (sm.fit (by decide)) (sk.fit (by decide))) (fun _ _ h hle => St.older h (Mem.le.trans hlesum hle) (by simp) hst0.ext hst0.le) ?_
        clear hst
        intro v21 g21 w21 hst hle21 hcs21 hp21
        replace hlesum := Mem.le.trans hlesum hle21
        replace hr := hr.mono hle21
        replace hp := hp.mono hle21
        replace hT := hT.mono hle21
        replace h9 := h9.mono hle21
        replace h0 := h0.mono hle21
        replace h15 := h15.mono hle21
        replace h66 := h66.mono hle21
        replace h73 := h73.mono hle21
        replace h109 := h109.mono hle21
        obtain ⟨p110, q110, a110, rfl, h110⟩ := hp21
        refine stepD_call rfl rfl rfl rfl rfl rfl hst (Rat_Add hst.agree h9 h110 (sv.fit (by decide)) ((sm.mul sk).fit (by decide))) (fun _ _ h hle => St.older h (Mem.le.trans hlesum hle) (by simp) hst0.ext hst0.le) ?_
        clear hst
        intro v22 g22 w22 hst hle22 hcs22 hp22
        replace hlesum := Mem.le.trans hlesum hle22
        replace hr := hr.mono hle22
        replace hp := hp.mono hle22
        replace hT := hT.mono hle22
        replace h9 := h9.mono hle22
        replace h0 := h0.mono hle22
        replace h15 := h15.mono hle22
        replace h66 := h66.mono hle22
        replace h73 := h73.mono hle22
        replace h109 := h109.mono hle22
        replace h110 := h110.mono hle22
        obtain ⟨p111, q111, a111, rfl, h111⟩ := hp22
        rw [cb_castv, ← hstp] at h111
        refine stepD_tail ?_
        refine stepK_store 0 rfl rfl rfl rfl rfl rfl zf31 rfl rfl hst rfl (by first | (simp [uN_length]; omega) | simp) ?_
        clear hst
        intro w23 hst
        simp only [zL, splice, Nat.reduceAdd] at hst
        refine zn3 ?_
        refine stepK_d rfl rfl rfl hst (does_load_ownN 1 rfl (by kernel_rfl) zf31 rfl rfl rfl) ?_
        refine stepK_d rfl rfl rfl hst (does_load_ownN 2 rfl (by kernel_rfl) zf31 rfl rfl rfl) ?_
        refine stepK_call rfl rfl rfl rfl rfl hst (Rat_Mul hst.agree h0 h15 (sm.fit (by decide)) (sz.fit (by decide))) ?_
        clear hst
        intro v24 g24 w24 hst hle24 hcs24 hp24
        replace hr := hr.mono hle24
        replace hp := hp.mono hle24
        replace hT := hT.mono hle24
        replace h9 := h9.mono hle24
        replace h0 := h0.mono hle24
        replace h15 := h15.mono hle24
        replace h66 := h66.mono hle24
        replace h73 := h73.mono hle24
        replace h109 := h109.mono hle24
        replace h110 := h110.mono hle24
        replace h111 := h111.mono hle24
        obtain ⟨p114, q114, a114, rfl, h114⟩ := hp24
        rw [cb_castm, ← hstp] at h114
        refine stepK_store 1 rfl rfl rfl rfl rfl rfl zf31 rfl rfl hst rfl (by first | (simp [uN_length]; omega) | simp) ?_
        clear hst
        intro w25 hst
        simp only [zL, splice, Nat.reduceAdd] at hst
        refine wpK_nil ?_
        refine at_block_normal ?_
        refine cp_then ?_
        refine cp_region ?_
        refine stepK_d rfl rfl rfl hst (Does.int (does_add rfl rfl rfl) (wrap_i64 (by omega) (by omega))) ?_
        refine zM rfl hst rfl ?_
        refine wpK_nil ?_
        refine round_end ((i + 1, (p111, q111, a111), (p114, q114, a114))) ?_ ?_ ?_
        exact ⟨rfl, rfl, rfl, rfl, rfl, rfl, rfl, trivial⟩
        exact ⟨_, hst.weaken _ (by simp), hr, hp, hT, h111, h114, by omega, nodup_step hnd hz (not_mem_takeI hdf)⟩
        show m - (i + 1) < m - i
        omega
      intro c45
      refine cp_exit ?_
      refine at_then_exit ?_
      refine at_then_exit ?_
      refine cp_exit_here ?_
      refine cp_then ?_
      refine cp_seq ?_
      obtain rfl : m = i := by omega
      rw [List.take_of_length_le (by omega)] at hnd
      refine cp_drawn (by kernel_rfl) 7 [(0, true), (2, true), (1, false), (3, false), (4, true), (5, true), (6, true)] _ rfl (by kernel_rfl) (by kernel_rfl) (by kernel_rfl) (fun _ _ _ _ _ h => h) _ (hst.drew) ?_
      have hst0 := hst.drew
      clear hst
      have hst := hst0
      refine stepD_d rfl rfl rfl rfl (does_load_ownN 0 rfl (by kernel_rfl) zf31 rfl rfl rfl) ?_
      refine stepD_d rfl rfl rfl rfl (does_load_ownN 1 rfl (by kernel_rfl) zf31 rfl rfl rfl) ?_
      refine stepD_call rfl rfl rfl rfl rfl rfl hst (Rat_String hst.agree hT h9 (sv.fit (by decide))) (fun _ _ h hle => St.older h hle (by simp) hst0.ext hst0.le) ?_
      clear hst
      intro v26 g26 w26 hst hle26 hcs26 hp26
      have hlesum := hle26
      replace hr := hr.mono hle26
      replace hp := hp.mono hle26
      replace hT := hT.mono hle26
      replace h9 := h9.mono hle26
      replace h0 := h0.mono hle26
      obtain rfl := hp26
      refine stepD_call rfl rfl rfl rfl rfl rfl hst (Rat_String hst.agree hT h0 (sm.fit (by decide))) (fun _ _ h hle => St.older h (Mem.le.trans hlesum hle) (by simp) hst0.ext hst0.le) ?_
      clear hst
      intro v27 g27 w27 hst hle27 hcs27 hp27
      replace hlesum := Mem.le.trans hlesum hle27
      replace hr := hr.mono hle27
      replace hp := hp.mono hle27
      replace hT := hT.mono hle27
      replace h9 := h9.mono hle27
      replace h0 := h0.mono hle27
      obtain rfl := hp27
      refine stepD_d rfl rfl rfl rfl (does_assign rfl rfl) ?_
      refine stepD_d rfl rfl rfl rfl (does_assign rfl rfl) ?_
      refine stepD_d rfl rfl rfl rfl (does_assign rfl rfl) ?_
      refine stepD_tail ?_
      refine znt ?_
      refine cp_ret ?_
      refine ret3 rfl rfl rfl rfl hst ?_
      rw [combR_ok (by omega) (by omega) hall hnd, hl2]

end Go.Proofs.YtcjhnkmoloiepaaDoor
