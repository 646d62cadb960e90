/- The walks of functions, printed by a program of this session out of its specs. -/
import Derived.Test.YtbamjcfdlgnicaaGreatDoorPA
import Derived.Test.YtbamjcfdlgnicaaGreatDoorQX
import Derived.Test.YtbamjcfdlgnicaaGreatDoorProg
import Derived.Test.YtbamjcfdlgnicaaGreatDoorP0
namespace Go.Proofs.YtbamjcfdlgnicaaGreatDoor
open Go Go.RowKit Go.Proofs.Vc
set_option linter.unusedVariables false
set_option linter.unusedSimpArgs false

set_option maxHeartbeats 1000000 in
theorem sref_Int64 {g : Mem} {w : World} (hag : Agree g w) {a : ByteArray} (ha : a.size < 50000000) :
    CallTo Tryz.prog 69 #[.string a] w (Ret w g fun v g => v = .tuple #[.int .i64 (if ((readR a).isSome ∧ I64 (getR a)) then (getR a).num else 0), .bool (decide ((readR a).isSome ∧ I64 (getR a)))]) := by
  refine CallTo.enter (vs := [.string a]) (by kernel_rfl : Tryz.prog.funcs[69]? = some Tryz.f69) (by kernel_rfl) rfl rfl rfl ?_
  have hst := St.init hag
  refine zsr ?_
  refine zA rfl hst rfl ?_
  refine zA rfl hst rfl ?_
  refine zn4 ?_
  refine zM rfl hst rfl ?_
  refine stepK_call rfl rfl rfl rfl rfl hst (snum_Read hst.agree (by omega)) ?_
  clear hst
  intro v1 g1 w1 hst hle1 hcs1 hp1
  obtain ⟨na, A, n, c, nb, B, m, d, ok, ρ, rfl, hq, hy, hn⟩ := hp1
  refine zM rfl hst rfl ?_
  refine zE rfl hst rfl rfl ?_
  refine zE rfl hst rfl rfl ?_
  refine stepK_alloc rfl rfl rfl rfl zf121 rfl hst ?_
  clear hst
  intro bx w2 hst
  refine stepK_store 0 rfl rfl rfl rfl rfl rfl zf119 rfl rfl hst rfl (by first | (simp [uN_length]; omega) | simp) ?_
  clear hst
  intro w3 hst
  simp only [zL, splice, Nat.reduceAdd] at hst
  refine zA rfl hst rfl ?_
  refine znq ?_
  refine zsr ?_
  refine zM rfl hst rfl ?_
  refine stepK_d rfl rfl rfl hst (does_not rfl rfl) ?_
  refine zM rfl hst rfl ?_
  refine wpK_splitb (t := 15) rfl ?_ ?_
  · intro s15
    have hok : ok = false := by simpa using s15
    have hnone := hn hok
    have hno : ¬ ((readR a).isSome ∧ I64 (getR a)) := fun h => by rw [hnone] at h; cases h.1
    refine stepK_pass rfl rfl rfl rfl rfl rfl rfl ?_
    refine stepK_pass rfl rfl rfl rfl rfl rfl rfl ?_
    refine stepK_pass rfl rfl rfl rfl rfl rfl rfl ?_
    refine stepK_pass rfl rfl rfl rfl rfl rfl rfl ?_
    refine stepK_pass rfl rfl rfl rfl rfl rfl rfl ?_
    refine stepK_d rfl rfl rfl hst (does_pick_true rfl rfl rfl) ?_
    refine zM rfl hst rfl ?_
    refine stepK_pass rfl rfl rfl rfl rfl rfl rfl ?_
    refine stepK_pass rfl rfl rfl rfl rfl rfl rfl ?_
    refine stepK_pass rfl rfl rfl rfl rfl rfl rfl ?_
    refine stepK_pass rfl rfl rfl rfl rfl rfl rfl ?_
    refine stepK_pass rfl rfl rfl rfl rfl rfl rfl ?_
    refine stepK_d rfl rfl rfl hst (does_pick_true rfl rfl rfl) ?_
    refine znt ?_
    refine cp_cond_true rfl ?_
    refine zsr ?_
    refine zA rfl hst rfl ?_
    refine zA rfl hst rfl ?_
    refine zn5 ?_
    refine ret2 rfl rfl rfl hst ?_
    first
    | (exfalso; omega)
    | rw [if_neg hno, decide_eq_false hno]
    | (have hI : ((readR a).isSome ∧ I64 (getR a)) := ⟨hs1, hd1, by omega, by omega⟩; rw [if_pos hI, decide_eq_true hI])
    | (have hI : ¬ ((readR a).isSome ∧ I64 (getR a)) := (fun h => by (have h8 := h.2.2; omega)); rw [if_neg hI, decide_eq_false hI])
    | (exfalso; omega)
  · intro s15
    have hok : ok = true := by simpa using s15
    have hsome := hy hok
    have hg : getR a = ρ := by unfold getR; rw [hsome]; rfl
    rw [← hg] at hq hsome
    clear hg hy hn
    have hs1 : (readR a).isSome := by rw [hsome]; rfl
    refine stepK_guard rfl rfl rfl rfl rfl rfl hst (does_fieldAddr rfl zf117 rfl) ?_
    refine stepK_guard rfl rfl rfl rfl rfl rfl hst (does_fieldAddr rfl zf107 rfl) ?_
    refine stepK_guard rfl rfl rfl rfl rfl rfl hst (does_load_ownL 0 rfl (by kernel_rfl) rfl rfl rfl) ?_
    refine stepK_guard rfl rfl rfl rfl rfl rfl hst (does_len_slice rfl zf90 rfl) ?_
    refine stepK_guard rfl rfl rfl rfl rfl rfl hst (does_gtr rfl rfl rfl) ?_
    refine stepK_d rfl rfl rfl hst (does_pick_false rfl rfl rfl) ?_
    refine zM rfl hst rfl ?_
    refine wpK_split (t := 22) rfl ?_ ?_
    · intro s22
      have hno : ¬ ((readR a).isSome ∧ I64 (getR a)) := fun h => by have := hq.den1.2 h.2.1; omega
      refine stepK_pass rfl rfl rfl rfl rfl rfl rfl ?_
      refine stepK_pass rfl rfl rfl rfl rfl rfl rfl ?_
      refine stepK_pass rfl rfl rfl rfl rfl rfl rfl ?_
      refine stepK_pass rfl rfl rfl rfl rfl rfl rfl ?_
      refine stepK_pass rfl rfl rfl rfl rfl rfl rfl ?_
      refine stepK_d rfl rfl rfl hst (does_pick_true rfl rfl rfl) ?_
      refine znt ?_
      refine cp_cond_true rfl ?_
      refine zsr ?_
      refine zA rfl hst rfl ?_
      refine zA rfl hst rfl ?_
      refine zn5 ?_
      refine ret2 rfl rfl rfl hst ?_
      first
      | (exfalso; omega)
      | rw [if_neg hno, decide_eq_false hno]
      | (have hI : ((readR a).isSome ∧ I64 (getR a)) := ⟨hs1, hd1, by omega, by omega⟩; rw [if_pos hI, decide_eq_true hI])
      | (have hI : ¬ ((readR a).isSome ∧ I64 (getR a)) := (fun h => by (have h8 := h.2.2; omega)); rw [if_neg hI, decide_eq_false hI])
      | (exfalso; omega)
    · intro s22
      have hd1 : (getR a).den = 1 := hq.den1.1 (by omega)
      refine stepK_guard rfl rfl rfl rfl rfl rfl hst (does_fieldAddr rfl zf124 rfl) ?_
      refine stepK_guard rfl rfl rfl rfl rfl rfl hst (does_fieldAddr rfl zf107 rfl) ?_
      refine stepK_guard rfl rfl rfl rfl rfl rfl hst (does_load_ownL 0 rfl (by kernel_rfl) rfl rfl rfl) ?_
      refine stepK_guard rfl rfl rfl rfl rfl rfl hst (does_len_slice rfl zf90 rfl) ?_
      refine stepK_guard rfl rfl rfl rfl rfl rfl hst (does_gtr rfl rfl rfl) ?_
      refine stepK_d rfl rfl rfl hst (does_pick_false rfl rfl rfl) ?_
      refine znt ?_
      refine cp_if rfl ?_ ?_
      · intro c28
        have hno : ¬ ((readR a).isSome ∧ I64 (getR a)) := fun h => by first | (have := h.1; have h8 := h.2.2; have := hq.1.len (k := 2) (by omega); omega) | (have h8 := h.1; simp_all; done)
        refine zsr ?_
        refine zA rfl hst rfl ?_
        refine zA rfl hst rfl ?_
        refine zn5 ?_
        refine ret2 rfl rfl rfl hst ?_
        first
        | (exfalso; omega)
        | rw [if_neg hno, decide_eq_false hno]
        | (have hI : ((readR a).isSome ∧ I64 (getR a)) := ⟨hs1, hd1, by omega, by omega⟩; rw [if_pos hI, decide_eq_true hI])
        | (have hI : ¬ ((readR a).isSome ∧ I64 (getR a)) := (fun h => by (have h8 := h.2.2; omega)); rw [if_neg hI, decide_eq_false hI])
        | (exfalso; omega)
      · intro c28
        refine zk4 ?_
        refine zA rfl hst rfl ?_
        refine znq ?_
        refine cp_seq ?_
        have hnl : n ≤ 2 := by omega
        obtain ⟨⟨xs, hxs, hxw, hxt, hxv⟩, hna⟩ := id hq.1
        have hlx := hxs.1
        refine cp_region ?_
        refine stepK_d rfl rfl rfl hst (does_fieldAddr rfl zf124 rfl) ?_
        refine stepK_d rfl rfl rfl hst (does_fieldAddr rfl zf107 rfl) ?_
        refine stepK_d rfl rfl rfl hst (does_load_ownL 0 rfl (by kernel_rfl) rfl rfl rfl) ?_
        refine stepK_d rfl rfl rfl hst (does_len_slice rfl zf90 rfl) ?_
        refine stepK_d rfl rfl rfl hst (Does.int (does_sub rfl rfl rfl) (wrap_i64 (by omega) (by omega))) ?_
        refine zA rfl hst rfl ?_
        refine znt ?_
        refine cp_block ?_
        refine cp_loop (ι := Nat × Nat) (fun (j, v) => [(4, .pointer (some ⟨bx, 0, none⟩)), (6, .int .u64 (v : Int)), (7, .int .i64 ((j : Int) - 1))]) (fun (j, v) w1 => ∃ g1, St w [] g g1 [(bx, .cells #[.bool na, .slice A n c, .bool nb, .slice B m d] 30 (0, 0))] w1 ∧ SlN g1 .u32 A n xs ∧ j ≤ n ∧ v = hval (xs.drop j)) (fun (j, v) => j) (n, 0) ?k4 ?i4 ?r4
        case k4 => exact ⟨rfl, rfl, rfl, trivial⟩
        case i4 =>
          exact ⟨_, hst, hxs, Nat.le_refl _, by rw [List.drop_eq_nil_of_le (by omega)]; rfl⟩
        case r4 =>
          clear hst
          clear hxs
          rintro ⟨j, v⟩ w1 ⟨g1, hst, hxs, hj, hv⟩
          have hlx := hxs.1
          refine cp_seq ?_
          refine zsr ?_
          refine zM rfl hst rfl ?_
          refine stepK_d rfl rfl rfl hst (does_geq rfl rfl rfl) ?_
          refine znt ?_
          refine cp_if rfl ?_ ?_
          · intro c35
            refine cp_skip ?_
            refine cp_then ?_
            refine cp_seq ?_
            refine cp_block ?_
            obtain ⟨x, hx⟩ := get_of_lt (ws := xs) (j := j - 1) (by omega)
            have hxl := hxw.get hx
            obtain ⟨b1, o1, e1, hb1⟩ := hxs.some_ (by omega)
            subst e1
            have hvl : v < 4294967296 := by
              rw [hv]
              have h9 := h_val_lt (hxw.drop j)
              rw [List.length_drop] at h9
              have h8 : (4294967296 : Nat) ^ (xs.length - j) ≤ 4294967296 ^ 1 := Nat.pow_le_pow_right (by decide) (by omega)
              rw [Nat.pow_one] at h8
              omega
            refine cp_region ?_
            refine zM rfl hst rfl ?_
            refine stepK_d rfl rfl rfl hst (does_shl32 rfl rfl rfl (by omega)) ?_
            refine stepK_d rfl rfl rfl hst (does_fieldAddr rfl zf124 rfl) ?_
            refine stepK_d rfl rfl rfl hst (does_fieldAddr rfl zf107 rfl) ?_
            refine stepK_d rfl rfl rfl hst (does_load_ownL 0 rfl (by kernel_rfl) rfl rfl rfl) ?_
            refine zM rfl hst rfl ?_
            refine stepK_d rfl rfl rfl hst (does_indexAddr1 (j := (j - 1)) rfl zf90 (by kernel_rfl) rfl rfl (by omega) (by omega)) ?_
            refine stepK_d rfl rfl rfl hst (does_load_g1 rfl (by kernel_rfl) rfl (hb1.at_ _ _ hx)) ?_
            refine stepK_d rfl rfl rfl hst (does_widen32 rfl (by kernel_rfl) (by kernel_rfl) rfl (by omega)) ?_
            refine stepK_d rfl rfl rfl hst (does_or32 rfl rfl rfl (by omega) (by omega)) ?_
            refine zA rfl hst rfl ?_
            refine wpK_nil ?_
            refine at_block_normal ?_
            refine cp_then ?_
            refine cp_region ?_
            refine zM rfl hst rfl ?_
            refine stepK_d rfl rfl rfl hst (Does.int (does_sub rfl rfl rfl) (wrap_i64 (by omega) (by omega))) ?_
            refine zA rfl hst rfl ?_
            refine wpK_nil ?_
            refine round_end ((j - 1, v * 4294967296 + x)) ?_ ?_ ?_
            · exact ⟨rfl, rfl, kint (by omega), trivial⟩
            · refine ⟨_, hst, hxs, by omega, ?_⟩
              rw [hv, h_val_drop_get hx, show j - 1 + 1 = j by omega]
              omega
            · show j - 1 < j
              omega
          · intro c35
            refine cp_exit ?_
            refine at_then_exit ?_
            refine at_then_exit ?_
            refine cp_exit_here ?_
            refine cp_then ?_
            refine cp_seq ?_
            refine cp_block ?_
            refine cp_seq ?_
            obtain rfl : j = 0 := by omega
            replace hv : v = (getR a).num.natAbs := by rw [hv, ← hxv]; rfl
            have hnt : na = true → (getR a).num < 0 := fun e => of_decide_eq_true (hna.symm.trans e)
            have hnf : na = false → ¬ (getR a).num < 0 := fun e => of_decide_eq_false (hna.symm.trans e)
            refine cp_region ?_
            refine stepK_d rfl rfl rfl hst (does_fieldAddr rfl zf124 rfl) ?_
            refine stepK_d rfl rfl rfl hst (does_fieldAddr rfl zf106 rfl) ?_
            refine stepK_d rfl rfl rfl hst (does_load_ownL 0 rfl (by kernel_rfl) rfl rfl rfl) ?_
            refine zM rfl hst rfl ?_
            refine wpK_splitb (t := 52) rfl ?_ ?_
            · intro s52
              have hlt := hnt s52
              refine stepK_guard rfl rfl rfl rfl rfl rfl hst (does_move rfl rfl) ?_
              refine stepK_guard rfl rfl rfl rfl rfl rfl hst (does_leq_n (b := 9223372036854775808) rfl rfl rfl) ?_
              refine stepK_d rfl rfl rfl hst (does_pick_true rfl rfl rfl) ?_
              refine zA rfl hst rfl ?_
              refine znt ?_
              refine cp_if rfl ?_ ?_
              · intro c48
                refine zsr ?_
                refine zM rfl hst rfl ?_
                refine stepK_d rfl rfl rfl hst (Does.nat (b := (18446744073709551616 - v % 18446744073709551616) % 18446744073709551616) (does_neg_u64 rfl rfl) rfl) ?_
                refine stepK_d rfl rfl rfl hst (Does.int (b := (getR a).num) (does_conv rfl (by kernel_rfl) (by kernel_rfl) rfl) (by rw [IntKind.wrap_i64]; omega)) ?_
                refine zA rfl hst rfl ?_
                refine zA rfl hst rfl ?_
                refine znt ?_
                refine cp_ret ?_
                refine at_block_ret ?_
                refine at_then_ret ?_
                refine ret2 rfl rfl rfl hst ?_
                first
                | (exfalso; omega)
                | rw [if_neg hno, decide_eq_false hno]
                | (have hI : ((readR a).isSome ∧ I64 (getR a)) := ⟨hs1, hd1, by omega, by omega⟩; rw [if_pos hI, decide_eq_true hI])
                | (have hI : ¬ ((readR a).isSome ∧ I64 (getR a)) := (fun h => by (have h8 := h.2.2; omega)); rw [if_neg hI, decide_eq_false hI])
                | (exfalso; omega)
              · intro c48
                refine zsr ?_
                refine stepK_d rfl rfl rfl hst (does_fieldAddr rfl zf124 rfl) ?_
                refine stepK_d rfl rfl rfl hst (does_fieldAddr rfl zf106 rfl) ?_
                refine stepK_d rfl rfl rfl hst (does_load_ownL 0 rfl (by kernel_rfl) rfl rfl rfl) ?_
                refine stepK_d rfl rfl rfl hst (does_not rfl rfl) ?_
                refine zM rfl hst rfl ?_
                refine wpK_splitb (t := 64) rfl ?_ ?_
                · intro s64
                  have hl2 : ¬ (getR a).num < 0 := hnf (by simpa using s64)
                  refine stepK_guard rfl rfl rfl rfl rfl rfl hst (does_move rfl rfl) ?_
                  refine stepK_guard rfl rfl rfl rfl rfl rfl hst (does_lss_n (b := 9223372036854775808) rfl rfl rfl) ?_
                  refine stepK_d rfl rfl rfl hst (does_pick_true rfl rfl rfl) ?_
                  refine zA rfl hst rfl ?_
                  refine znt ?_
                  refine cp_if rfl ?_ ?_
                  · intro c59
                    refine zsr ?_
                    refine zM rfl hst rfl ?_
                    refine stepK_d rfl rfl rfl hst (Does.int (b := (getR a).num) (does_conv rfl (by kernel_rfl) (by kernel_rfl) rfl) (by rw [IntKind.wrap_i64]; omega)) ?_
                    refine zA rfl hst rfl ?_
                    refine zA rfl hst rfl ?_
                    refine znt ?_
                    refine cp_ret ?_
                    refine at_block_ret ?_
                    refine at_then_ret ?_
                    refine ret2 rfl rfl rfl hst ?_
                    first
                    | (exfalso; omega)
                    | rw [if_neg hno, decide_eq_false hno]
                    | (have hI : ((readR a).isSome ∧ I64 (getR a)) := ⟨hs1, hd1, by omega, by omega⟩; rw [if_pos hI, decide_eq_true hI])
                    | (have hI : ¬ ((readR a).isSome ∧ I64 (getR a)) := (fun h => by (have h8 := h.2.2; omega)); rw [if_neg hI, decide_eq_false hI])
                    | (exfalso; omega)
                  · intro c59
                    refine cp_skip ?_
                    refine at_block_normal ?_
                    refine cp_then ?_
                    refine zsr ?_
                    refine zA rfl hst rfl ?_
                    refine zA rfl hst rfl ?_
                    refine znt ?_
                    refine cp_ret ?_
                    refine ret2 rfl rfl rfl hst ?_
                    first
                    | (exfalso; omega)
                    | rw [if_neg hno, decide_eq_false hno]
                    | (have hI : ((readR a).isSome ∧ I64 (getR a)) := ⟨hs1, hd1, by omega, by omega⟩; rw [if_pos hI, decide_eq_true hI])
                    | (have hI : ¬ ((readR a).isSome ∧ I64 (getR a)) := (fun h => by (have h8 := h.2.2; omega)); rw [if_neg hI, decide_eq_false hI])
                    | (exfalso; omega)
                · intro s64
                  have hl2 : (getR a).num < 0 := hnt (by simpa using s64)
                  refine stepK_pass rfl rfl rfl rfl rfl rfl rfl ?_
                  refine stepK_pass rfl rfl rfl rfl rfl rfl rfl ?_
                  refine stepK_d rfl rfl rfl hst (does_pick_false rfl rfl rfl) ?_
                  refine zA rfl hst rfl ?_
                  refine znt ?_
                  refine cp_cond_false rfl ?_
                  refine cp_skip ?_
                  refine at_block_normal ?_
                  refine cp_then ?_
                  refine zsr ?_
                  refine zA rfl hst rfl ?_
                  refine zA rfl hst rfl ?_
                  refine znt ?_
                  refine cp_ret ?_
                  refine ret2 rfl rfl rfl hst ?_
                  first
                  | (exfalso; omega)
                  | rw [if_neg hno, decide_eq_false hno]
                  | (have hI : ((readR a).isSome ∧ I64 (getR a)) := ⟨hs1, hd1, by omega, by omega⟩; rw [if_pos hI, decide_eq_true hI])
                  | (have hI : ¬ ((readR a).isSome ∧ I64 (getR a)) := (fun h => by (have h8 := h.2.2; omega)); rw [if_neg hI, decide_eq_false hI])
                  | (exfalso; omega)
            · intro s52
              have hlt := hnf s52
              refine stepK_pass rfl rfl rfl rfl rfl rfl rfl ?_
              refine stepK_pass rfl rfl rfl rfl rfl rfl rfl ?_
              refine stepK_d rfl rfl rfl hst (does_pick_false rfl rfl rfl) ?_
              refine zA rfl hst rfl ?_
              refine znt ?_
              refine cp_cond_false rfl ?_
              refine zsr ?_
              refine stepK_d rfl rfl rfl hst (does_fieldAddr rfl zf124 rfl) ?_
              refine stepK_d rfl rfl rfl hst (does_fieldAddr rfl zf106 rfl) ?_
              refine stepK_d rfl rfl rfl hst (does_load_ownL 0 rfl (by kernel_rfl) rfl rfl rfl) ?_
              refine stepK_d rfl rfl rfl hst (does_not rfl rfl) ?_
              refine zM rfl hst rfl ?_
              refine wpK_splitb (t := 64) rfl ?_ ?_
              · intro s64
                have hl2 : ¬ (getR a).num < 0 := hnf (by simpa using s64)
                refine stepK_guard rfl rfl rfl rfl rfl rfl hst (does_move rfl rfl) ?_
                refine stepK_guard rfl rfl rfl rfl rfl rfl hst (does_lss_n (b := 9223372036854775808) rfl rfl rfl) ?_
                refine stepK_d rfl rfl rfl hst (does_pick_true rfl rfl rfl) ?_
                refine zA rfl hst rfl ?_
                refine znt ?_
                refine cp_if rfl ?_ ?_
                · intro c59
                  refine zsr ?_
                  refine zM rfl hst rfl ?_
                  refine stepK_d rfl rfl rfl hst (Does.int (b := (getR a).num) (does_conv rfl (by kernel_rfl) (by kernel_rfl) rfl) (by rw [IntKind.wrap_i64]; omega)) ?_
                  refine zA rfl hst rfl ?_
                  refine zA rfl hst rfl ?_
                  refine znt ?_
                  refine cp_ret ?_
                  refine at_block_ret ?_
                  refine at_then_ret ?_
                  refine ret2 rfl rfl rfl hst ?_
                  first
                  | (exfalso; omega)
                  | rw [if_neg hno, decide_eq_false hno]
                  | (have hI : ((readR a).isSome ∧ I64 (getR a)) := ⟨hs1, hd1, by omega, by omega⟩; rw [if_pos hI, decide_eq_true hI])
                  | (have hI : ¬ ((readR a).isSome ∧ I64 (getR a)) := (fun h => by (have h8 := h.2.2; omega)); rw [if_neg hI, decide_eq_false hI])
                  | (exfalso; omega)
                · intro c59
                  refine cp_skip ?_
                  refine at_block_normal ?_
                  refine cp_then ?_
                  refine zsr ?_
                  refine zA rfl hst rfl ?_
                  refine zA rfl hst rfl ?_
                  refine znt ?_
                  refine cp_ret ?_
                  refine ret2 rfl rfl rfl hst ?_
                  first
                  | (exfalso; omega)
                  | rw [if_neg hno, decide_eq_false hno]
                  | (have hI : ((readR a).isSome ∧ I64 (getR a)) := ⟨hs1, hd1, by omega, by omega⟩; rw [if_pos hI, decide_eq_true hI])
                  | (have hI : ¬ ((readR a).isSome ∧ I64 (getR a)) := (fun h => by (have h8 := h.2.2; omega)); rw [if_neg hI, decide_eq_false hI])
                  | (exfalso; omega)
              · intro s64
                have hl2 : (getR a).num < 0 := hnt (by simpa using s64)
                refine stepK_pass rfl rfl rfl rfl rfl rfl rfl ?_
                refine stepK_pass rfl rfl rfl rfl rfl rfl rfl ?_
                refine stepK_d rfl rfl rfl hst (does_pick_false rfl rfl rfl) ?_
                refine zA rfl hst rfl ?_
                refine znt ?_
                refine cp_cond_false rfl ?_
                refine cp_skip ?_
                refine at_block_normal ?_
                refine cp_then ?_
                refine zsr ?_
                refine zA rfl hst rfl ?_
                refine zA rfl hst rfl ?_
                refine znt ?_
                refine cp_ret ?_
                refine ret2 rfl rfl rfl hst ?_
                first
                | (exfalso; omega)
                | rw [if_neg hno, decide_eq_false hno]
                | (have hI : ((readR a).isSome ∧ I64 (getR a)) := ⟨hs1, hd1, by omega, by omega⟩; rw [if_pos hI, decide_eq_true hI])
                | (have hI : ¬ ((readR a).isSome ∧ I64 (getR a)) := (fun h => by (have h8 := h.2.2; omega)); rw [if_neg hI, decide_eq_false hI])
                | (exfalso; omega)

end Go.Proofs.YtbamjcfdlgnicaaGreatDoor
