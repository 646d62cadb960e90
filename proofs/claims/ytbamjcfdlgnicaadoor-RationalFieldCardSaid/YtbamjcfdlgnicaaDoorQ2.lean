/- A helper of the claim: general lemmas and walks of functions, printed by a program of this session. Conditions: none. -/
import Derived.Test.YtbamjcfdlgnicaaDoorProg
import Derived.Laws.MathBits
import Derived.Lib.Strings
import Derived.Lib.Slices
import Derived.Lib.Small
import Derived.Lib.Walk
import Derived.Lib.BitFns
import Derived.Laws.CopyRow
import Derived.Test.YtbamjcfdlgnicaaDoorQ0
import Derived.Test.YtbamjcfdlgnicaaDoorQ1
namespace Go.Proofs.YtbamjcfdlgnicaaDoor
open Go Go.RowKit Go.Proofs.Vc
set_option linter.unusedVariables false
set_option linter.unusedSimpArgs false

set_option maxHeartbeats 1000000 in
theorem bits_Mul64 {g : Mem} {w : World} (hag : Agree g w) {x y : Nat} (hx : x < 18446744073709551616) (hy : y < 18446744073709551616) :
    CallTo Tryd.prog 66 #[.int .u64 (x : Int), .int .u64 (y : Int)] w (Ret w g fun v g => v = .tuple #[.int .u64 ((x * y / 18446744073709551616 : Nat) : Int), .int .u64 ((x * y % 18446744073709551616 : Nat) : Int)]) := by
  refine CallTo.enter (vs := [.int .u64 (x : Int), .int .u64 (y : Int)]) (by kernel_rfl : Tryd.prog.funcs[66]? = some Tryd.f66) (by kernel_rfl) rfl rfl rfl ?_
  have hst := St.init hag
  refine cp_seq ?_
  refine cp_region ?_
  refine stepK_d rfl rfl rfl hst (does_assign rfl rfl) ?_
  refine stepK_d rfl rfl rfl hst (does_assign rfl rfl) ?_
  refine wpK_nil ?_
  refine cp_then ?_
  refine cp_seq ?_
  refine cp_region ?_
  refine stepK_d rfl rfl rfl hst (does_move rfl rfl) ?_
  refine stepK_d rfl rfl rfl hst (does_and_mask32 rfl rfl rfl (by omega)) ?_
  refine stepK_d rfl rfl rfl hst (does_assign rfl rfl) ?_
  refine wpK_nil ?_
  refine cp_then ?_
  refine cp_seq ?_
  refine cp_region ?_
  refine stepK_d rfl rfl rfl hst (does_move rfl rfl) ?_
  refine stepK_d rfl rfl rfl hst (does_shr_u64c (c := 32) (pw := 4294967296) rfl rfl rfl (by decide)) ?_
  refine stepK_d rfl rfl rfl hst (does_assign rfl rfl) ?_
  refine wpK_nil ?_
  refine cp_then ?_
  refine cp_seq ?_
  refine cp_region ?_
  refine stepK_d rfl rfl rfl hst (does_move rfl rfl) ?_
  refine stepK_d rfl rfl rfl hst (does_and_mask32 rfl rfl rfl (by omega)) ?_
  refine stepK_d rfl rfl rfl hst (does_assign rfl rfl) ?_
  refine wpK_nil ?_
  refine cp_then ?_
  refine cp_seq ?_
  refine cp_region ?_
  refine stepK_d rfl rfl rfl hst (does_move rfl rfl) ?_
  refine stepK_d rfl rfl rfl hst (does_shr_u64c (c := 32) (pw := 4294967296) rfl rfl rfl (by decide)) ?_
  refine stepK_d rfl rfl rfl hst (does_assign rfl rfl) ?_
  refine wpK_nil ?_
  refine cp_then ?_
  refine cp_seq ?_
  refine cp_region ?_
  refine stepK_d rfl rfl rfl hst (does_move rfl rfl) ?_
  refine stepK_d rfl rfl rfl hst (does_move rfl rfl) ?_
  refine stepK_d rfl rfl rfl hst (does_mul_u64 rfl rfl rfl) ?_
  refine stepK_d rfl rfl rfl hst (does_assign rfl rfl) ?_
  refine wpK_nil ?_
  refine cp_then ?_
  refine cp_seq ?_
  refine cp_region ?_
  refine stepK_d rfl rfl rfl hst (does_move rfl rfl) ?_
  refine stepK_d rfl rfl rfl hst (does_move rfl rfl) ?_
  refine stepK_d rfl rfl rfl hst (does_mul_u64 rfl rfl rfl) ?_
  refine stepK_d rfl rfl rfl hst (does_move rfl rfl) ?_
  refine stepK_d rfl rfl rfl hst (does_shr_u64c (c := 32) (pw := 4294967296) rfl rfl rfl (by decide)) ?_
  refine stepK_d rfl rfl rfl hst (does_add_u64 rfl rfl rfl) ?_
  refine stepK_d rfl rfl rfl hst (does_assign rfl rfl) ?_
  refine wpK_nil ?_
  refine cp_then ?_
  refine cp_seq ?_
  refine cp_region ?_
  refine stepK_d rfl rfl rfl hst (does_move rfl rfl) ?_
  refine stepK_d rfl rfl rfl hst (does_and_mask32 rfl rfl rfl (by omega)) ?_
  refine stepK_d rfl rfl rfl hst (does_assign rfl rfl) ?_
  refine wpK_nil ?_
  refine cp_then ?_
  refine cp_seq ?_
  refine cp_region ?_
  refine stepK_d rfl rfl rfl hst (does_move rfl rfl) ?_
  refine stepK_d rfl rfl rfl hst (does_shr_u64c (c := 32) (pw := 4294967296) rfl rfl rfl (by decide)) ?_
  refine stepK_d rfl rfl rfl hst (does_assign rfl rfl) ?_
  refine wpK_nil ?_
  refine cp_then ?_
  refine cp_seq ?_
  refine cp_region ?_
  refine stepK_d rfl rfl rfl hst (does_move rfl rfl) ?_
  refine stepK_d rfl rfl rfl hst (does_move rfl rfl) ?_
  refine stepK_d rfl rfl rfl hst (does_move rfl rfl) ?_
  refine stepK_d rfl rfl rfl hst (does_mul_u64 rfl rfl rfl) ?_
  refine stepK_d rfl rfl rfl hst (does_add_u64 rfl rfl rfl) ?_
  refine stepK_d rfl rfl rfl hst (does_assign rfl rfl) ?_
  refine wpK_nil ?_
  refine cp_then ?_
  refine cp_seq ?_
  refine cp_region ?_
  refine stepK_d rfl rfl rfl hst (does_move rfl rfl) ?_
  refine stepK_d rfl rfl rfl hst (does_move rfl rfl) ?_
  refine stepK_d rfl rfl rfl hst (does_mul_u64 rfl rfl rfl) ?_
  refine stepK_d rfl rfl rfl hst (does_move rfl rfl) ?_
  refine stepK_d rfl rfl rfl hst (does_add_u64 rfl rfl rfl) ?_
  refine stepK_d rfl rfl rfl hst (does_move rfl rfl) ?_
  refine stepK_d rfl rfl rfl hst (does_shr_u64c (c := 32) (pw := 4294967296) rfl rfl rfl (by decide)) ?_
  refine stepK_d rfl rfl rfl hst (does_add_u64 rfl rfl rfl) ?_
  refine stepK_d rfl rfl rfl hst (does_assign rfl rfl) ?_
  refine wpK_nil ?_
  refine cp_then ?_
  refine cp_seq ?_
  refine cp_region ?_
  refine stepK_d rfl rfl rfl hst (does_move rfl rfl) ?_
  refine stepK_d rfl rfl rfl hst (does_move rfl rfl) ?_
  refine stepK_d rfl rfl rfl hst (does_mul_u64 rfl rfl rfl) ?_
  refine stepK_d rfl rfl rfl hst (does_assign rfl rfl) ?_
  refine wpK_nil ?_
  refine cp_then ?_
  refine cp_ret ?_
  refine ret2 rfl rfl rfl hst ?_
  rw [mul64_nat x y hx hy]

set_option maxHeartbeats 1000000 in
theorem num_product {g : Mem} {w : World} (hag : Agree g w) {A B : Option Addr} {n c m d N M : Nat} (ha : IsNat g A n N) (hb : IsNat g B m M) (hn : n ≤ 8796093022207) (hm : m ≤ 8796093022207) :
    CallTo Tryd.prog 47 #[.slice A n c, .slice B m d] w (Ret w g fun v g => ∃ A n c, v = .slice A n c ∧ IsNat g A n (N * M)) := by
  refine CallTo.enter (vs := [.slice A n c, .slice B m d]) (by kernel_rfl : Tryd.prog.funcs[47]? = some Tryd.f47) (by kernel_rfl) rfl rfl rfl ?_
  have hst := St.init hag
  have hz1 := ha.zero_iff
  have hz2 := hb.zero_iff
  obtain ⟨xs, hxs, hxw, hxt, rfl⟩ := ha
  obtain ⟨ys, hys, hyw, hyt, rfl⟩ := hb
  have hlx := hxs.1
  have hly := hys.1
  refine cp_seq ?_
  refine cp_region ?_
  refine stepK_d rfl rfl rfl hst (does_assign rfl rfl) ?_
  refine wpK_nil ?_
  refine cp_then ?_
  refine cp_seq ?_
  refine cp_seq ?_
  refine cp_region ?_
  refine stepK_d rfl rfl rfl hst (does_move rfl rfl) ?_
  refine stepK_d rfl rfl rfl hst (does_len_slice rfl (by kernel_rfl : Program.underlying Tryd.prog 64 = some (.slice 66)) rfl) ?_
  refine stepK_d rfl rfl rfl hst (does_eql rfl rfl rfl) ?_
  refine stepK_d rfl rfl rfl hst (does_move rfl rfl) ?_
  refine wpK_split (t := 17) rfl ?_ ?_
  · intro s17
    refine stepK_pass rfl rfl rfl rfl rfl rfl rfl ?_
    refine stepK_pass rfl rfl rfl rfl rfl rfl rfl ?_
    refine stepK_pass rfl rfl rfl rfl rfl rfl rfl ?_
    refine stepK_d rfl rfl rfl hst (does_pick_true rfl rfl rfl) ?_
    refine wpK_nil ?_
    refine cp_then ?_
    refine cp_cond_true rfl ?_
    refine cp_seq ?_
    refine cp_region ?_
    refine stepK_d rfl rfl rfl hst (does_assign rfl rfl) ?_
    refine wpK_nil ?_
    refine cp_then ?_
    refine cp_ret ?_
    refine at_then_ret ?_
    refine ret1 rfl rfl hst ?_
    exact ⟨_, _, _, rfl, by rw [hz1.1 (by omega), Nat.zero_mul]; exact IsNat.nil g⟩
  · intro s17
    refine stepK_guard rfl rfl rfl rfl rfl rfl hst (does_move rfl rfl) ?_
    refine stepK_guard rfl rfl rfl rfl rfl rfl hst (does_len_slice rfl (by kernel_rfl : Program.underlying Tryd.prog 64 = some (.slice 66)) rfl) ?_
    refine stepK_guard rfl rfl rfl rfl rfl rfl hst (does_eql rfl rfl rfl) ?_
    refine stepK_d rfl rfl rfl hst (does_pick_false rfl rfl rfl) ?_
    refine wpK_nil ?_
    refine cp_then ?_
    refine cp_if rfl ?_ ?_
    · intro c21
      refine cp_seq ?_
      refine cp_region ?_
      refine stepK_d rfl rfl rfl hst (does_assign rfl rfl) ?_
      refine wpK_nil ?_
      refine cp_then ?_
      refine cp_ret ?_
      refine at_then_ret ?_
      refine ret1 rfl rfl hst ?_
      exact ⟨_, _, _, rfl, by rw [hz2.1 (by omega), Nat.mul_zero]; exact IsNat.nil g⟩
    · intro c21
      refine cp_skip ?_
      refine cp_then ?_
      refine cp_seq ?_
      obtain ⟨b1, o1, rfl, hb1⟩ := hxs.some_ (by omega)
      obtain ⟨b2, o2, rfl, hb2⟩ := hys.some_ (by omega)
      refine cp_region ?_
      refine stepK_d rfl rfl rfl hst (does_move rfl rfl) ?_
      refine stepK_d rfl rfl rfl hst (does_len_slice rfl (by kernel_rfl : Program.underlying Tryd.prog 64 = some (.slice 66)) rfl) ?_
      refine stepK_d rfl rfl rfl hst (does_move rfl rfl) ?_
      refine stepK_d rfl rfl rfl hst (does_len_slice rfl (by kernel_rfl : Program.underlying Tryd.prog 64 = some (.slice 66)) rfl) ?_
      refine stepK_d rfl rfl rfl hst (Does.int (does_add rfl rfl rfl) (wrap_i64 (by omega) (by omega))) ?_
      refine stepK_make rfl rfl rfl (l := n + m) (c := n + m) rfl (by kernel_rfl : Program.underlying Tryd.prog 64 = some (.slice 66)) (by kernel_rfl : elemInfo Tryd.prog 66 = some ((.int .u64 0), 1, 8)) rfl rfl rfl rfl (by omega) (by omega) (by omega) (by omega) (by omega) hst ?_
      clear hst
      intro bo w1 hst
      rw [uN_rep] at hst
      refine stepK_d rfl rfl rfl hst (does_assign rfl rfl) ?_
      refine wpK_nil ?_
      refine cp_then ?_
      refine cp_seq ?_
      refine cp_seq ?_
      refine cp_region ?_
      refine stepK_d rfl rfl rfl hst (does_move rfl rfl) ?_
      refine stepK_d rfl rfl rfl hst (does_len_slice rfl (by kernel_rfl : Program.underlying Tryd.prog 64 = some (.slice 66)) rfl) ?_
      refine stepK_d rfl rfl rfl hst (does_move rfl rfl) ?_
      refine wpK_nil ?_
      refine cp_then ?_
      refine cp_block ?_
      refine cp_loop (ι := Nat × List Nat) (fun (i, ws) => [(1, .slice (some ⟨b2, o2, none⟩) m d), (5, .slice (some ⟨bo, 0, none⟩) (n + m) (n + m)), (28, .slice (some ⟨b1, o1, none⟩) n c), (29, .int .i64 (n : Int)), (30, .int .i64 (i : Int))]) (fun (i, ws) w1 => ∃ g1, St w [] g g1 [(bo, .cells (uN .u64 ws).toArray 66 (0, 0))] w1 ∧ i ≤ n ∧ Words ws ∧ ws.length = n + m ∧ val (ws.take (i + m)) = val (xs.take i) * val ys) (fun (i, ws) => n - i) (0, List.replicate (n + m) 0) ?k2 ?i2 ?r2
      case k2 => exact ⟨rfl, rfl, rfl, rfl, rfl, trivial⟩
      case i2 =>
        exact ⟨_, hst, Nat.zero_le _, Words.rep _, by simp, by simp [val, val_rep]⟩
      case r2 =>
        clear hst
        rintro ⟨i, ws⟩ w1 ⟨g1, hst, hi, hws, hwl, hv⟩
        refine cp_seq ?_
        refine cp_region ?_
        refine stepK_d rfl rfl rfl hst (does_lss rfl rfl rfl) ?_
        refine wpK_nil ?_
        refine cp_then ?_
        refine cp_seq ?_
        refine cp_if rfl ?_ ?_
        · intro c31
          refine cp_skip ?_
          refine cp_then ?_
          refine cp_seq ?_
          refine cp_block ?_
          refine cp_seq ?_
          obtain ⟨x, hx⟩ := get_of_lt (ws := xs) (j := i) (by omega)
          have hxlt := hxw.get hx
          refine cp_region ?_
          refine stepK_d rfl rfl rfl hst (does_move rfl rfl) ?_
          refine stepK_d rfl rfl rfl hst (does_indexAddr1 rfl (by kernel_rfl : Program.underlying Tryd.prog 64 = some (.slice 66)) (by kernel_rfl) rfl rfl rfl (by omega)) ?_
          refine stepK_d rfl rfl rfl hst (does_load_g1 rfl (by kernel_rfl) rfl ((hb1.mono hst.le).at_ _ _ hx)) ?_
          refine stepK_d rfl rfl rfl hst (does_assign rfl rfl) ?_
          refine stepK_d rfl rfl rfl hst (does_assign rfl rfl) ?_
          refine wpK_nil ?_
          refine cp_then ?_
          refine cp_seq ?_
          refine cp_region ?_
          refine stepK_d rfl rfl rfl hst (does_assign rfl rfl) ?_
          refine wpK_nil ?_
          refine cp_then ?_
          refine cp_seq ?_
          refine cp_seq ?_
          refine cp_region ?_
          refine stepK_d rfl rfl rfl hst (does_move rfl rfl) ?_
          refine stepK_d rfl rfl rfl hst (does_len_slice rfl (by kernel_rfl : Program.underlying Tryd.prog 64 = some (.slice 66)) rfl) ?_
          refine stepK_d rfl rfl rfl hst (does_move rfl rfl) ?_
          refine wpK_nil ?_
          refine cp_then ?_
          refine cp_block ?_
          refine cp_loop (ι := Nat × Nat × List Nat) (fun (k, cy, ws2) => [(1, .slice (some ⟨b2, o2, none⟩) m d), (5, .slice (some ⟨bo, 0, none⟩) (n + m) (n + m)), (6, .int .i64 (i : Int)), (7, .int .u64 (x : Int)), (8, .int .u64 (cy : Int)), (28, .slice (some ⟨b1, o1, none⟩) n c), (29, .int .i64 (n : Int)), (30, .int .i64 (i : Int)), (35, .slice (some ⟨b2, o2, none⟩) m d), (36, .int .i64 (m : Int)), (37, .int .i64 (k : Int))]) (fun (k, cy, ws2) w2 => ∃ g1, St w [] g g1 [(bo, .cells (uN .u64 ws2).toArray 66 (0, 0))] w2 ∧ k ≤ m ∧ cy < 18446744073709551616 ∧ Words ws2 ∧ ws2.length = n + m ∧ val (ws2.take (i + m)) + cy * 18446744073709551616 ^ (i + k) = val (ws.take (i + m)) + x * 18446744073709551616 ^ i * val (ys.take k)) (fun (k, cy, ws2) => m - k) (0, 0, ws) ?k3 ?i3 ?r3
          case k3 => exact ⟨rfl, rfl, rfl, rfl, rfl, rfl, rfl, rfl, rfl, rfl, rfl, trivial⟩
          case i3 =>
            exact ⟨_, hst, Nat.zero_le _, by decide, hws, hwl, by simp [val]⟩
          case r3 =>
            clear hst
            rintro ⟨k, cy, ws2⟩ w2 ⟨g2, hst, hk, hcy2, hws2, hwl2, hv2⟩
            refine cp_seq ?_
            refine cp_region ?_
            refine stepK_d rfl rfl rfl hst (does_lss rfl rfl rfl) ?_
            refine wpK_nil ?_
            refine cp_then ?_
            refine cp_seq ?_
            refine cp_if rfl ?_ ?_
            · intro c38
              refine cp_skip ?_
              refine cp_then ?_
              refine cp_seq ?_
              refine cp_block ?_
              refine cp_seq ?_
              obtain ⟨y, hy⟩ := get_of_lt (ws := ys) (j := k) (by omega)
              have hylt := hyw.get hy
              obtain ⟨old, hok⟩ := get_of_lt (ws := ws2) (j := i + k) (by omega)
              have hold := hws2.get hok
              refine cp_region ?_
              refine stepK_d rfl rfl rfl hst (does_move rfl rfl) ?_
              refine stepK_d rfl rfl rfl hst (does_indexAddr1 rfl (by kernel_rfl : Program.underlying Tryd.prog 64 = some (.slice 66)) (by kernel_rfl) rfl rfl rfl (by omega)) ?_
              refine stepK_d rfl rfl rfl hst (does_load_g1 rfl (by kernel_rfl) rfl ((hb2.mono hst.le).at_ _ _ hy)) ?_
              refine stepK_d rfl rfl rfl hst (does_assign rfl rfl) ?_
              refine stepK_d rfl rfl rfl hst (does_assign rfl rfl) ?_
              refine wpK_nil ?_
              refine cp_then ?_
              refine cp_seq ?_
              refine cp_region ?_
              refine stepK_d rfl rfl rfl hst (does_move rfl rfl) ?_
              refine stepK_d rfl rfl rfl hst (does_move rfl rfl) ?_
              refine stepK_call rfl rfl rfl rfl rfl hst (bits_Mul64 hst.agree (by first | assumption | rfl | omega | (simp; done)) (by first | assumption | rfl | omega | (simp; done))) ?_
              clear hst
              intro v4 g4 w4 hst hle4 hcs4 hp4
              obtain rfl := hp4
              refine stepK_d rfl rfl rfl hst (does_move rfl rfl) ?_
              refine stepK_d rfl rfl rfl hst (does_extract rfl rfl rfl) ?_
              refine stepK_d rfl rfl rfl hst (does_extract rfl rfl rfl) ?_
              refine stepK_d rfl rfl rfl hst (does_assign rfl rfl) ?_
              refine stepK_d rfl rfl rfl hst (does_assign rfl rfl) ?_
              refine wpK_nil ?_
              refine cp_then ?_
              refine cp_seq ?_
              refine cp_region ?_
              refine stepK_d rfl rfl rfl hst (does_assign rfl rfl) ?_
              refine wpK_nil ?_
              refine cp_then ?_
              refine cp_seq ?_
              refine cp_region ?_
              refine stepK_d rfl rfl rfl hst (does_move rfl rfl) ?_
              refine stepK_d rfl rfl rfl hst (does_move rfl rfl) ?_
              refine stepK_d rfl rfl rfl hst (does_move rfl rfl) ?_
              refine stepK_d rfl rfl rfl hst (does_move rfl rfl) ?_
              refine stepK_d rfl rfl rfl hst (Does.int (does_add rfl rfl rfl) (wrap_i64 (by omega) (by omega))) ?_
              refine stepK_d rfl rfl rfl hst (does_indexAddr1 (j := (i + k)) rfl (by kernel_rfl : Program.underlying Tryd.prog 64 = some (.slice 66)) (by kernel_rfl) rfl rfl (by omega) (by omega)) ?_
              refine stepK_d rfl rfl rfl hst (does_load_own1 0 rfl (by kernel_rfl) rfl rfl (uN_arr_get (by rw [Nat.zero_add]; exact hok))) ?_
              refine stepK_call rfl rfl rfl rfl rfl hst (bits_Add64 (c := 0) hst.agree (by omega)) ?_
              clear hst
              intro v5 g5 w5 hst hle5 hcs5 hp5
              obtain rfl := hp5
              refine stepK_d rfl rfl rfl hst (does_move rfl rfl) ?_
              refine stepK_d rfl rfl rfl hst (does_extract rfl rfl rfl) ?_
              refine stepK_d rfl rfl rfl hst (does_extract rfl rfl rfl) ?_
              refine stepK_d rfl rfl rfl hst (does_assign rfl rfl) ?_
              refine stepK_d rfl rfl rfl hst (does_assign rfl rfl) ?_
              refine wpK_nil ?_
              refine cp_then ?_
              refine cp_seq ?_
              refine cp_region ?_
              refine stepK_d rfl rfl rfl hst (does_move rfl rfl) ?_
              refine stepK_d rfl rfl rfl hst (does_move rfl rfl) ?_
              refine stepK_d rfl rfl rfl hst (does_add_u64 rfl rfl rfl) ?_
              refine stepK_d rfl rfl rfl hst (does_assign rfl rfl) ?_
              refine wpK_nil ?_
              refine cp_then ?_
              refine cp_seq ?_
              refine cp_region ?_
              refine stepK_d rfl rfl rfl hst (does_move rfl rfl) ?_
              refine stepK_d rfl rfl rfl hst (does_move rfl rfl) ?_
              refine stepK_call rfl rfl rfl rfl rfl hst (bits_Add64 (c := 0) hst.agree (by omega)) ?_
              clear hst
              intro v6 g6 w6 hst hle6 hcs6 hp6
              obtain rfl := hp6
              refine stepK_d rfl rfl rfl hst (does_move rfl rfl) ?_
              refine stepK_d rfl rfl rfl hst (does_extract rfl rfl rfl) ?_
              refine stepK_d rfl rfl rfl hst (does_extract rfl rfl rfl) ?_
              refine stepK_d rfl rfl rfl hst (does_assign rfl rfl) ?_
              refine stepK_d rfl rfl rfl hst (does_assign rfl rfl) ?_
              refine wpK_nil ?_
              refine cp_then ?_
              refine cp_region ?_
              refine stepK_d rfl rfl rfl hst (does_move rfl rfl) ?_
              refine stepK_d rfl rfl rfl hst (does_move rfl rfl) ?_
              refine stepK_d rfl rfl rfl hst (does_move rfl rfl) ?_
              refine stepK_d rfl rfl rfl hst (Does.int (does_add rfl rfl rfl) (wrap_i64 (by omega) (by omega))) ?_
              refine stepK_d rfl rfl rfl hst (does_move rfl rfl) ?_
              refine stepK_d rfl rfl rfl hst (does_move rfl rfl) ?_
              refine stepK_d rfl rfl rfl hst (does_move rfl rfl) ?_
              refine stepK_d rfl rfl rfl hst (does_add_u64 rfl rfl rfl) ?_
              refine stepK_d rfl rfl rfl hst (does_indexAddr1 (j := (i + k)) rfl (by kernel_rfl : Program.underlying Tryd.prog 64 = some (.slice 66)) (by kernel_rfl) rfl rfl (by omega) (by omega)) ?_
              refine stepK_store 0 rfl rfl rfl rfl rfl rfl (by kernel_rfl : sizeB Tryd.prog 66 = some 1) rfl rfl hst rfl (by first | (simp [uN_length]; omega) | simp) ?_
              clear hst
              intro w7 hst
              rw [Nat.zero_add, splice_uN _ _ _ _ (by omega)] at hst
              simp only [List.set_cons_zero] at hst
              refine stepK_d rfl rfl rfl hst (does_assign rfl rfl) ?_
              refine wpK_nil ?_
              refine at_block_normal ?_
              refine cp_then ?_
              refine cp_region ?_
              refine stepK_d rfl rfl rfl hst (Does.int (does_add rfl rfl rfl) (wrap_i64 (by omega) (by omega))) ?_
              refine stepK_d rfl rfl rfl hst (does_move rfl rfl) ?_
              refine wpK_nil ?_
              have hps := prod_step hxlt hylt hold hcy2
              refine round_end ((k + 1, ((x * y / 18446744073709551616 + (x * y % 18446744073709551616 + old + 0) / 18446744073709551616) % 18446744073709551616 + ((x * y % 18446744073709551616 + old + 0) % 18446744073709551616 + cy + 0) / 18446744073709551616) % 18446744073709551616, ws2.set (i + k) (((x * y % 18446744073709551616 + old + 0) % 18446744073709551616 + cy + 0) % 18446744073709551616))) ?_ ?_ ?_
              · exact ⟨rfl, rfl, rfl, rfl, rfl, rfl, rfl, rfl, rfl, rfl, rfl, trivial⟩
              · refine ⟨_, hst, by omega, Nat.mod_lt _ (by decide), hws2.set (Nat.mod_lt _ (by decide)), by simp [hwl2], ?_⟩
                have hvs := val_set (z := ((x * y % 18446744073709551616 + old + 0) % 18446744073709551616 + cy + 0) % 18446744073709551616) hok (show i + k < i + m by omega) (by omega)
                rw [val_take_succ hy]
                generalize ((x * y % 18446744073709551616 + old + 0) % 18446744073709551616 + cy + 0) % 18446744073709551616 = z at *
                generalize ((x * y / 18446744073709551616 + (x * y % 18446744073709551616 + old + 0) / 18446744073709551616) % 18446744073709551616 + ((x * y % 18446744073709551616 + old + 0) % 18446744073709551616 + cy + 0) / 18446744073709551616) % 18446744073709551616 = q at *
                exact product_step hvs hps hv2
              · show m - (k + 1) < m - k
                omega
            · intro c38
              refine cp_exit ?_
              refine at_then_exit ?_
              refine at_then_exit ?_
              refine cp_exit_here ?_
              refine cp_then ?_
              obtain rfl : m = k := by omega
              refine cp_region ?_
              refine stepK_d rfl rfl rfl hst (does_move rfl rfl) ?_
              refine stepK_d rfl rfl rfl hst (does_move rfl rfl) ?_
              refine stepK_d rfl rfl rfl hst (does_move rfl rfl) ?_
              refine stepK_d rfl rfl rfl hst (does_len_slice rfl (by kernel_rfl : Program.underlying Tryd.prog 64 = some (.slice 66)) rfl) ?_
              refine stepK_d rfl rfl rfl hst (Does.int (does_add rfl rfl rfl) (wrap_i64 (by omega) (by omega))) ?_
              refine stepK_d rfl rfl rfl hst (does_move rfl rfl) ?_
              refine stepK_d rfl rfl rfl hst (does_indexAddr1 (j := (i + m)) rfl (by kernel_rfl : Program.underlying Tryd.prog 64 = some (.slice 66)) (by kernel_rfl) rfl rfl (by omega) (by omega)) ?_
              refine stepK_store 0 rfl rfl rfl rfl rfl rfl (by kernel_rfl : sizeB Tryd.prog 66 = some 1) rfl rfl hst rfl (by first | (simp [uN_length]; omega) | simp) ?_
              clear hst
              intro w8 hst
              rw [Nat.zero_add, splice_uN _ _ _ _ (by omega)] at hst
              simp only [List.set_cons_zero] at hst
              refine wpK_nil ?_
              refine at_block_normal ?_
              refine cp_then ?_
              refine cp_region ?_
              refine stepK_d rfl rfl rfl hst (Does.int (does_add rfl rfl rfl) (wrap_i64 (by omega) (by omega))) ?_
              refine stepK_d rfl rfl rfl hst (does_move rfl rfl) ?_
              refine wpK_nil ?_
              refine round_end ((i + 1, ws2.set (i + m) cy)) ?_ ?_ ?_
              · exact ⟨rfl, rfl, rfl, rfl, rfl, trivial⟩
              · refine ⟨_, hst, by omega, hws2.set hcy2, by simp [hwl2], ?_⟩
                rw [show i + 1 + m = i + m + 1 by omega, val_take_set (by omega), val_take_succ hx, Nat.add_mul, ← hv, ← Nat.mul_comm cy, hv2, val_all (ws := ys) (by omega), Nat.mul_comm x]
              · show n - (i + 1) < n - i
                omega
        · intro c31
          refine cp_exit ?_
          refine at_then_exit ?_
          refine at_then_exit ?_
          refine cp_exit_here ?_
          refine cp_then ?_
          refine cp_seq ?_
          refine cp_region ?_
          refine stepK_d rfl rfl rfl hst (does_move rfl rfl) ?_
          obtain ⟨hst, hle2⟩ := hst.publish 0 rfl
          obtain rfl : n = i := by omega
          refine stepK_call rfl rfl rfl rfl rfl hst (num_trim hst.agree (ws := ws) (by rw [← hwl]; exact SlN.put_uN) hws (Nat.le_refl _) (by omega)) ?_
          clear hst
          intro v9 g9 w9 hst hle9 hcs9 hp9
          obtain ⟨A9, n9, c9, rfl, hn9⟩ := hp9
          refine stepK_d rfl rfl rfl hst (does_assign rfl rfl) ?_
          refine wpK_nil ?_
          refine cp_then ?_
          refine cp_ret ?_
          refine ret1 rfl rfl hst ?_
          refine ⟨_, _, _, rfl, ?_⟩
          rw [show val xs * val ys = val ws by rw [← val_all (n := n) (ws := xs) (by omega), ← hv, val_all (ws := ws) (by omega)]]
          assumption

end Go.Proofs.YtbamjcfdlgnicaaDoor

namespace Go.Proofs.Vc
open Go
set_option linter.unusedVariables false
theorem bitLen_le64 {x : Nat} (h : x < 18446744073709551616) : bitLen x ≤ 64 := by
  have h1 := bitLen_spec x
  rcases Nat.eq_zero_or_pos x with h0 | h0
  · subst h0; simp [bitLen]
  · have h2 := h1.2 (by omega)
    have h3 : 2 ^ (bitLen x - 1) < 2 ^ 64 := Nat.lt_of_le_of_lt h2 (by simpa using h)
    have := (Nat.pow_lt_pow_iff_right (by decide : 1 < 2)).1 h3
    omega
theorem bitLen_pos {x : Nat} (h : 0 < x) : 0 < bitLen x := by
  unfold bitLen
  rw [if_neg (by omega)]
  omega
theorem norm_shift {y : Nat} (h0 : 0 < y) (hy : y < 18446744073709551616) : 9223372036854775808 ≤ y * 2 ^ (64 - bitLen y) ∧ y * 2 ^ (64 - bitLen y) < 18446744073709551616 := by
  have h1 := bitLen_spec y
  have h2 := bitLen_le64 hy
  have h3 := bitLen_pos h0
  have e1 : 2 ^ (bitLen y - 1) * 2 ^ (64 - bitLen y) = 9223372036854775808 := by
    rw [← Nat.pow_add, show bitLen y - 1 + (64 - bitLen y) = 63 by omega]
  have e2 : 2 ^ bitLen y * 2 ^ (64 - bitLen y) = 18446744073709551616 := by
    rw [← Nat.pow_add, show bitLen y + (64 - bitLen y) = 64 by omega]
  rw [← e1, ← e2]
  exact ⟨Nat.mul_le_mul_right _ (h1.2 (by omega)), Nat.mul_lt_mul_of_pos_right h1.1 (Nat.pow_pos (by decide))⟩
theorem or_shift {a b s : Nat} (hb : b < 2 ^ s) : a * 2 ^ s ||| b = a * 2 ^ s + b := by
  rw [Nat.mul_comm, ← Nat.two_pow_add_eq_or_of_lt hb]
/-- a digit of the quotient: where the guess may stop -/
theorem knuth_stop {q r u y1 y0 d : Nat} (he : q * y1 + r = u) (hq : (u * 4294967296 + d) / (y1 * 4294967296 + y0) ≤ q) (hy : 0 < y1 * 4294967296 + y0) (h : q * y0 ≤ 4294967296 * r + d) : q = (u * 4294967296 + d) / (y1 * 4294967296 + y0) := by
  refine Nat.le_antisymm ((Nat.le_div_iff_mul_le hy).2 ?_) hq
  have e1 : q * (y1 * 4294967296 + y0) = q * y1 * 4294967296 + q * y0 := by grind
  rw [e1, ← he]
  generalize q * y1 = p at *
  omega
theorem knuth_stop2 {q r u y1 y0 d : Nat} (he : q * y1 + r = u) (hq : (u * 4294967296 + d) / (y1 * 4294967296 + y0) ≤ q) (hy : 0 < y1) (h0 : y0 < 4294967296) (hu : u < y1 * 4294967296 + y0) (h : 4294967296 ≤ r) : q = (u * 4294967296 + d) / (y1 * 4294967296 + y0) := by
  refine knuth_stop he hq (by omega) ?_
  have hq2 : q < 4294967296 := by
    have h1 : q * y1 < y1 * 4294967296 := by omega
    rw [Nat.mul_comm y1] at h1
    exact Nat.lt_of_mul_lt_mul_right h1
  have h2 : q * y0 ≤ 4294967296 * 4294967296 := Nat.mul_le_mul (by omega) (by omega)
  omega
theorem knuth_down {q u y1 y0 d r : Nat} (he : q * y1 + r = u) (hd : d < 4294967296) (hu : u < y1 * 4294967296 + y0) (hq : (u * 4294967296 + d) / (y1 * 4294967296 + y0) ≤ q) (h : 4294967296 ≤ q ∨ 4294967296 * r + d < q * y0) : (u * 4294967296 + d) / (y1 * 4294967296 + y0) ≤ q - 1 ∧ 0 < q := by
  have hlt : (u * 4294967296 + d) / (y1 * 4294967296 + y0) < q := by
    rcases h with h | h
    · refine Nat.lt_of_lt_of_le ((Nat.div_lt_iff_lt_mul (by omega)).2 ?_) h
      omega
    · refine (Nat.div_lt_iff_lt_mul (by omega)).2 ?_
      have e1 : q * (y1 * 4294967296 + y0) = q * y1 * 4294967296 + q * y0 := by grind
      rw [e1, ← he]
      generalize q * y1 = p at *
      omega
  generalize (u * 4294967296 + d) / (y1 * 4294967296 + y0) = Q at *
  omega
theorem knuth_start {u y1 y0 d : Nat} (hy1 : 0 < y1) (hd : d < 4294967296) : (u * 4294967296 + d) / (y1 * 4294967296 + y0) ≤ u / y1 := by
  rw [Nat.le_div_iff_mul_le hy1]
  have h1 := Nat.div_mul_le_self (u * 4294967296 + d) (y1 * 4294967296 + y0)
  generalize (u * 4294967296 + d) / (y1 * 4294967296 + y0) = q at *
  have e1 : q * (y1 * 4294967296 + y0) = q * y1 * 4294967296 + q * y0 := by grind
  rw [e1] at h1
  generalize q * y1 = p at *
  omega
theorem rest_lin {a d p r Y : Nat} (h1 : p + r = a + d) (h2 : r < Y) (hY : Y ≤ 18446744073709551616) : ((a % 18446744073709551616 + d) % 18446744073709551616 + (18446744073709551616 - (p % 18446744073709551616) % 18446744073709551616)) % 18446744073709551616 = r := by omega
/-- what is left behind a digit -/
theorem knuth_rest {u d Y q : Nat} (hY : Y ≤ 18446744073709551616) (hp : 0 < Y) (hq : q = (u * 4294967296 + d) / Y) : ((u * 4294967296 % 18446744073709551616 + d) % 18446744073709551616 + (18446744073709551616 - (q * Y % 18446744073709551616) % 18446744073709551616)) % 18446744073709551616 = (u * 4294967296 + d) % Y := by
  have h1 := Nat.div_add_mod (u * 4294967296 + d) Y
  rw [← hq, Nat.mul_comm Y] at h1
  exact rest_lin h1 (Nat.mod_lt _ hp) hY
theorem div_two {hi lo s u t : Nat} (hs : s ≤ 64) (hu : u = hi * 2 ^ s + lo / 2 ^ (64 - s)) (ht : t = lo * 2 ^ s % 18446744073709551616) (hlo : lo < 18446744073709551616) : u * 18446744073709551616 + t = (hi * 18446744073709551616 + lo) * 2 ^ s := by
  have e : 2 ^ s * 2 ^ (64 - s) = 18446744073709551616 := by rw [← Nat.pow_add, show s + (64 - s) = 64 by omega]
  have h1 := Nat.div_add_mod lo (2 ^ (64 - s))
  have h2 : lo * 2 ^ s % 18446744073709551616 = lo % 2 ^ (64 - s) * 2 ^ s := by
    rw [← e, Nat.mul_comm (2 ^ s) (2 ^ (64 - s)), Nat.mul_mod_mul_right]
  rw [hu, ht, h2]
  generalize lo / 2 ^ (64 - s) = a at *
  generalize lo % 2 ^ (64 - s) = b at *
  rw [← h1]
  generalize 2 ^ (64 - s) = p at *
  generalize 2 ^ s = m at *
  rw [← e]
  grind
theorem two_digits_lin {u th tl Y q1 q0 r1 r2 : Nat} (e1 : Y * q1 + r1 = u * 4294967296 + th) (e2 : Y * q0 + r2 = r1 * 4294967296 + tl) : u * 18446744073709551616 + (th * 4294967296 + tl) = Y * (q1 * 4294967296 + q0) + r2 := by
  have : Y * (q1 * 4294967296 + q0) = Y * q1 * 4294967296 + Y * q0 := by grind
  rw [this]
  generalize Y * q1 = a at *
  generalize Y * q0 = b at *
  omega
theorem div_two_digits {u t Y q1 q0 : Nat} (hY : 0 < Y) (h1 : q1 = (u * 4294967296 + t / 4294967296) / Y) (h0 : q0 = ((u * 4294967296 + t / 4294967296) % Y * 4294967296 + t % 4294967296) / Y) :
    q1 * 4294967296 + q0 = (u * 18446744073709551616 + t) / Y ∧ ((u * 4294967296 + t / 4294967296) % Y * 4294967296 + t % 4294967296) % Y = (u * 18446744073709551616 + t) % Y := by
  have e1 := Nat.div_add_mod (u * 4294967296 + t / 4294967296) Y
  rw [← h1] at e1
  have e2 := Nat.div_add_mod ((u * 4294967296 + t / 4294967296) % Y * 4294967296 + t % 4294967296) Y
  rw [← h0] at e2
  have l2 : ((u * 4294967296 + t / 4294967296) % Y * 4294967296 + t % 4294967296) % Y < Y := Nat.mod_lt _ hY
  have e3 := two_digits_lin e1 e2
  rw [Nat.div_add_mod'] at e3
  rw [e3]
  refine ⟨?_, ?_⟩
  · rw [Nat.mul_add_div hY, Nat.div_eq_of_lt l2, Nat.add_zero]
  · rw [Nat.mul_add_mod, Nat.mod_eq_of_lt l2]
end Go.Proofs.Vc
namespace Go.Proofs.Vc
open Go
theorem knuth_keep {q y1 r u : Nat} (he : q * y1 + r = u) (hq : 0 < q) : (q - 1) * y1 + (r + y1) = u := by
  obtain ⟨p, rfl⟩ : ∃ p, q = p + 1 := ⟨q - 1, by omega⟩
  rw [← he, Nat.add_sub_cancel, Nat.add_mul]
  omega
theorem div_left {u y1 : Nat} (hu : u < 18446744073709551616) : (u + (18446744073709551616 - (u / y1 * y1 % 18446744073709551616) % 18446744073709551616)) % 18446744073709551616 = u % y1 := by
  have h1 := Nat.div_add_mod' u y1
  have h2 := Nat.div_mul_le_self u y1
  generalize u / y1 * y1 = p at *
  generalize u % y1 = r at *
  omega
theorem div_norm {hi lo y s Y u : Nat} (hhi : hi < y) (hlo : lo < 18446744073709551616) (hs : s ≤ 64) (hY : Y = y * 2 ^ s) (hu : u = hi * 2 ^ s + lo / 2 ^ (64 - s)) (hYl : Y < 18446744073709551616) : hi * 2 ^ s < 18446744073709551616 ∧ lo / 2 ^ (64 - s) < 2 ^ s ∧ u < Y := by
  have e : 2 ^ s * 2 ^ (64 - s) = 18446744073709551616 := by rw [← Nat.pow_add, show s + (64 - s) = 64 by omega]
  have h1 : lo / 2 ^ (64 - s) < 2 ^ s := (Nat.div_lt_iff_lt_mul (Nat.pow_pos (by decide))).2 (by rw [e]; exact hlo)
  have h2 : hi * 2 ^ s + 2 ^ s ≤ y * 2 ^ s := by
    rw [← Nat.succ_mul]
    exact Nat.mul_le_mul_right _ hhi
  have h3 : 0 < 2 ^ s := Nat.pow_pos (by decide)
  rw [hY] at hYl
  rw [hu, hY]
  generalize lo / 2 ^ (64 - s) = a at *
  generalize y * 2 ^ s = b at *
  generalize hi * 2 ^ s = c at *
  generalize 2 ^ s = p at *
  omega
theorem bitLen_aux : ∀ (f x : Nat), x < 2 ^ f → Lib.bitLenAux f x = bitLen x
  | 0, x, h => by
    have : x = 0 := by simpa using h
    subst this
    rfl
  | f + 1, x, h => by
    unfold Lib.bitLenAux
    by_cases h0 : x = 0
    · subst h0; rfl
    · rw [if_neg h0, bitLen_aux f (x / 2) (by rw [Nat.pow_succ] at h; omega)]
      unfold bitLen
      rw [if_neg h0]
      by_cases h1 : x / 2 = 0
      · have : x = 1 := by omega
        subst this
        rfl
      · rw [if_neg h1, Nat.log2_def x, if_pos (by omega)]
        omega
theorem bitLen_lib {x : Nat} (h : x < 18446744073709551616) : Lib.bitLen x = bitLen x := bitLen_aux 64 x (by simpa using h)
end Go.Proofs.Vc

namespace Go.Proofs.Vc
open Go
set_option linter.unusedVariables false
theorem byWord_step {X Q x rest d q r : Nat} (hX : X = Q * x + rest) (hq : q = (rest * 18446744073709551616 + d) / x) (hr : r = (rest * 18446744073709551616 + d) % x) : d + 18446744073709551616 * X = (q + 18446744073709551616 * Q) * x + r := by
  have h1 := Nat.div_add_mod' (rest * 18446744073709551616 + d) x
  rw [← hq, ← hr] at h1
  rw [hX]
  have : (q + 18446744073709551616 * Q) * x = q * x + 18446744073709551616 * (Q * x) := by grind
  rw [this]
  generalize Q * x = a at *
  generalize q * x = b at *
  omega
theorem byWord_lt {rest d x : Nat} (hr : rest < x) (hd : d < 18446744073709551616) : (rest * 18446744073709551616 + d) / x < 18446744073709551616 := by
  refine (Nat.div_lt_iff_lt_mul (by omega)).2 ?_
  have : (rest + 1) * 18446744073709551616 ≤ 18446744073709551616 * x := by rw [Nat.mul_comm]; exact Nat.mul_le_mul_left _ hr
  omega
theorem div_mod_of {X Q x r : Nat} (h : X = Q * x + r) (hr : r < x) : X / x = Q ∧ X % x = r := by
  subst h
  refine ⟨?_, ?_⟩
  · rw [Nat.mul_comm, Nat.mul_add_div (by omega), Nat.div_eq_of_lt hr, Nat.add_zero]
  · rw [Nat.mul_comm, Nat.mul_add_mod, Nat.mod_eq_of_lt hr]
theorem drop_set_ge {ws : List Nat} {j z : Nat} (h : j < ws.length) : (ws.set j z).drop j = z :: ws.drop (j + 1) := by
  rw [drop_cons_get (x := z) (by rw [List.getElem?_set_self h])]
  congr 1
  apply List.ext_getElem?
  intro i
  rw [List.getElem?_drop, List.getElem?_drop, List.getElem?_set_ne (by omega)]

theorem rep_get {n j : Nat} (h : j < n) : (List.replicate n 0)[j]? = some 0 := by simp [h]
/-! shifting to the left -/
theorem pow64 (s : Nat) (hs : s ≤ 64) : 2 ^ s * 2 ^ (64 - s) = 18446744073709551616 := by rw [← Nat.pow_add, show s + (64 - s) = 64 by omega]
theorem shl_hi {x s : Nat} (hs : s ≤ 64) : x * 2 ^ s / 18446744073709551616 = x / 2 ^ (64 - s) := by
  rw [← pow64 s hs, Nat.mul_comm (2 ^ s) (2 ^ (64 - s)), Nat.mul_div_mul_right _ _ (Nat.pow_pos (by decide))]
theorem shl_lo {x s : Nat} (hs : s ≤ 64) : x * 2 ^ s % 18446744073709551616 = x % 2 ^ (64 - s) * 2 ^ s := by
  rw [← pow64 s hs, Nat.mul_comm (2 ^ s) (2 ^ (64 - s)), Nat.mul_mod_mul_right]
theorem or_low {c a s : Nat} (hc : c < 2 ^ s) : c ||| a * 2 ^ s = c + a * 2 ^ s := by
  rw [Nat.or_comm, or_shift hc, Nat.add_comm]
theorem left_step {A X x c s p W P0 : Nat} (hs : s ≤ 64) (h : A + c * p = X * 2 ^ s * W) (hp : p = P0 * W) : A + p * (c + x * 2 ^ s % 18446744073709551616) + x / 2 ^ (64 - s) * (p * 18446744073709551616) = (X + P0 * x) * 2 ^ s * W := by
  have h1 := Nat.div_add_mod (x * 2 ^ s) 18446744073709551616
  rw [shl_hi hs] at h1
  have h2 : (X + P0 * x) * 2 ^ s * W = X * 2 ^ s * W + p * (x * 2 ^ s) := by rw [hp]; grind
  rw [h2, ← h]
  generalize x * 2 ^ s % 18446744073709551616 = l at *
  generalize x / 2 ^ (64 - s) = hgh at *
  rw [← h1]
  grind
/-! shifting to the right -/
theorem right_word {x y R s : Nat} (hs : s < 64) (hx : x < 18446744073709551616) : (x + 18446744073709551616 * (y + 18446744073709551616 * R)) / 2 ^ s % 18446744073709551616 = x / 2 ^ s + y * 2 ^ (64 - s) % 18446744073709551616 := by
  have e := pow64 s (by omega)
  have hp : 0 < 2 ^ s := Nat.pow_pos (by decide)
  have h1 : (x + 18446744073709551616 * (y + 18446744073709551616 * R)) / 2 ^ s = x / 2 ^ s + 2 ^ (64 - s) * (y + 18446744073709551616 * R) := by
    have : 18446744073709551616 * (y + 18446744073709551616 * R) = 2 ^ s * (2 ^ (64 - s) * (y + 18446744073709551616 * R)) := by rw [← Nat.mul_assoc, e]
    rw [this, Nat.add_mul_div_left _ _ hp]
  rw [h1]
  have h2 : x / 2 ^ s < 2 ^ (64 - s) := (Nat.div_lt_iff_lt_mul hp).2 (by rw [Nat.mul_comm, e]; exact hx)
  have h3 : (x / 2 ^ s + 2 ^ (64 - s) * (y + 18446744073709551616 * R)) % 18446744073709551616 = (x / 2 ^ s + y * 2 ^ (64 - s)) % 18446744073709551616 := by
    have : x / 2 ^ s + 2 ^ (64 - s) * (y + 18446744073709551616 * R) = (x / 2 ^ s + y * 2 ^ (64 - s)) + 18446744073709551616 * (2 ^ (64 - s) * R) := by grind
    rw [this, Nat.add_mul_mod_self_left]
  rw [h3]
  have h4 : y * 2 ^ (64 - s) % 18446744073709551616 = y % 2 ^ s * 2 ^ (64 - s) := by rw [← e, Nat.mul_mod_mul_right]
  have h5 : y % 2 ^ s * 2 ^ (64 - s) + 2 ^ (64 - s) ≤ 18446744073709551616 := by
    rw [← Nat.succ_mul, ← e]
    exact Nat.mul_le_mul_right _ (Nat.mod_lt _ hp)
  rw [Nat.add_mod, h4, Nat.mod_eq_of_lt (show x / 2 ^ s < 18446744073709551616 by omega), Nat.mod_eq_of_lt (by omega)]
theorem mod_pow_step {Y i : Nat} : Y % 18446744073709551616 ^ (i + 1) = Y % 18446744073709551616 ^ i + 18446744073709551616 ^ i * (Y / 18446744073709551616 ^ i % 18446744073709551616) := by
  rw [Nat.pow_succ, Nat.mod_mul]
theorem val_div_pow {xs : List Nat} (h : Words xs) {i : Nat} (hi : i ≤ xs.length) : val xs / 18446744073709551616 ^ i = val (xs.drop i) := by
  rw [val_split xs i hi]
  have h1 := val_lt (h.take i)
  rw [List.length_take, Nat.min_eq_left hi] at h1
  rw [Nat.add_mul_div_left _ _ (Nat.pow_pos (by decide)), Nat.div_eq_of_lt h1, Nat.zero_add]
theorem val_drop_get {xs : List Nat} {i x : Nat} (h : xs[i]? = some x) : val (xs.drop i) = x + 18446744073709551616 * val (xs.drop (i + 1)) := by
  rw [drop_cons_get h]
  rfl
end Go.Proofs.Vc

namespace Go.Proofs.YtbamjcfdlgnicaaDoor
open Go Go.RowKit Go.Proofs.Vc
set_option linter.unusedVariables false
set_option linter.unusedSimpArgs false


theorem bits_Len64 {g : Mem} {w : World} (hag : Agree g w) {x : Nat} (hx : x < 18446744073709551616) :
    CallTo Tryd.prog 92 #[.int .u64 (x : Int)] w (Ret w g fun v g' => v = .int .i64 ((bitLen x : Nat) : Int)) :=
  .inl ⟨enters (by kernel_rfl : Tryd.prog.funcs[92]? = some Tryd.f92) (by kernel_rfl) rfl _ _, (K_bits_Len64 (x : Int) w (by omega) (by omega)).mono fun e w' ⟨he, hw⟩ => ⟨_, g, he, by rw [hw]; exact St.init hag, by rw [Int.toNat_natCast, bitLen_lib hx]⟩⟩

set_option maxHeartbeats 1000000 in
theorem bits_LeadingZeros64 {g : Mem} {w : World} (hag : Agree g w) {x : Nat} (hx : x < 18446744073709551616) :
    CallTo Tryd.prog 76 #[.int .u64 (x : Int)] w (Ret w g fun v g => v = .int .i64 ((64 - bitLen x : Nat) : Int)) := by
  refine CallTo.enter (vs := [.int .u64 (x : Int)]) (by kernel_rfl : Tryd.prog.funcs[76]? = some Tryd.f76) (by kernel_rfl) rfl rfl rfl ?_
  have hst := St.init hag
  have hb := bitLen_le64 hx
  refine cp_seq ?_
  refine cp_region ?_
  refine stepK_d rfl rfl rfl hst (does_assign rfl rfl) ?_
  refine wpK_nil ?_
  refine cp_then ?_
  refine cp_seq ?_
  refine cp_region ?_
  refine stepK_d rfl rfl rfl hst (does_move rfl rfl) ?_
  refine stepK_call rfl rfl rfl rfl rfl hst (bits_Len64 hst.agree (by first | assumption | rfl | omega | (simp; done))) ?_
  clear hst
  intro v1 g1 w1 hst hle1 hcs1 hp1
  obtain rfl := hp1
  refine stepK_d rfl rfl rfl hst (Does.int (does_sub rfl rfl rfl) (wrap_i64 (by omega) (by omega))) ?_
  refine stepK_d rfl rfl rfl hst (does_assign rfl rfl) ?_
  refine wpK_nil ?_
  refine cp_then ?_
  refine cp_ret ?_
  refine ret1 rfl rfl hst ?_
  rw [Int.natCast_sub hb]
  rfl

end Go.Proofs.YtbamjcfdlgnicaaDoor

namespace Go.Proofs.YtbamjcfdlgnicaaDoor
open Go Go.RowKit Go.Proofs.Vc
set_option linter.unusedVariables false
set_option linter.unusedSimpArgs false

set_option maxHeartbeats 4000000 in
set_option maxRecDepth 20000 in
theorem bits_Div64 {g : Mem} {w : World} (hag : Agree g w) {hi lo y : Nat} (hhi : hi < y) (hlo : lo < 18446744073709551616) (hy : y < 18446744073709551616) (h0 : 0 < y) :
    CallTo Tryd.prog 87 #[.int .u64 (hi : Int), .int .u64 (lo : Int), .int .u64 (y : Int)] w (Ret w g fun v g => v = .tuple #[.int .u64 (((hi * 18446744073709551616 + lo) / y : Nat) : Int), .int .u64 (((hi * 18446744073709551616 + lo) % y : Nat) : Int)]) := by
  refine CallTo.enter (vs := [.int .u64 (hi : Int), .int .u64 (lo : Int), .int .u64 (y : Int)]) (by kernel_rfl : Tryd.prog.funcs[87]? = some Tryd.f87) (by kernel_rfl) rfl rfl rfl ?_
  have hst := St.init hag
  refine cp_seq ?_
  refine cp_region ?_
  refine stepK_d rfl rfl rfl hst (does_assign rfl rfl) ?_
  refine stepK_d rfl rfl rfl hst (does_assign rfl rfl) ?_
  refine wpK_nil ?_
  refine cp_then ?_
  refine cp_seq ?_
  refine cp_seq ?_
  refine cp_region ?_
  refine stepK_d rfl rfl rfl hst (does_move rfl rfl) ?_
  refine stepK_d rfl rfl rfl hst (does_eql_n (b := 0) rfl rfl rfl) ?_
  refine wpK_nil ?_
  refine cp_then ?_
  refine cp_if rfl ?_ ?_
  · intro c20
    omega
  · intro c20
    refine cp_skip ?_
    refine cp_then ?_
    refine cp_seq ?_
    refine cp_seq ?_
    refine cp_region ?_
    refine stepK_d rfl rfl rfl hst (does_move rfl rfl) ?_
    refine stepK_d rfl rfl rfl hst (does_move rfl rfl) ?_
    refine stepK_d rfl rfl rfl hst (does_leq_n rfl rfl rfl) ?_
    refine wpK_nil ?_
    refine cp_then ?_
    refine cp_if rfl ?_ ?_
    · intro c24
      omega
    · intro c24
      refine cp_skip ?_
      refine cp_then ?_
      refine cp_seq ?_
      refine cp_seq ?_
      refine cp_region ?_
      refine stepK_d rfl rfl rfl hst (does_move rfl rfl) ?_
      refine stepK_d rfl rfl rfl hst (does_eql_n (b := 0) rfl rfl rfl) ?_
      refine wpK_nil ?_
      refine cp_then ?_
      refine cp_if rfl ?_ ?_
      · intro c27
        refine cp_seq ?_
        refine cp_drawn (by kernel_rfl) 8 [(0, true), (1, true), (2, true), (3, true), (4, true), (5, true), (6, true), (7, true)] _ rfl (by kernel_rfl) (by kernel_rfl) (by kernel_rfl) (fun _ _ _ _ _ h => h) _ (hst.drew) ?_
        have hst0 := hst.drew
        clear hst
        have hst := hst0
        refine stepD_d rfl rfl rfl rfl (does_move rfl rfl) ?_
        refine stepD_d rfl rfl rfl rfl (does_move rfl rfl) ?_
        refine stepD_d rfl rfl rfl rfl (does_quo_u64 rfl rfl rfl (by omega) (by omega)) ?_
        refine stepD_d rfl rfl rfl rfl (does_move rfl rfl) ?_
        refine stepD_d rfl rfl rfl rfl (does_move rfl rfl) ?_
        refine stepD_d rfl rfl rfl rfl (does_rem_n rfl rfl rfl (by omega)) ?_
        refine stepD_d rfl rfl rfl rfl (does_assign rfl rfl) ?_
        refine stepD_d rfl rfl rfl rfl (does_assign rfl rfl) ?_
        refine stepD_tail ?_
        refine wpK_nil ?_
        refine cp_then ?_
        refine cp_ret ?_
        refine at_then_ret ?_
        refine ret2 rfl rfl rfl hst ?_
        rw [show hi = 0 by omega, Nat.zero_mul, Nat.zero_add]
      · intro c27
        refine cp_skip ?_
        refine cp_then ?_
        refine cp_seq ?_
        refine cp_region ?_
        refine stepK_d rfl rfl rfl hst (does_move rfl rfl) ?_
        refine stepK_call rfl rfl rfl rfl rfl hst (bits_LeadingZeros64 hst.agree (by first | assumption | rfl | omega | (simp; done))) ?_
        clear hst
        intro v1 g1 w1 hst hle1 hcs1 hp1
        obtain rfl := hp1
        obtain ⟨s, hs⟩ : ∃ s, s = 64 - bitLen y := ⟨_, rfl⟩
        have hs64 : s ≤ 64 := by omega
        obtain ⟨hn1, hn2⟩ := norm_shift h0 hy
        rw [← hs] at hn1 hn2 ⊢
        obtain ⟨Y, hY⟩ : ∃ Y, Y = y * 2 ^ s := ⟨_, rfl⟩
        rw [← hY] at hn1 hn2
        obtain ⟨u, hu⟩ : ∃ u, u = hi * 2 ^ s + lo / 2 ^ (64 - s) := ⟨_, rfl⟩
        obtain ⟨t, ht⟩ : ∃ t, t = lo * 2 ^ s % 18446744073709551616 := ⟨_, rfl⟩
        have htl : t < 18446744073709551616 := by rw [ht]; exact Nat.mod_lt _ (by decide)
        obtain ⟨y1, hy1⟩ : ∃ y1, y1 = Y / 4294967296 := ⟨_, rfl⟩
        obtain ⟨y0, hy0⟩ : ∃ y0, y0 = Y % 4294967296 := ⟨_, rfl⟩
        obtain ⟨d1, hd1⟩ : ∃ d1, d1 = t / 4294967296 := ⟨_, rfl⟩
        obtain ⟨d0, hd0⟩ : ∃ d0, d0 = t % 4294967296 := ⟨_, rfl⟩
        have hYe : Y = y1 * 4294967296 + y0 := by omega
        have hy1l : y1 < 4294967296 := by omega
        have hy1g : 2147483648 ≤ y1 := by omega
        obtain ⟨hu1, hu2⟩ := div_norm (lo := lo) hhi hlo hs64 hY hu hn2
        have huY : u < y1 * 4294967296 + y0 := by omega
        refine stepK_d rfl rfl rfl hst (Does.nat (b := s) (does_conv_n_u64 rfl (by kernel_rfl) (by kernel_rfl) rfl) (by rw [Nat.mod_eq_of_lt (by omega)])) ?_
        refine stepK_d rfl rfl rfl hst (does_assign rfl rfl) ?_
        refine wpK_nil ?_
        refine cp_then ?_
        refine cp_seq ?_
        refine cp_region ?_
        refine stepK_d rfl rfl rfl hst (does_move rfl rfl) ?_
        refine stepK_d rfl rfl rfl hst (does_move rfl rfl) ?_
        refine stepK_d rfl rfl rfl hst (Does.nat (b := Y) (does_shl_u64 rfl rfl rfl) (by rw [Nat.min_eq_left hs64, ← hY, Nat.mod_eq_of_lt hn2])) ?_
        refine stepK_d rfl rfl rfl hst (does_assign rfl rfl) ?_
        refine wpK_nil ?_
        refine cp_then ?_
        refine cp_seq ?_
        refine cp_region ?_
        refine stepK_d rfl rfl rfl hst (does_move rfl rfl) ?_
        refine stepK_d rfl rfl rfl hst (Does.nat (b := y1) (does_shr_u64c (c := 32) (pw := 4294967296) rfl rfl rfl (by decide)) (by rw [hy1])) ?_
        refine stepK_d rfl rfl rfl hst (does_assign rfl rfl) ?_
        refine wpK_nil ?_
        refine cp_then ?_
        refine cp_seq ?_
        refine cp_region ?_
        refine stepK_d rfl rfl rfl hst (does_move rfl rfl) ?_
        refine stepK_d rfl rfl rfl hst (Does.nat (b := y0) (does_and_mask32 rfl rfl rfl hn2) (by rw [hy0])) ?_
        refine stepK_d rfl rfl rfl hst (does_assign rfl rfl) ?_
        refine wpK_nil ?_
        refine cp_then ?_
        refine cp_seq ?_
        refine cp_region ?_
        refine stepK_d rfl rfl rfl hst (does_move rfl rfl) ?_
        refine stepK_d rfl rfl rfl hst (does_move rfl rfl) ?_
        refine stepK_d rfl rfl rfl hst (Does.nat (b := hi * 2 ^ s) (does_shl_u64 rfl rfl rfl) (by rw [Nat.min_eq_left hs64, Nat.mod_eq_of_lt hu1])) ?_
        refine stepK_d rfl rfl rfl hst (does_move rfl rfl) ?_
        refine stepK_d rfl rfl rfl hst (does_move rfl rfl) ?_
        refine stepK_d rfl rfl rfl hst (Does.nat (b := 64 - s) (does_sub_u64 (a := 64) rfl rfl rfl) (by omega)) ?_
        refine stepK_d rfl rfl rfl hst (Does.nat (b := lo / 2 ^ (64 - s)) (does_shr_u64 rfl rfl rfl) (by rw [Nat.min_eq_left (by omega)])) ?_
        refine stepK_d rfl rfl rfl hst (Does.nat (b := u) (does_or_u64 rfl rfl rfl hu1 (Nat.lt_of_le_of_lt (Nat.div_le_self _ _) hlo)) (by rw [or_shift hu2.1, hu])) ?_
        refine stepK_d rfl rfl rfl hst (does_assign rfl rfl) ?_
        refine wpK_nil ?_
        refine cp_then ?_
        refine cp_seq ?_
        refine cp_region ?_
        refine stepK_d rfl rfl rfl hst (does_move rfl rfl) ?_
        refine stepK_d rfl rfl rfl hst (does_move rfl rfl) ?_
        refine stepK_d rfl rfl rfl hst (Does.nat (b := t) (does_shl_u64 rfl rfl rfl) (by rw [Nat.min_eq_left hs64, ht])) ?_
        refine stepK_d rfl rfl rfl hst (does_assign rfl rfl) ?_
        refine wpK_nil ?_
        refine cp_then ?_
        refine cp_seq ?_
        refine cp_region ?_
        refine stepK_d rfl rfl rfl hst (does_move rfl rfl) ?_
        refine stepK_d rfl rfl rfl hst (Does.nat (b := d1) (does_shr_u64c (c := 32) (pw := 4294967296) rfl rfl rfl (by decide)) (by rw [hd1])) ?_
        refine stepK_d rfl rfl rfl hst (does_assign rfl rfl) ?_
        refine wpK_nil ?_
        refine cp_then ?_
        refine cp_seq ?_
        refine cp_region ?_
        refine stepK_d rfl rfl rfl hst (does_move rfl rfl) ?_
        refine stepK_d rfl rfl rfl hst (Does.nat (b := d0) (does_and_mask32 rfl rfl rfl htl) (by rw [hd0])) ?_
        refine stepK_d rfl rfl rfl hst (does_assign rfl rfl) ?_
        refine wpK_nil ?_
        refine cp_then ?_
        refine cp_seq ?_
        refine cp_region ?_
        refine stepK_d rfl rfl rfl hst (does_move rfl rfl) ?_
        refine stepK_d rfl rfl rfl hst (does_move rfl rfl) ?_
        refine stepK_d rfl rfl rfl hst (does_quo_u64 rfl rfl rfl (by omega) (by omega)) ?_
        refine stepK_d rfl rfl rfl hst (does_assign rfl rfl) ?_
        refine wpK_nil ?_
        refine cp_then ?_
        refine cp_seq ?_
        refine cp_region ?_
        refine stepK_d rfl rfl rfl hst (does_move rfl rfl) ?_
        refine stepK_d rfl rfl rfl hst (does_move rfl rfl) ?_
        refine stepK_d rfl rfl rfl hst (does_move rfl rfl) ?_
        refine stepK_d rfl rfl rfl hst (does_mul_u64 rfl rfl rfl) ?_
        refine stepK_d rfl rfl rfl hst (Does.nat (b := u % y1) (does_sub_u64 rfl rfl rfl) (by rw [div_left (show u < 18446744073709551616 by omega)])) ?_
        refine stepK_d rfl rfl rfl hst (does_assign rfl rfl) ?_
        refine wpK_nil ?_
        refine cp_then ?_
        refine cp_join (ι := Unit) (fun _ => [(2, .int .u64 (Y : Int)), (8, .int .u64 (s : Int)), (9, .int .u64 (y1 : Int)), (10, .int .u64 (y0 : Int)), (13, .int .u64 (d1 : Int)), (14, .int .u64 (d0 : Int)), (11, .int .u64 (u : Int)), (15, .int .u64 (((u * 4294967296 + d1) / Y : Nat) : Int))]) (fun _ w1 => ∃ g2, St w [] g g2 [] w1) ?c2 ?d2
        case c2 =>
          refine cp_block ?_
          refine cp_loop (ι := Nat × Nat) (fun (q, r) => [(2, .int .u64 (Y : Int)), (8, .int .u64 (s : Int)), (9, .int .u64 (y1 : Int)), (10, .int .u64 (y0 : Int)), (13, .int .u64 (d1 : Int)), (14, .int .u64 (d0 : Int)), (11, .int .u64 (u : Int)), (15, .int .u64 (q : Int)), (16, .int .u64 (r : Int))]) (fun (q, r) w1 => ∃ g1, St w [] g g1 [] w1 ∧ q * y1 + r = u ∧ r < 4294967296 ∧ (u * 4294967296 + d1) / (y1 * 4294967296 + y0) ≤ q ∧ q < 18446744073709551616) (fun (q, r) => q) (u / y1, u % y1) ?k3 ?i3 ?r3
          case k3 => exact ⟨rfl, rfl, rfl, rfl, rfl, rfl, rfl, rfl, rfl, trivial⟩
          case i3 =>
            exact ⟨_, hst, by rw [Nat.mul_comm]; exact Nat.div_add_mod _ _, Nat.lt_trans (Nat.mod_lt _ (by omega)) hy1l, knuth_start (by omega) (by omega), Nat.lt_of_le_of_lt (Nat.div_le_self _ _) (by omega)⟩
          case r3 =>
            clear hst
            rintro ⟨q, r⟩ w1 ⟨g1, hst, he, hr, hQ, hq⟩
            refine cp_seq ?_
            refine cp_seq ?_
            refine cp_region ?_
            refine stepK_d rfl rfl rfl hst (does_move rfl rfl) ?_
            refine stepK_d rfl rfl rfl hst (does_geq_n (b := 4294967296) rfl rfl rfl) ?_
            refine stepK_d rfl rfl rfl hst (does_move rfl rfl) ?_
            refine wpK_split (t := 69) rfl ?_ ?_
            · intro s69
              have hdn := knuth_down he (by omega) huY hQ (.inl s69)
              refine stepK_pass rfl rfl rfl rfl rfl rfl rfl ?_
              refine stepK_pass rfl rfl rfl rfl rfl rfl rfl ?_
              refine stepK_pass rfl rfl rfl rfl rfl rfl rfl ?_
              refine stepK_pass rfl rfl rfl rfl rfl rfl rfl ?_
              refine stepK_pass rfl rfl rfl rfl rfl rfl rfl ?_
              refine stepK_pass rfl rfl rfl rfl rfl rfl rfl ?_
              refine stepK_pass rfl rfl rfl rfl rfl rfl rfl ?_
              refine stepK_pass rfl rfl rfl rfl rfl rfl rfl ?_
              refine stepK_d rfl rfl rfl hst (does_pick_true rfl rfl rfl) ?_
              refine wpK_nil ?_
              refine cp_then ?_
              refine cp_cond_true rfl ?_
              refine cp_skip ?_
              refine cp_then ?_
              refine cp_block ?_
              refine cp_seq ?_
              refine cp_region ?_
              refine stepK_d rfl rfl rfl hst (does_move rfl rfl) ?_
              refine stepK_d rfl rfl rfl hst (Does.nat (b := q - 1) (does_sub_u64 (b := 1) rfl rfl rfl) (by have := hdn.2; omega)) ?_
              refine stepK_d rfl rfl rfl hst (does_assign rfl rfl) ?_
              refine wpK_nil ?_
              refine cp_then ?_
              refine cp_seq ?_
              refine cp_region ?_
              refine stepK_d rfl rfl rfl hst (does_move rfl rfl) ?_
              refine stepK_d rfl rfl rfl hst (does_move rfl rfl) ?_
              refine stepK_d rfl rfl rfl hst (Does.nat (b := r + y1) (does_add_u64 rfl rfl rfl) (by rw [Nat.mod_eq_of_lt (by omega)])) ?_
              refine stepK_d rfl rfl rfl hst (does_assign rfl rfl) ?_
              refine wpK_nil ?_
              refine cp_then ?_
              refine cp_seq ?_
              refine cp_region ?_
              refine stepK_d rfl rfl rfl hst (does_move rfl rfl) ?_
              refine stepK_d rfl rfl rfl hst (does_geq_n (b := 4294967296) rfl rfl rfl) ?_
              refine wpK_nil ?_
              refine cp_then ?_
              refine cp_if rfl ?_ ?_
              · intro c85
                refine cp_exit ?_
                refine cp_exit_on (by decide) ?_
                refine at_then_exit ?_
                refine cp_exit_here ?_
                have hq1 := knuth_stop2 (knuth_keep he hdn.2) hdn.1 (by omega) (by omega) huY (by omega)
                refine join_end (()) ?_ ?_
                · exact ⟨rfl, rfl, rfl, rfl, rfl, rfl, rfl, kint (by rw [hq1, ← hYe]), trivial⟩
                · exact ⟨_, hst⟩
              · intro c85
                refine cp_skip ?_
                refine at_block_normal ?_
                refine round_end ((q - 1, r + y1)) ?_ ?_ ?_
                · exact ⟨rfl, rfl, rfl, rfl, rfl, rfl, rfl, kint (by omega), kint (by omega), trivial⟩
                · refine ⟨_, hst, ?_, by omega, hdn.1, by omega⟩
                  exact knuth_keep he hdn.2
                · show q - 1 < q
                  omega
            · intro s69
              refine stepK_guard rfl rfl rfl rfl rfl rfl hst (does_move rfl rfl) ?_
              refine stepK_guard rfl rfl rfl rfl rfl rfl hst (does_move rfl rfl) ?_
              refine stepK_guard rfl rfl rfl rfl rfl rfl hst (Does.nat (b := q * y0) (does_mul_u64 rfl rfl rfl) (by rw [Nat.mod_eq_of_lt (Nat.lt_of_le_of_lt (Nat.mul_le_mul (show q ≤ 4294967295 by omega) (show y0 ≤ 4294967295 by omega)) (by decide))])) ?_
              refine stepK_guard rfl rfl rfl rfl rfl rfl hst (does_move rfl rfl) ?_
              refine stepK_guard rfl rfl rfl rfl rfl rfl hst (Does.nat (b := 4294967296 * r) (does_mul_u64 (a := 4294967296) rfl rfl rfl) (by rw [Nat.mod_eq_of_lt (by omega)])) ?_
              refine stepK_guard rfl rfl rfl rfl rfl rfl hst (does_move rfl rfl) ?_
              refine stepK_guard rfl rfl rfl rfl rfl rfl hst (Does.nat (b := 4294967296 * r + d1) (does_add_u64 rfl rfl rfl) (by rw [Nat.mod_eq_of_lt (by omega)])) ?_
              refine stepK_guard rfl rfl rfl rfl rfl rfl hst (does_gtr_n rfl rfl rfl) ?_
              refine stepK_d rfl rfl rfl hst (does_pick_false rfl rfl rfl) ?_
              refine wpK_nil ?_
              refine cp_then ?_
              refine cp_if rfl ?_ ?_
              · intro c78
                have hdn := knuth_down he (by omega) huY hQ (.inr c78)
                refine cp_skip ?_
                refine cp_then ?_
                refine cp_block ?_
                refine cp_seq ?_
                refine cp_region ?_
                refine stepK_d rfl rfl rfl hst (does_move rfl rfl) ?_
                refine stepK_d rfl rfl rfl hst (Does.nat (b := q - 1) (does_sub_u64 (b := 1) rfl rfl rfl) (by have := hdn.2; omega)) ?_
                refine stepK_d rfl rfl rfl hst (does_assign rfl rfl) ?_
                refine wpK_nil ?_
                refine cp_then ?_
                refine cp_seq ?_
                refine cp_region ?_
                refine stepK_d rfl rfl rfl hst (does_move rfl rfl) ?_
                refine stepK_d rfl rfl rfl hst (does_move rfl rfl) ?_
                refine stepK_d rfl rfl rfl hst (Does.nat (b := r + y1) (does_add_u64 rfl rfl rfl) (by rw [Nat.mod_eq_of_lt (by omega)])) ?_
                refine stepK_d rfl rfl rfl hst (does_assign rfl rfl) ?_
                refine wpK_nil ?_
                refine cp_then ?_
                refine cp_seq ?_
                refine cp_region ?_
                refine stepK_d rfl rfl rfl hst (does_move rfl rfl) ?_
                refine stepK_d rfl rfl rfl hst (does_geq_n (b := 4294967296) rfl rfl rfl) ?_
                refine wpK_nil ?_
                refine cp_then ?_
                refine cp_if rfl ?_ ?_
                · intro c85
                  refine cp_exit ?_
                  refine cp_exit_on (by decide) ?_
                  refine at_then_exit ?_
                  refine cp_exit_here ?_
                  have hq1 := knuth_stop2 (knuth_keep he hdn.2) hdn.1 (by omega) (by omega) huY (by omega)
                  refine join_end (()) ?_ ?_
                  · exact ⟨rfl, rfl, rfl, rfl, rfl, rfl, rfl, kint (by rw [hq1, ← hYe]), trivial⟩
                  · exact ⟨_, hst⟩
                · intro c85
                  refine cp_skip ?_
                  refine at_block_normal ?_
                  refine round_end ((q - 1, r + y1)) ?_ ?_ ?_
                  · exact ⟨rfl, rfl, rfl, rfl, rfl, rfl, rfl, kint (by omega), kint (by omega), trivial⟩
                  · refine ⟨_, hst, ?_, by omega, hdn.1, by omega⟩
                    exact knuth_keep he hdn.2
                  · show q - 1 < q
                    omega
              · intro c78
                refine cp_exit ?_
                refine at_then_exit ?_
                refine at_then_exit ?_
                refine cp_exit_here ?_
                have hq1 := knuth_stop he hQ (by omega) (by omega)
                refine join_end (()) ?_ ?_
                · exact ⟨rfl, rfl, rfl, rfl, rfl, rfl, rfl, kint (by rw [hq1, ← hYe]), trivial⟩
                · exact ⟨_, hst⟩
        case d2 =>
          clear hst
          rintro _ w1 ⟨g2, hst⟩
          refine cp_seq ?_
          obtain ⟨Q1, hQ1⟩ : ∃ Q1, Q1 = (u * 4294967296 + d1) / Y := ⟨_, rfl⟩
          rw [← hQ1]
          have hQ1l : Q1 < 4294967296 := by rw [hQ1]; exact (Nat.div_lt_iff_lt_mul (by omega)).2 (by omega)
          obtain ⟨u2, hu2e⟩ : ∃ u2, u2 = (u * 4294967296 + d1) % Y := ⟨_, rfl⟩
          have hu2l : u2 < Y := by rw [hu2e]; exact Nat.mod_lt _ (by omega)
          have huY2 : u2 < y1 * 4294967296 + y0 := by omega
          refine cp_region ?_
          refine stepK_d rfl rfl rfl hst (does_move rfl rfl) ?_
          refine stepK_d rfl rfl rfl hst (does_mul_u64 (b := 4294967296) rfl rfl rfl) ?_
          refine stepK_d rfl rfl rfl hst (does_move rfl rfl) ?_
          refine stepK_d rfl rfl rfl hst (does_add_u64 rfl rfl rfl) ?_
          refine stepK_d rfl rfl rfl hst (does_move rfl rfl) ?_
          refine stepK_d rfl rfl rfl hst (does_move rfl rfl) ?_
          refine stepK_d rfl rfl rfl hst (does_mul_u64 rfl rfl rfl) ?_
          refine stepK_d rfl rfl rfl hst (Does.nat (b := u2) (does_sub_u64 rfl rfl rfl) (by rw [knuth_rest (by omega) (by omega) hQ1, ← hu2e])) ?_
          refine stepK_d rfl rfl rfl hst (does_assign rfl rfl) ?_
          refine wpK_nil ?_
          refine cp_then ?_
          refine cp_seq ?_
          refine cp_region ?_
          refine stepK_d rfl rfl rfl hst (does_move rfl rfl) ?_
          refine stepK_d rfl rfl rfl hst (does_move rfl rfl) ?_
          refine stepK_d rfl rfl rfl hst (does_quo_u64 rfl rfl rfl (by omega) (by omega)) ?_
          refine stepK_d rfl rfl rfl hst (does_assign rfl rfl) ?_
          refine wpK_nil ?_
          refine cp_then ?_
          refine cp_seq ?_
          refine cp_region ?_
          refine stepK_d rfl rfl rfl hst (does_move rfl rfl) ?_
          refine stepK_d rfl rfl rfl hst (does_move rfl rfl) ?_
          refine stepK_d rfl rfl rfl hst (does_move rfl rfl) ?_
          refine stepK_d rfl rfl rfl hst (does_mul_u64 rfl rfl rfl) ?_
          refine stepK_d rfl rfl rfl hst (Does.nat (b := u2 % y1) (does_sub_u64 rfl rfl rfl) (by rw [div_left (show u2 < 18446744073709551616 by omega)])) ?_
          refine stepK_d rfl rfl rfl hst (does_assign rfl rfl) ?_
          refine wpK_nil ?_
          refine cp_then ?_
          refine cp_join (ι := Unit) (fun _ => [(2, .int .u64 (Y : Int)), (8, .int .u64 (s : Int)), (9, .int .u64 (y1 : Int)), (10, .int .u64 (y0 : Int)), (13, .int .u64 (d1 : Int)), (14, .int .u64 (d0 : Int)), (15, .int .u64 (Q1 : Int)), (17, .int .u64 (u2 : Int)), (18, .int .u64 (((u2 * 4294967296 + d0) / Y : Nat) : Int))]) (fun _ w1 => ∃ g2, St w [] g g2 [] w1) ?c4 ?d4
          case c4 =>
            refine cp_block ?_
            refine cp_loop (ι := Nat × Nat) (fun (q, r) => [(2, .int .u64 (Y : Int)), (8, .int .u64 (s : Int)), (9, .int .u64 (y1 : Int)), (10, .int .u64 (y0 : Int)), (13, .int .u64 (d1 : Int)), (14, .int .u64 (d0 : Int)), (15, .int .u64 (Q1 : Int)), (17, .int .u64 (u2 : Int)), (18, .int .u64 (q : Int)), (16, .int .u64 (r : Int))]) (fun (q, r) w1 => ∃ g1, St w [] g g1 [] w1 ∧ q * y1 + r = u2 ∧ r < 4294967296 ∧ (u2 * 4294967296 + d0) / (y1 * 4294967296 + y0) ≤ q ∧ q < 18446744073709551616) (fun (q, r) => q) (u2 / y1, u2 % y1) ?k5 ?i5 ?r5
            case k5 => exact ⟨rfl, rfl, rfl, rfl, rfl, rfl, rfl, rfl, rfl, rfl, trivial⟩
            case i5 =>
              exact ⟨_, hst, by rw [Nat.mul_comm]; exact Nat.div_add_mod _ _, Nat.lt_trans (Nat.mod_lt _ (by omega)) hy1l, knuth_start (by omega) (by omega), Nat.lt_of_le_of_lt (Nat.div_le_self _ _) (by omega)⟩
            case r5 =>
              clear hst
              rintro ⟨q, r⟩ w1 ⟨g1, hst, he, hr, hQ, hq⟩
              refine cp_seq ?_
              refine cp_seq ?_
              refine cp_region ?_
              refine stepK_d rfl rfl rfl hst (does_move rfl rfl) ?_
              refine stepK_d rfl rfl rfl hst (does_geq_n (b := 4294967296) rfl rfl rfl) ?_
              refine stepK_d rfl rfl rfl hst (does_move rfl rfl) ?_
              refine wpK_split (t := 104) rfl ?_ ?_
              · intro s104
                have hdn := knuth_down he (by omega) huY2 hQ (.inl s104)
                refine stepK_pass rfl rfl rfl rfl rfl rfl rfl ?_
                refine stepK_pass rfl rfl rfl rfl rfl rfl rfl ?_
                refine stepK_pass rfl rfl rfl rfl rfl rfl rfl ?_
                refine stepK_pass rfl rfl rfl rfl rfl rfl rfl ?_
                refine stepK_pass rfl rfl rfl rfl rfl rfl rfl ?_
                refine stepK_pass rfl rfl rfl rfl rfl rfl rfl ?_
                refine stepK_pass rfl rfl rfl rfl rfl rfl rfl ?_
                refine stepK_pass rfl rfl rfl rfl rfl rfl rfl ?_
                refine stepK_d rfl rfl rfl hst (does_pick_true rfl rfl rfl) ?_
                refine wpK_nil ?_
                refine cp_then ?_
                refine cp_cond_true rfl ?_
                refine cp_skip ?_
                refine cp_then ?_
                refine cp_block ?_
                refine cp_seq ?_
                refine cp_region ?_
                refine stepK_d rfl rfl rfl hst (does_move rfl rfl) ?_
                refine stepK_d rfl rfl rfl hst (Does.nat (b := q - 1) (does_sub_u64 (b := 1) rfl rfl rfl) (by have := hdn.2; omega)) ?_
                refine stepK_d rfl rfl rfl hst (does_assign rfl rfl) ?_
                refine wpK_nil ?_
                refine cp_then ?_
                refine cp_seq ?_
                refine cp_region ?_
                refine stepK_d rfl rfl rfl hst (does_move rfl rfl) ?_
                refine stepK_d rfl rfl rfl hst (does_move rfl rfl) ?_
                refine stepK_d rfl rfl rfl hst (Does.nat (b := r + y1) (does_add_u64 rfl rfl rfl) (by rw [Nat.mod_eq_of_lt (by omega)])) ?_
                refine stepK_d rfl rfl rfl hst (does_assign rfl rfl) ?_
                refine wpK_nil ?_
                refine cp_then ?_
                refine cp_seq ?_
                refine cp_region ?_
                refine stepK_d rfl rfl rfl hst (does_move rfl rfl) ?_
                refine stepK_d rfl rfl rfl hst (does_geq_n (b := 4294967296) rfl rfl rfl) ?_
                refine wpK_nil ?_
                refine cp_then ?_
                refine cp_if rfl ?_ ?_
                · intro c120
                  refine cp_exit ?_
                  refine cp_exit_on (by decide) ?_
                  refine at_then_exit ?_
                  refine cp_exit_here ?_
                  have hq1 := knuth_stop2 (knuth_keep he hdn.2) hdn.1 (by omega) (by omega) huY2 (by omega)
                  refine join_end (()) ?_ ?_
                  · exact ⟨rfl, rfl, rfl, rfl, rfl, rfl, rfl, rfl, kint (by rw [hq1, ← hYe]), trivial⟩
                  · exact ⟨_, hst⟩
                · intro c120
                  refine cp_skip ?_
                  refine at_block_normal ?_
                  refine round_end ((q - 1, r + y1)) ?_ ?_ ?_
                  · exact ⟨rfl, rfl, rfl, rfl, rfl, rfl, rfl, rfl, kint (by omega), kint (by omega), trivial⟩
                  · refine ⟨_, hst, ?_, by omega, hdn.1, by omega⟩
                    exact knuth_keep he hdn.2
                  · show q - 1 < q
                    omega
              · intro s104
                refine stepK_guard rfl rfl rfl rfl rfl rfl hst (does_move rfl rfl) ?_
                refine stepK_guard rfl rfl rfl rfl rfl rfl hst (does_move rfl rfl) ?_
                refine stepK_guard rfl rfl rfl rfl rfl rfl hst (Does.nat (b := q * y0) (does_mul_u64 rfl rfl rfl) (by rw [Nat.mod_eq_of_lt (Nat.lt_of_le_of_lt (Nat.mul_le_mul (show q ≤ 4294967295 by omega) (show y0 ≤ 4294967295 by omega)) (by decide))])) ?_
                refine stepK_guard rfl rfl rfl rfl rfl rfl hst (does_move rfl rfl) ?_
                refine stepK_guard rfl rfl rfl rfl rfl rfl hst (Does.nat (b := 4294967296 * r) (does_mul_u64 (a := 4294967296) rfl rfl rfl) (by rw [Nat.mod_eq_of_lt (by omega)])) ?_
                refine stepK_guard rfl rfl rfl rfl rfl rfl hst (does_move rfl rfl) ?_
                refine stepK_guard rfl rfl rfl rfl rfl rfl hst (Does.nat (b := 4294967296 * r + d0) (does_add_u64 rfl rfl rfl) (by rw [Nat.mod_eq_of_lt (by omega)])) ?_
                refine stepK_guard rfl rfl rfl rfl rfl rfl hst (does_gtr_n rfl rfl rfl) ?_
                refine stepK_d rfl rfl rfl hst (does_pick_false rfl rfl rfl) ?_
                refine wpK_nil ?_
                refine cp_then ?_
                refine cp_if rfl ?_ ?_
                · intro c113
                  have hdn := knuth_down he (by omega) huY2 hQ (.inr c113)
                  refine cp_skip ?_
                  refine cp_then ?_
                  refine cp_block ?_
                  refine cp_seq ?_
                  refine cp_region ?_
                  refine stepK_d rfl rfl rfl hst (does_move rfl rfl) ?_
                  refine stepK_d rfl rfl rfl hst (Does.nat (b := q - 1) (does_sub_u64 (b := 1) rfl rfl rfl) (by have := hdn.2; omega)) ?_
                  refine stepK_d rfl rfl rfl hst (does_assign rfl rfl) ?_
                  refine wpK_nil ?_
                  refine cp_then ?_
                  refine cp_seq ?_
                  refine cp_region ?_
                  refine stepK_d rfl rfl rfl hst (does_move rfl rfl) ?_
                  refine stepK_d rfl rfl rfl hst (does_move rfl rfl) ?_
                  refine stepK_d rfl rfl rfl hst (Does.nat (b := r + y1) (does_add_u64 rfl rfl rfl) (by rw [Nat.mod_eq_of_lt (by omega)])) ?_
                  refine stepK_d rfl rfl rfl hst (does_assign rfl rfl) ?_
                  refine wpK_nil ?_
                  refine cp_then ?_
                  refine cp_seq ?_
                  refine cp_region ?_
                  refine stepK_d rfl rfl rfl hst (does_move rfl rfl) ?_
                  refine stepK_d rfl rfl rfl hst (does_geq_n (b := 4294967296) rfl rfl rfl) ?_
                  refine wpK_nil ?_
                  refine cp_then ?_
                  refine cp_if rfl ?_ ?_
                  · intro c120
                    refine cp_exit ?_
                    refine cp_exit_on (by decide) ?_
                    refine at_then_exit ?_
                    refine cp_exit_here ?_
                    have hq1 := knuth_stop2 (knuth_keep he hdn.2) hdn.1 (by omega) (by omega) huY2 (by omega)
                    refine join_end (()) ?_ ?_
                    · exact ⟨rfl, rfl, rfl, rfl, rfl, rfl, rfl, rfl, kint (by rw [hq1, ← hYe]), trivial⟩
                    · exact ⟨_, hst⟩
                  · intro c120
                    refine cp_skip ?_
                    refine at_block_normal ?_
                    refine round_end ((q - 1, r + y1)) ?_ ?_ ?_
                    · exact ⟨rfl, rfl, rfl, rfl, rfl, rfl, rfl, rfl, kint (by omega), kint (by omega), trivial⟩
                    · refine ⟨_, hst, ?_, by omega, hdn.1, by omega⟩
                      exact knuth_keep he hdn.2
                    · show q - 1 < q
                      omega
                · intro c113
                  refine cp_exit ?_
                  refine at_then_exit ?_
                  refine at_then_exit ?_
                  refine cp_exit_here ?_
                  have hq1 := knuth_stop he hQ (by omega) (by omega)
                  refine join_end (()) ?_ ?_
                  · exact ⟨rfl, rfl, rfl, rfl, rfl, rfl, rfl, rfl, kint (by rw [hq1, ← hYe]), trivial⟩
                  · exact ⟨_, hst⟩
          case d4 =>
            clear hst
            rintro _ w1 ⟨g2, hst⟩
            refine cp_seq ?_
            obtain ⟨Q0, hQ0⟩ : ∃ Q0, Q0 = (u2 * 4294967296 + d0) / Y := ⟨_, rfl⟩
            rw [← hQ0]
            have hQ0l : Q0 < 4294967296 := by rw [hQ0]; exact (Nat.div_lt_iff_lt_mul (by omega)).2 (by omega)
            have hfin := div_two_digits (u := u) (t := t) (Y := Y) (q1 := Q1) (q0 := Q0) (by omega) (by rw [hQ1, hd1]) (by rw [hQ0, hu2e, hd1, hd0])
            rw [div_two hs64 hu ht hlo, hY, Nat.mul_div_mul_right _ _ (Nat.pow_pos (by decide)), Nat.mul_mod_mul_right, ← hY, ← hd1, ← hu2e, ← hd0] at hfin
            refine cp_region ?_
            refine stepK_d rfl rfl rfl hst (does_move rfl rfl) ?_
            refine stepK_d rfl rfl rfl hst (does_mul_u64 (b := 4294967296) rfl rfl rfl) ?_
            refine stepK_d rfl rfl rfl hst (does_move rfl rfl) ?_
            refine stepK_d rfl rfl rfl hst (Does.nat (b := (hi * 18446744073709551616 + lo) / y) (does_add_u64 rfl rfl rfl) (by rw [← hfin.1, Nat.mod_eq_of_lt (show Q1 * 4294967296 < 18446744073709551616 by omega), Nat.mod_eq_of_lt (by omega)])) ?_
            refine stepK_d rfl rfl rfl hst (does_move rfl rfl) ?_
            refine stepK_d rfl rfl rfl hst (does_mul_u64 (b := 4294967296) rfl rfl rfl) ?_
            refine stepK_d rfl rfl rfl hst (does_move rfl rfl) ?_
            refine stepK_d rfl rfl rfl hst (does_add_u64 rfl rfl rfl) ?_
            refine stepK_d rfl rfl rfl hst (does_move rfl rfl) ?_
            refine stepK_d rfl rfl rfl hst (does_move rfl rfl) ?_
            refine stepK_d rfl rfl rfl hst (does_mul_u64 rfl rfl rfl) ?_
            refine stepK_d rfl rfl rfl hst (Does.nat (b := (hi * 18446744073709551616 + lo) % y * 2 ^ s) (does_sub_u64 rfl rfl rfl) (by rw [knuth_rest (by omega) (by omega) hQ0, hfin.2])) ?_
            refine stepK_d rfl rfl rfl hst (does_move rfl rfl) ?_
            refine stepK_d rfl rfl rfl hst (Does.nat (b := (hi * 18446744073709551616 + lo) % y) (does_shr_u64 rfl rfl rfl) (by rw [Nat.min_eq_left hs64, Nat.mul_div_cancel _ (Nat.pow_pos (by decide))])) ?_
            refine stepK_d rfl rfl rfl hst (does_assign rfl rfl) ?_
            refine stepK_d rfl rfl rfl hst (does_assign rfl rfl) ?_
            refine wpK_nil ?_
            refine cp_then ?_
            refine cp_ret ?_
            refine ret2 rfl rfl rfl hst ?_
            rfl

end Go.Proofs.YtbamjcfdlgnicaaDoor

namespace Go.Proofs.YtbamjcfdlgnicaaDoor
open Go Go.RowKit Go.Proofs.Vc
set_option linter.unusedVariables false
set_option linter.unusedSimpArgs false

set_option maxHeartbeats 1000000 in
theorem num_byWord {g : Mem} {w : World} (hag : Agree g w) {A : Option Addr} {n c N x : Nat} (ha : IsNat g A n N) (hx : x < 18446744073709551616) (h0 : 0 < x) (hn : n ≤ 17592186044415) :
    CallTo Tryd.prog 72 #[.slice A n c, .int .u64 (x : Int)] w (Ret w g fun v g => ∃ A n c, v = .tuple #[.slice A n c, .int .u64 ((N % x : Nat) : Int)] ∧ IsNat g A n (N / x)) := by
  refine CallTo.enter (vs := [.slice A n c, .int .u64 (x : Int)]) (by kernel_rfl : Tryd.prog.funcs[72]? = some Tryd.f72) (by kernel_rfl) rfl rfl rfl ?_
  have hst := St.init hag
  obtain ⟨xs, hxs, hxw, hxt, rfl⟩ := ha
  have hlx := hxs.1
  refine cp_seq ?_
  refine cp_region ?_
  refine stepK_d rfl rfl rfl hst (does_assign rfl rfl) ?_
  refine stepK_d rfl rfl rfl hst (does_assign rfl rfl) ?_
  refine wpK_nil ?_
  refine cp_then ?_
  refine cp_seq ?_
  refine cp_region ?_
  refine stepK_d rfl rfl rfl hst (does_move rfl rfl) ?_
  refine stepK_d rfl rfl rfl hst (does_len_slice rfl (by kernel_rfl : Program.underlying Tryd.prog 64 = some (.slice 66)) rfl) ?_
  refine stepK_make rfl rfl rfl (l := n) (c := n) rfl (by kernel_rfl : Program.underlying Tryd.prog 64 = some (.slice 66)) (by kernel_rfl : elemInfo Tryd.prog 66 = some ((.int .u64 0), 1, 8)) rfl rfl rfl rfl rfl rfl (by omega) (by omega) (by omega) hst ?_
  clear hst
  intro bo w1 hst
  rw [uN_rep] at hst
  refine stepK_d rfl rfl rfl hst (does_assign rfl rfl) ?_
  refine wpK_nil ?_
  refine cp_then ?_
  refine cp_seq ?_
  refine cp_region ?_
  refine stepK_d rfl rfl rfl hst (does_assign rfl rfl) ?_
  refine wpK_nil ?_
  refine cp_then ?_
  refine cp_seq ?_
  refine cp_seq ?_
  refine cp_region ?_
  refine stepK_d rfl rfl rfl hst (does_move rfl rfl) ?_
  refine stepK_d rfl rfl rfl hst (does_len_slice rfl (by kernel_rfl : Program.underlying Tryd.prog 64 = some (.slice 66)) rfl) ?_
  refine stepK_d rfl rfl rfl hst (Does.int (does_sub rfl rfl rfl) (wrap_i64 (by omega) (by omega))) ?_
  refine stepK_d rfl rfl rfl hst (does_assign rfl rfl) ?_
  refine wpK_nil ?_
  refine cp_then ?_
  refine cp_block ?_
  refine cp_loop (ι := Nat × Nat × List Nat) (fun (k, rest, ws) => [(0, .slice A n c), (1, .int .u64 (x : Int)), (6, .slice (some ⟨bo, 0, none⟩) n n), (7, .int .u64 (rest : Int)), (8, .int .i64 ((k : Int) - 1))]) (fun (k, rest, ws) w1 => ∃ g1, St w [] g g1 [(bo, .cells (uN .u64 ws).toArray 66 (0, 0))] w1 ∧ k ≤ n ∧ rest < x ∧ Words ws ∧ ws.length = n ∧ val (xs.drop k) = val (ws.drop k) * x + rest) (fun (k, rest, ws) => k) (n, 0, List.replicate n 0) ?k2 ?i2 ?r2
  case k2 => exact ⟨rfl, rfl, rfl, rfl, rfl, trivial⟩
  case i2 =>
    exact ⟨_, hst, Nat.le_refl _, h0, Words.rep _, by simp, by rw [List.drop_eq_nil_of_le (by omega), List.drop_eq_nil_of_le (by simp)]; simp [val]⟩
  case r2 =>
    clear hst
    rintro ⟨k, rest, ws⟩ w1 ⟨g1, hst, hk, hr, hws, hwl, hv⟩
    refine cp_seq ?_
    refine cp_seq ?_
    refine cp_region ?_
    refine stepK_d rfl rfl rfl hst (does_move rfl rfl) ?_
    refine stepK_d rfl rfl rfl hst (does_geq rfl rfl rfl) ?_
    refine wpK_nil ?_
    refine cp_then ?_
    refine cp_if rfl ?_ ?_
    · intro c16
      refine cp_skip ?_
      refine cp_then ?_
      refine cp_seq ?_
      refine cp_block ?_
      obtain ⟨b1, o1, rfl, hb1⟩ := hxs.some_ (by omega)
      obtain ⟨d, hd⟩ := get_of_lt (ws := xs) (j := k - 1) (by omega)
      have hdl := hxw.get hd
      refine cp_region ?_
      refine stepK_d rfl rfl rfl hst (does_move rfl rfl) ?_
      refine stepK_d rfl rfl rfl hst (does_move rfl rfl) ?_
      refine stepK_d rfl rfl rfl hst (does_move rfl rfl) ?_
      refine stepK_d rfl rfl rfl hst (does_move rfl rfl) ?_
      refine stepK_d rfl rfl rfl hst (does_move rfl rfl) ?_
      refine stepK_d rfl rfl rfl hst (does_indexAddr1 (j := (k - 1)) rfl (by kernel_rfl : Program.underlying Tryd.prog 64 = some (.slice 66)) (by kernel_rfl) rfl rfl (by omega) (by omega)) ?_
      refine stepK_d rfl rfl rfl hst (does_load_g1 rfl (by kernel_rfl) rfl ((hb1.mono hst.le).at_ _ _ hd)) ?_
      refine stepK_d rfl rfl rfl hst (does_move rfl rfl) ?_
      refine stepK_call rfl rfl rfl rfl rfl hst (bits_Div64 hst.agree hr hdl hx h0) ?_
      clear hst
      intro v3 g3 w3 hst hle3 hcs3 hp3
      obtain rfl := hp3
      refine stepK_d rfl rfl rfl hst (does_move rfl rfl) ?_
      refine stepK_d rfl rfl rfl hst (does_extract rfl rfl rfl) ?_
      refine stepK_d rfl rfl rfl hst (does_extract rfl rfl rfl) ?_
      refine stepK_d rfl rfl rfl hst (does_indexAddr1 (j := (k - 1)) rfl (by kernel_rfl : Program.underlying Tryd.prog 64 = some (.slice 66)) (by kernel_rfl) rfl rfl (by omega) (by omega)) ?_
      refine stepK_store 0 rfl rfl rfl rfl rfl rfl (by kernel_rfl : sizeB Tryd.prog 66 = some 1) rfl rfl hst rfl (by first | (simp [uN_length]; omega) | simp) ?_
      clear hst
      intro w4 hst
      rw [Nat.zero_add, splice_uN _ _ _ _ (by omega)] at hst
      simp only [List.set_cons_zero] at hst
      refine stepK_d rfl rfl rfl hst (does_assign rfl rfl) ?_
      refine wpK_nil ?_
      refine at_block_normal ?_
      refine cp_then ?_
      refine cp_region ?_
      refine stepK_d rfl rfl rfl hst (does_move rfl rfl) ?_
      refine stepK_d rfl rfl rfl hst (Does.int (does_sub rfl rfl rfl) (wrap_i64 (by omega) (by omega))) ?_
      refine stepK_d rfl rfl rfl hst (does_assign rfl rfl) ?_
      refine wpK_nil ?_
      refine round_end ((k - 1, (rest * 18446744073709551616 + d) % x, ws.set (k - 1) ((rest * 18446744073709551616 + d) / x))) ?_ ?_ ?_
      · exact ⟨rfl, rfl, rfl, rfl, kint (by omega), trivial⟩
      · refine ⟨_, hst, by omega, Nat.mod_lt _ h0, hws.set (byWord_lt hr hdl), by simp [hwl], ?_⟩
        rw [drop_set_ge (by omega), val_drop_get hd, show k - 1 + 1 = k by omega]
        exact byWord_step hv rfl rfl
      · show k - 1 < k
        omega
    · intro c16
      refine cp_exit ?_
      refine at_then_exit ?_
      refine at_then_exit ?_
      refine cp_exit_here ?_
      refine cp_then ?_
      refine cp_seq ?_
      refine cp_region ?_
      refine stepK_d rfl rfl rfl hst (does_move rfl rfl) ?_
      obtain ⟨hst, hle2⟩ := hst.publish 0 rfl
      obtain rfl : k = 0 := by omega
      simp only [List.drop_zero] at hv
      have hdm := div_mod_of hv hr
      refine stepK_call rfl rfl rfl rfl rfl hst (num_trim hst.agree (ws := ws) (by rw [← hwl]; exact SlN.put_uN) hws (by omega) (by omega)) ?_
      clear hst
      intro v5 g5 w5 hst hle5 hcs5 hp5
      obtain ⟨A5, n5, c5, rfl, hn5⟩ := hp5
      refine stepK_d rfl rfl rfl hst (does_move rfl rfl) ?_
      refine stepK_d rfl rfl rfl hst (does_assign rfl rfl) ?_
      refine stepK_d rfl rfl rfl hst (does_assign rfl rfl) ?_
      refine wpK_nil ?_
      refine cp_then ?_
      refine cp_ret ?_
      refine ret2 rfl rfl rfl hst ?_
      refine ⟨_, _, _, by rw [hdm.2], ?_⟩
      rw [hdm.1]
      assumption

end Go.Proofs.YtbamjcfdlgnicaaDoor

namespace Go.Proofs.YtbamjcfdlgnicaaDoor
open Go Go.RowKit Go.Proofs.Vc
set_option linter.unusedVariables false
set_option linter.unusedSimpArgs false

set_option maxHeartbeats 1000000 in
theorem num_left {g : Mem} {w : World} (hag : Agree g w) {A : Option Addr} {n c N s : Nat} (ha : IsNat g A n N) (hn : n ≤ 8796093022207) (hs : s ≤ 8796093022207) :
    CallTo Tryd.prog 77 #[.slice A n c, .int .i64 (s : Int)] w (Ret w g fun v g => ∃ A n c, v = .slice A n c ∧ IsNat g A n (N * 2 ^ s)) := by
  refine CallTo.enter (vs := [.slice A n c, .int .i64 (s : Int)]) (by kernel_rfl : Tryd.prog.funcs[77]? = some Tryd.f77) (by kernel_rfl) rfl rfl rfl ?_
  have hst := St.init hag
  have hz := ha.zero_iff
  obtain ⟨xs, hxs, hxw, hxt, rfl⟩ := ha
  have hlx := hxs.1
  obtain ⟨q, hq⟩ : ∃ q, q = s / 64 := ⟨_, rfl⟩
  obtain ⟨r, hr⟩ : ∃ r, r = s % 64 := ⟨_, rfl⟩
  have hr64 : r < 64 := by omega
  refine cp_seq ?_
  refine cp_region ?_
  refine stepK_d rfl rfl rfl hst (does_assign rfl rfl) ?_
  refine wpK_nil ?_
  refine cp_then ?_
  refine cp_seq ?_
  refine cp_seq ?_
  refine cp_region ?_
  refine stepK_d rfl rfl rfl hst (does_move rfl rfl) ?_
  refine stepK_d rfl rfl rfl hst (does_len_slice rfl (by kernel_rfl : Program.underlying Tryd.prog 64 = some (.slice 66)) rfl) ?_
  refine stepK_d rfl rfl rfl hst (does_eql rfl rfl rfl) ?_
  refine wpK_nil ?_
  refine cp_then ?_
  refine cp_if rfl ?_ ?_
  · intro c12
    refine cp_seq ?_
    refine cp_region ?_
    refine stepK_d rfl rfl rfl hst (does_assign rfl rfl) ?_
    refine wpK_nil ?_
    refine cp_then ?_
    refine cp_ret ?_
    refine at_then_ret ?_
    refine ret1 rfl rfl hst ⟨_, _, _, rfl, ?_⟩
    rw [hz.1 (by omega), Nat.zero_mul]
    exact IsNat.nil g
  · intro c12
    refine cp_skip ?_
    refine cp_then ?_
    refine cp_seq ?_
    obtain ⟨b1, o1, rfl, hb1⟩ := hxs.some_ (by omega)
    refine cp_region ?_
    refine stepK_d rfl rfl rfl hst (does_move rfl rfl) ?_
    refine stepK_d rfl rfl rfl hst (Does.nat (b := q) (does_quo_p (b := 64) rfl rfl rfl (by omega) (by omega)) (by rw [hq])) ?_
    refine stepK_d rfl rfl rfl hst (does_move rfl rfl) ?_
    refine stepK_d rfl rfl rfl hst (Does.nat (b := r) (does_rem_p (b := 64) rfl rfl rfl (by omega)) (by rw [hr])) ?_
    refine stepK_d rfl rfl rfl hst (Does.nat (b := r) (does_conv_n_u64 rfl (by kernel_rfl) (by kernel_rfl) rfl) (by rw [Nat.mod_eq_of_lt (by omega)])) ?_
    refine stepK_d rfl rfl rfl hst (does_assign rfl rfl) ?_
    refine stepK_d rfl rfl rfl hst (does_assign rfl rfl) ?_
    refine wpK_nil ?_
    refine cp_then ?_
    refine cp_seq ?_
    refine cp_region ?_
    refine stepK_d rfl rfl rfl hst (does_move rfl rfl) ?_
    refine stepK_d rfl rfl rfl hst (does_len_slice rfl (by kernel_rfl : Program.underlying Tryd.prog 64 = some (.slice 66)) rfl) ?_
    refine stepK_d rfl rfl rfl hst (does_move rfl rfl) ?_
    refine stepK_d rfl rfl rfl hst (Does.int (does_add rfl rfl rfl) (wrap_i64 (by omega) (by omega))) ?_
    refine stepK_d rfl rfl rfl hst (Does.int (does_add rfl rfl rfl) (wrap_i64 (by omega) (by omega))) ?_
    refine stepK_make rfl rfl rfl (l := n + q + 1) (c := n + q + 1) rfl (by kernel_rfl : Program.underlying Tryd.prog 64 = some (.slice 66)) (by kernel_rfl : elemInfo Tryd.prog 66 = some ((.int .u64 0), 1, 8)) rfl rfl rfl rfl (by omega) (by omega) (by omega) (by omega) (by omega) hst ?_
    clear hst
    intro bo w1 hst
    rw [uN_rep] at hst
    refine stepK_d rfl rfl rfl hst (does_assign rfl rfl) ?_
    refine wpK_nil ?_
    refine cp_then ?_
    refine cp_seq ?_
    refine cp_seq ?_
    refine cp_region ?_
    refine stepK_d rfl rfl rfl hst (does_move rfl rfl) ?_
    refine stepK_d rfl rfl rfl hst (does_len_slice rfl (by kernel_rfl : Program.underlying Tryd.prog 64 = some (.slice 66)) rfl) ?_
    refine stepK_d rfl rfl rfl hst (does_move rfl rfl) ?_
    refine wpK_nil ?_
    refine cp_then ?_
    refine cp_block ?_
    refine cp_loop (ι := Nat × Nat × List Nat) (fun (i, cy, ws) => [(0, .slice (some ⟨b1, o1, none⟩) n c), (5, .int .i64 (q : Int)), (6, .int .u64 (r : Int)), (7, .slice (some ⟨bo, 0, none⟩) (n + q + 1) (n + q + 1)), (24, .slice (some ⟨b1, o1, none⟩) n c), (25, .int .i64 (n : Int)), (26, .int .i64 (i : Int))]) (fun (i, cy, ws) w1 => St w [] g g [(bo, .cells (uN .u64 ws).toArray 66 (0, 0))] w1 ∧ i ≤ n ∧ cy < 2 ^ r ∧ cy < 18446744073709551616 ∧ Words ws ∧ ws.length = n + q + 1 ∧ ws[i + q]? = some cy ∧ (∀ j, i + q < j → j < n + q + 1 → ws[j]? = some 0) ∧ val (ws.take (i + q)) + cy * 18446744073709551616 ^ (i + q) = val (xs.take i) * 2 ^ r * 18446744073709551616 ^ q) (fun (i, cy, ws) => n - i) (0, 0, List.replicate (n + q + 1) 0) ?k2 ?i2 ?r2
    case k2 => exact ⟨rfl, rfl, rfl, rfl, rfl, rfl, rfl, trivial⟩
    case i2 =>
      exact ⟨hst, Nat.zero_le _, Nat.pow_pos (by decide), by decide, Words.rep _, by simp, rep_get (by omega), fun j h1 h2 => rep_get h2, by simp [val, val_rep]⟩
    case r2 =>
      clear hst
      rintro ⟨i, cy, ws⟩ w1 ⟨hst, hi, hcy, hcyB, hws, hwl, hwi, hw0, hv⟩
      refine cp_seq ?_
      refine cp_region ?_
      refine stepK_d rfl rfl rfl hst (does_lss rfl rfl rfl) ?_
      refine wpK_nil ?_
      refine cp_then ?_
      refine cp_seq ?_
      refine cp_if rfl ?_ ?_
      · intro c27
        refine cp_skip ?_
        refine cp_then ?_
        refine cp_seq ?_
        refine cp_block ?_
        refine cp_seq ?_
        obtain ⟨x, hx⟩ := get_of_lt (ws := xs) (j := i) (by omega)
        have hxlt := hxw.get hx
        refine cp_region ?_
        refine stepK_d rfl rfl rfl hst (does_move rfl rfl) ?_
        refine stepK_d rfl rfl rfl hst (does_indexAddr1 rfl (by kernel_rfl : Program.underlying Tryd.prog 64 = some (.slice 66)) (by kernel_rfl) rfl rfl rfl (by omega)) ?_
        refine stepK_d rfl rfl rfl hst (does_load_g1 rfl (by kernel_rfl) rfl (hb1.at_ _ _ hx)) ?_
        refine stepK_d rfl rfl rfl hst (does_assign rfl rfl) ?_
        refine stepK_d rfl rfl rfl hst (does_assign rfl rfl) ?_
        refine wpK_nil ?_
        refine cp_then ?_
        refine cp_seq ?_
        refine cp_region ?_
        refine stepK_d rfl rfl rfl hst (does_move rfl rfl) ?_
        refine stepK_d rfl rfl rfl hst (does_move rfl rfl) ?_
        refine stepK_d rfl rfl rfl hst (does_move rfl rfl) ?_
        refine stepK_d rfl rfl rfl hst (Does.int (does_add rfl rfl rfl) (wrap_i64 (by omega) (by omega))) ?_
        refine stepK_d rfl rfl rfl hst (does_indexAddr1 (j := (i + q)) rfl (by kernel_rfl : Program.underlying Tryd.prog 64 = some (.slice 66)) (by kernel_rfl) rfl rfl (by omega) (by omega)) ?_
        refine stepK_d rfl rfl rfl hst (does_load_own1 0 rfl (by kernel_rfl) rfl rfl (uN_arr_get (by rw [Nat.zero_add]; exact hwi))) ?_
        refine stepK_d rfl rfl rfl hst (does_move rfl rfl) ?_
        refine stepK_d rfl rfl rfl hst (does_move rfl rfl) ?_
        refine stepK_d rfl rfl rfl hst (Does.nat (b := x * 2 ^ r % 18446744073709551616) (does_shl_u64 rfl rfl rfl) (by rw [Nat.min_eq_left (by omega)])) ?_
        have hor : cy ||| x * 2 ^ r % 18446744073709551616 = cy + x * 2 ^ r % 18446744073709551616 := by rw [shl_lo (by omega), or_low hcy]
        have hnew : cy + x * 2 ^ r % 18446744073709551616 < 18446744073709551616 := by
          rw [shl_lo (by omega)]
          have h1 : x % 2 ^ (64 - r) * 2 ^ r + 2 ^ r ≤ 18446744073709551616 := by
            rw [← Nat.succ_mul, ← pow64 r (by omega), Nat.mul_comm (2 ^ r)]
            exact Nat.mul_le_mul_right _ (Nat.mod_lt _ (Nat.pow_pos (by decide)))
          omega
        have hx2 : x / 2 ^ (64 - r) < 2 ^ r := (Nat.div_lt_iff_lt_mul (Nat.pow_pos (by decide))).2 (by rw [pow64 r (by omega)]; exact hxlt)
        refine stepK_d rfl rfl rfl hst (Does.nat (b := cy + x * 2 ^ r % 18446744073709551616) (does_or_u64 rfl rfl rfl hcyB (Nat.mod_lt _ (by decide))) (by rw [hor])) ?_
        refine stepK_d rfl rfl rfl hst (does_indexAddr1 (j := (i + q)) rfl (by kernel_rfl : Program.underlying Tryd.prog 64 = some (.slice 66)) (by kernel_rfl) rfl rfl (by omega) (by omega)) ?_
        refine stepK_store 0 rfl rfl rfl rfl rfl rfl (by kernel_rfl : sizeB Tryd.prog 66 = some 1) rfl rfl hst rfl (by first | (simp [uN_length]; omega) | simp) ?_
        clear hst
        intro w3 hst
        rw [Nat.zero_add, splice_uN _ _ _ _ (by omega)] at hst
        simp only [List.set_cons_zero] at hst
        refine wpK_nil ?_
        refine cp_then ?_
        refine cp_seq ?_
        refine cp_region ?_
        refine stepK_d rfl rfl rfl hst (does_move rfl rfl) ?_
        refine stepK_d rfl rfl rfl hst (does_gtr_n (b := 0) rfl rfl rfl) ?_
        refine wpK_nil ?_
        refine cp_then ?_
        refine cp_if rfl ?_ ?_
        · intro c43
          refine cp_region ?_
          refine stepK_d rfl rfl rfl hst (does_move rfl rfl) ?_
          refine stepK_d rfl rfl rfl hst (does_move rfl rfl) ?_
          refine stepK_d rfl rfl rfl hst (does_move rfl rfl) ?_
          refine stepK_d rfl rfl rfl hst (Does.int (does_add rfl rfl rfl) (wrap_i64 (by omega) (by omega))) ?_
          refine stepK_d rfl rfl rfl hst (Does.int (does_add rfl rfl rfl) (wrap_i64 (by omega) (by omega))) ?_
          refine stepK_d rfl rfl rfl hst (does_move rfl rfl) ?_
          refine stepK_d rfl rfl rfl hst (does_move rfl rfl) ?_
          refine stepK_d rfl rfl rfl hst (Does.nat (b := 64 - r) (does_sub_u64 (a := 64) rfl rfl rfl) (by omega)) ?_
          refine stepK_d rfl rfl rfl hst (Does.nat (b := x / 2 ^ (64 - r)) (does_shr_u64 rfl rfl rfl) (by rw [Nat.min_eq_left (by omega)])) ?_
          refine stepK_d rfl rfl rfl hst (does_indexAddr1 (j := (i + q + 1)) rfl (by kernel_rfl : Program.underlying Tryd.prog 64 = some (.slice 66)) (by kernel_rfl) rfl rfl (by omega) (by omega)) ?_
          refine stepK_store 0 rfl rfl rfl rfl rfl rfl (by kernel_rfl : sizeB Tryd.prog 66 = some 1) rfl rfl hst rfl (by first | (simp [uN_length]; omega) | simp) ?_
          clear hst
          intro w4 hst
          rw [Nat.zero_add, splice_uN _ _ _ _ (by simp; omega)] at hst
          simp only [List.set_cons_zero] at hst
          refine wpK_nil ?_
          refine at_block_normal ?_
          refine cp_then ?_
          refine cp_region ?_
          refine stepK_d rfl rfl rfl hst (Does.int (does_add rfl rfl rfl) (wrap_i64 (by omega) (by omega))) ?_
          refine stepK_d rfl rfl rfl hst (does_move rfl rfl) ?_
          refine wpK_nil ?_
          refine round_end ((i + 1, x / 2 ^ (64 - r), (ws.set (i + q) (cy + x * 2 ^ r % 18446744073709551616)).set (i + q + 1) (x / 2 ^ (64 - r)))) ?_ ?_ ?_
          · exact ⟨rfl, rfl, rfl, rfl, rfl, rfl, rfl, trivial⟩
          · refine ⟨hst, by omega, hx2, Nat.lt_of_le_of_lt (Nat.div_le_self _ _) hxlt, (hws.set hnew).set (Nat.lt_of_le_of_lt (Nat.div_le_self _ _) hxlt), by simp [hwl], ?_, ?_, ?_⟩
            · rw [show i + 1 + q = i + q + 1 by omega, List.getElem?_set_self (by simp; omega)]
            · intro j h1 h2
              rw [List.getElem?_set_ne (by omega), List.getElem?_set_ne (by omega)]
              exact hw0 j (by omega) h2
            · rw [show i + 1 + q = i + q + 1 by omega, take_set_le, val_take_set (by omega), val_take_succ hx, pow_succ64]
              exact left_step (by omega) hv (Nat.pow_add ..)
          · show n - (i + 1) < n - i
            omega
        · intro c43
          refine cp_skip ?_
          refine at_block_normal ?_
          refine cp_then ?_
          refine cp_region ?_
          refine stepK_d rfl rfl rfl hst (Does.int (does_add rfl rfl rfl) (wrap_i64 (by omega) (by omega))) ?_
          refine stepK_d rfl rfl rfl hst (does_move rfl rfl) ?_
          refine wpK_nil ?_
          refine round_end ((i + 1, 0, ws.set (i + q) (cy + x * 2 ^ r % 18446744073709551616))) ?_ ?_ ?_
          · exact ⟨rfl, rfl, rfl, rfl, rfl, rfl, rfl, trivial⟩
          · have hr0 : r = 0 := by omega
            refine ⟨hst, by omega, Nat.pow_pos (by decide), by decide, hws.set hnew, by simp [hwl], ?_, ?_, ?_⟩
            · rw [show i + 1 + q = i + q + 1 by omega, List.getElem?_set_ne (by omega)]
              exact hw0 _ (by omega) (by omega)
            · intro j h1 h2
              rw [List.getElem?_set_ne (by omega)]
              exact hw0 j (by omega) h2
            · have h1 := left_step (x := x) (by omega) hv (Nat.pow_add ..)
              rw [show i + 1 + q = i + q + 1 by omega, val_take_set (by omega), val_take_succ hx, pow_succ64, ← h1, hr0, Nat.div_eq_of_lt hxlt]
          · show n - (i + 1) < n - i
            omega
      · intro c27
        refine cp_exit ?_
        refine at_then_exit ?_
        refine at_then_exit ?_
        refine cp_exit_here ?_
        refine cp_then ?_
        refine cp_seq ?_
        refine cp_region ?_
        refine stepK_d rfl rfl rfl hst (does_move rfl rfl) ?_
        obtain ⟨hst, hle2⟩ := hst.publish 0 rfl
        obtain rfl : n = i := by omega
        have hval : val ws = val xs * 2 ^ s := by
          rw [← val_all (ws := ws) (n := n + q + 1) (by omega), val_take_succ hwi, Nat.mul_comm _ cy, hv, val_all (ws := xs) (by omega), Nat.mul_assoc]
          congr 1
          rw [show (18446744073709551616 : Nat) = 2 ^ 64 by decide, ← Nat.pow_mul, ← Nat.pow_add]
          congr 1
          omega
        refine stepK_call rfl rfl rfl rfl rfl hst (num_trim hst.agree (ws := ws) (by rw [← hwl]; exact SlN.put_uN) hws (by omega) (by omega)) ?_
        clear hst
        intro v5 g5 w5 hst hle5 hcs5 hp5
        obtain ⟨A5, n5, c5, rfl, hn5⟩ := hp5
        refine stepK_d rfl rfl rfl hst (does_assign rfl rfl) ?_
        refine wpK_nil ?_
        refine cp_then ?_
        refine cp_ret ?_
        refine ret1 rfl rfl hst ?_
        refine ⟨_, _, _, rfl, ?_⟩
        rw [← hval]
        assumption

end Go.Proofs.YtbamjcfdlgnicaaDoor

namespace Go.Proofs.YtbamjcfdlgnicaaDoor
open Go Go.RowKit Go.Proofs.Vc
set_option linter.unusedVariables false
set_option linter.unusedSimpArgs false

set_option maxHeartbeats 1000000 in
theorem num_right {g : Mem} {w : World} (hag : Agree g w) {A : Option Addr} {n c N s : Nat} (ha : IsNat g A n N) (hn : n ≤ 8796093022207) (hs : s ≤ 9223372036854775807) :
    CallTo Tryd.prog 81 #[.slice A n c, .int .i64 (s : Int)] w (Ret w g fun v g => ∃ A n c, v = .slice A n c ∧ IsNat g A n (N / 2 ^ s)) := by
  refine CallTo.enter (vs := [.slice A n c, .int .i64 (s : Int)]) (by kernel_rfl : Tryd.prog.funcs[81]? = some Tryd.f81) (by kernel_rfl) rfl rfl rfl ?_
  have hst := St.init hag
  have hz := ha.lt
  obtain ⟨xs, hxs, hxw, hxt, rfl⟩ := ha
  have hlx := hxs.1
  obtain ⟨q, hq⟩ : ∃ q, q = s / 64 := ⟨_, rfl⟩
  obtain ⟨r, hr⟩ : ∃ r, r = s % 64 := ⟨_, rfl⟩
  have hr64 : r < 64 := by omega
  refine cp_seq ?_
  refine cp_region ?_
  refine stepK_d rfl rfl rfl hst (does_assign rfl rfl) ?_
  refine wpK_nil ?_
  refine cp_then ?_
  refine cp_seq ?_
  refine cp_region ?_
  refine stepK_d rfl rfl rfl hst (does_move rfl rfl) ?_
  refine stepK_d rfl rfl rfl hst (Does.nat (b := q) (does_quo_p (b := 64) rfl rfl rfl (by omega) (by omega)) (by rw [hq])) ?_
  refine stepK_d rfl rfl rfl hst (does_move rfl rfl) ?_
  refine stepK_d rfl rfl rfl hst (Does.nat (b := r) (does_rem_p (b := 64) rfl rfl rfl (by omega)) (by rw [hr])) ?_
  refine stepK_d rfl rfl rfl hst (Does.nat (b := r) (does_conv_n_u64 rfl (by kernel_rfl) (by kernel_rfl) rfl) (by rw [Nat.mod_eq_of_lt (by omega)])) ?_
  refine stepK_d rfl rfl rfl hst (does_assign rfl rfl) ?_
  refine stepK_d rfl rfl rfl hst (does_assign rfl rfl) ?_
  refine wpK_nil ?_
  refine cp_then ?_
  refine cp_seq ?_
  refine cp_seq ?_
  refine cp_region ?_
  refine stepK_d rfl rfl rfl hst (does_move rfl rfl) ?_
  refine stepK_d rfl rfl rfl hst (does_move rfl rfl) ?_
  refine stepK_d rfl rfl rfl hst (does_len_slice rfl (by kernel_rfl : Program.underlying Tryd.prog 64 = some (.slice 66)) rfl) ?_
  refine stepK_d rfl rfl rfl hst (does_geq rfl rfl rfl) ?_
  refine wpK_nil ?_
  refine cp_then ?_
  refine cp_if rfl ?_ ?_
  · intro c17
    refine cp_seq ?_
    refine cp_region ?_
    refine stepK_d rfl rfl rfl hst (does_assign rfl rfl) ?_
    refine wpK_nil ?_
    refine cp_then ?_
    refine cp_ret ?_
    refine at_then_ret ?_
    refine ret1 rfl rfl hst ⟨_, _, _, rfl, ?_⟩
    rw [Nat.div_eq_of_lt]
    · exact IsNat.nil g
    · refine Nat.lt_of_lt_of_le hz ?_
      rw [show (18446744073709551616 : Nat) = 2 ^ 64 by decide, ← Nat.pow_mul]
      exact Nat.pow_le_pow_right (by decide) (by omega)
  · intro c17
    refine cp_skip ?_
    refine cp_then ?_
    refine cp_seq ?_
    obtain ⟨b1, o1, rfl, hb1⟩ := hxs.some_ (by omega)
    obtain ⟨m, hm⟩ : ∃ m, m = n - q := ⟨_, rfl⟩
    refine cp_region ?_
    refine stepK_d rfl rfl rfl hst (does_move rfl rfl) ?_
    refine stepK_d rfl rfl rfl hst (does_len_slice rfl (by kernel_rfl : Program.underlying Tryd.prog 64 = some (.slice 66)) rfl) ?_
    refine stepK_d rfl rfl rfl hst (does_move rfl rfl) ?_
    refine stepK_d rfl rfl rfl hst (Does.int (does_sub rfl rfl rfl) (wrap_i64 (by omega) (by omega))) ?_
    refine stepK_make rfl rfl rfl (l := m) (c := m) rfl (by kernel_rfl : Program.underlying Tryd.prog 64 = some (.slice 66)) (by kernel_rfl : elemInfo Tryd.prog 66 = some ((.int .u64 0), 1, 8)) rfl rfl rfl rfl (by omega) (by omega) (by omega) (by omega) (by omega) hst ?_
    clear hst
    intro bo w1 hst
    rw [uN_rep] at hst
    refine stepK_d rfl rfl rfl hst (does_assign rfl rfl) ?_
    refine wpK_nil ?_
    refine cp_then ?_
    refine cp_seq ?_
    refine cp_seq ?_
    refine cp_region ?_
    refine stepK_d rfl rfl rfl hst (does_move rfl rfl) ?_
    refine stepK_d rfl rfl rfl hst (does_len_slice rfl (by kernel_rfl : Program.underlying Tryd.prog 64 = some (.slice 66)) rfl) ?_
    refine stepK_d rfl rfl rfl hst (does_move rfl rfl) ?_
    refine wpK_nil ?_
    refine cp_then ?_
    refine cp_block ?_
    refine cp_loop (ι := Nat × List Nat) (fun (i, ws) => [(0, .slice (some ⟨b1, o1, none⟩) n c), (5, .int .i64 (q : Int)), (6, .int .u64 (r : Int)), (7, .slice (some ⟨bo, 0, none⟩) m m), (24, .int .i64 (m : Int)), (25, .int .i64 (i : Int))]) (fun (i, ws) w1 => ∃ g1, St w [] g g1 [(bo, .cells (uN .u64 ws).toArray 66 (0, 0))] w1 ∧ i ≤ m ∧ Words ws ∧ ws.length = m ∧ val (ws.take i) = (val (xs.drop q) / 2 ^ r) % 18446744073709551616 ^ i) (fun (i, ws) => m - i) (0, List.replicate m 0) ?k2 ?i2 ?r2
    case k2 => exact ⟨rfl, rfl, rfl, rfl, rfl, rfl, trivial⟩
    case i2 =>
      exact ⟨_, hst, Nat.zero_le _, Words.rep _, by simp, by simp [val, Nat.mod_one]⟩
    case r2 =>
      clear hst
      rintro ⟨i, ws⟩ w1 ⟨g1, hst, hi, hws, hwl, hv⟩
      refine cp_seq ?_
      refine cp_region ?_
      refine stepK_d rfl rfl rfl hst (does_lss rfl rfl rfl) ?_
      refine wpK_nil ?_
      refine cp_then ?_
      refine cp_seq ?_
      refine cp_if rfl ?_ ?_
      · intro c26
        refine cp_skip ?_
        refine cp_then ?_
        refine cp_seq ?_
        refine cp_block ?_
        refine cp_seq ?_
        refine cp_region ?_
        refine stepK_d rfl rfl rfl hst (does_move rfl rfl) ?_
        refine stepK_d rfl rfl rfl hst (does_assign rfl rfl) ?_
        refine wpK_nil ?_
        refine cp_then ?_
        refine cp_seq ?_
        obtain ⟨x, hx⟩ := get_of_lt (ws := xs) (j := i + q) (by omega)
        have hxlt := hxw.get hx
        have hx2 : x / 2 ^ r < 18446744073709551616 := Nat.lt_of_le_of_lt (Nat.div_le_self _ _) hxlt
        have hwd : val (xs.drop q) / 2 ^ r / 18446744073709551616 ^ i = val (xs.drop (i + q)) / 2 ^ r := by
          rw [Nat.div_div_eq_div_mul, Nat.mul_comm, ← Nat.div_div_eq_div_mul, val_div_pow (hxw.drop q) (by simp; omega), List.drop_drop, Nat.add_comm q i]
        refine cp_region ?_
        refine stepK_d rfl rfl rfl hst (does_move rfl rfl) ?_
        refine stepK_d rfl rfl rfl hst (does_move rfl rfl) ?_
        refine stepK_d rfl rfl rfl hst (does_move rfl rfl) ?_
        refine stepK_d rfl rfl rfl hst (does_move rfl rfl) ?_
        refine stepK_d rfl rfl rfl hst (does_move rfl rfl) ?_
        refine stepK_d rfl rfl rfl hst (Does.int (does_add rfl rfl rfl) (wrap_i64 (by omega) (by omega))) ?_
        refine stepK_d rfl rfl rfl hst (does_indexAddr1 (j := (i + q)) rfl (by kernel_rfl : Program.underlying Tryd.prog 64 = some (.slice 66)) (by kernel_rfl) rfl rfl (by omega) (by omega)) ?_
        refine stepK_d rfl rfl rfl hst (does_load_g1 rfl (by kernel_rfl) rfl ((hb1.mono hst.le).at_ _ _ hx)) ?_
        refine stepK_d rfl rfl rfl hst (does_move rfl rfl) ?_
        refine stepK_d rfl rfl rfl hst (Does.nat (b := x / 2 ^ r) (does_shr_u64 rfl rfl rfl) (by rw [Nat.min_eq_left (by omega)])) ?_
        refine stepK_d rfl rfl rfl hst (does_indexAddr1 rfl (by kernel_rfl : Program.underlying Tryd.prog 64 = some (.slice 66)) (by kernel_rfl) rfl rfl rfl (by omega)) ?_
        refine stepK_store 0 rfl rfl rfl rfl rfl rfl (by kernel_rfl : sizeB Tryd.prog 66 = some 1) rfl rfl hst rfl (by first | (simp [uN_length]; omega) | simp) ?_
        clear hst
        intro w3 hst
        rw [Nat.zero_add, splice_uN _ _ _ _ (by omega)] at hst
        simp only [List.set_cons_zero] at hst
        refine wpK_nil ?_
        refine cp_then ?_
        refine cp_seq ?_
        refine cp_region ?_
        refine stepK_d rfl rfl rfl hst (does_move rfl rfl) ?_
        refine stepK_d rfl rfl rfl hst (does_gtr_n (b := 0) rfl rfl rfl) ?_
        refine stepK_d rfl rfl rfl hst (does_move rfl rfl) ?_
        refine wpK_split (t := 41) rfl ?_ ?_
        · intro s41
          refine stepK_guard rfl rfl rfl rfl rfl rfl hst (does_move rfl rfl) ?_
          refine stepK_guard rfl rfl rfl rfl rfl rfl hst (does_move rfl rfl) ?_
          refine stepK_guard rfl rfl rfl rfl rfl rfl hst (Does.int (does_add rfl rfl rfl) (wrap_i64 (by omega) (by omega))) ?_
          refine stepK_guard rfl rfl rfl rfl rfl rfl hst (Does.int (does_add rfl rfl rfl) (wrap_i64 (by omega) (by omega))) ?_
          refine stepK_guard rfl rfl rfl rfl rfl rfl hst (does_move rfl rfl) ?_
          refine stepK_guard rfl rfl rfl rfl rfl rfl hst (does_len_slice rfl (by kernel_rfl : Program.underlying Tryd.prog 64 = some (.slice 66)) rfl) ?_
          refine stepK_guard rfl rfl rfl rfl rfl rfl hst (does_lss rfl rfl rfl) ?_
          refine stepK_d rfl rfl rfl hst (does_pick_true rfl rfl rfl) ?_
          refine wpK_nil ?_
          refine cp_then ?_
          refine cp_if rfl ?_ ?_
          · intro c49
            obtain ⟨y, hy⟩ := get_of_lt (ws := xs) (j := i + 1 + q) (by omega)
            have hylt := hxw.get hy
            have hwi : (ws.set i (x / 2 ^ r))[i]? = some (x / 2 ^ r) := by rw [List.getElem?_set_self (by omega)]
            have h5 := shl_lo (x := y) (s := 64 - r) (by omega)
            rw [show 64 - (64 - r) = r by omega] at h5
            have hor : x / 2 ^ r ||| y * 2 ^ (64 - r) % 18446744073709551616 = x / 2 ^ r + y * 2 ^ (64 - r) % 18446744073709551616 := by
              rw [h5, or_low ((Nat.div_lt_iff_lt_mul (Nat.pow_pos (by decide))).2 (by rw [Nat.mul_comm, pow64 r (by omega)]; exact hxlt))]
            have hnew : x / 2 ^ r + y * 2 ^ (64 - r) % 18446744073709551616 < 18446744073709551616 := by
              have h6 : x / 2 ^ r < 2 ^ (64 - r) := (Nat.div_lt_iff_lt_mul (Nat.pow_pos (by decide))).2 (by rw [Nat.mul_comm, pow64 r (by omega)]; exact hxlt)
              have h7 : y % 2 ^ r * 2 ^ (64 - r) + 2 ^ (64 - r) ≤ 18446744073709551616 := by
                rw [← Nat.succ_mul, ← pow64 r (by omega)]
                exact Nat.mul_le_mul_right _ (Nat.mod_lt _ (Nat.pow_pos (by decide)))
              omega
            refine cp_drawn (by kernel_rfl) 16 [(0, true), (1, true), (2, true), (3, true), (4, true), (5, true), (6, true), (7, true), (8, true), (9, true), (10, true), (11, true), (12, true), (13, true), (14, true), (15, true)] _ rfl (by kernel_rfl) (by kernel_rfl) (by kernel_rfl) (fun _ _ _ _ _ h => h) _ (hst.drew) ?_
            have hst0 := hst.drew
            clear hst
            have hst := hst0
            refine stepD_d rfl rfl rfl rfl (does_move rfl rfl) ?_
            refine stepD_d rfl rfl rfl rfl (does_move rfl rfl) ?_
            refine stepD_d rfl rfl rfl rfl (does_indexAddr1 rfl (by kernel_rfl : Program.underlying Tryd.prog 64 = some (.slice 66)) (by kernel_rfl) rfl rfl rfl (by omega)) ?_
            refine stepD_d rfl rfl rfl rfl (does_load_own1 0 rfl (by kernel_rfl) rfl rfl (uN_arr_get (by rw [Nat.zero_add]; exact hwi))) ?_
            refine stepD_d rfl rfl rfl rfl (does_move rfl rfl) ?_
            refine stepD_d rfl rfl rfl rfl (does_move rfl rfl) ?_
            refine stepD_d rfl rfl rfl rfl (does_move rfl rfl) ?_
            refine stepD_d rfl rfl rfl rfl (Does.int (does_add rfl rfl rfl) (wrap_i64 (by omega) (by omega))) ?_
            refine stepD_d rfl rfl rfl rfl (Does.int (does_add rfl rfl rfl) (wrap_i64 (by omega) (by omega))) ?_
            refine stepD_d rfl rfl rfl rfl (does_indexAddr1 (j := (i + 1 + q)) rfl (by kernel_rfl : Program.underlying Tryd.prog 64 = some (.slice 66)) (by kernel_rfl) rfl rfl (by omega) (by omega)) ?_
            refine stepD_d rfl rfl rfl rfl (does_load_g1 rfl (by kernel_rfl) rfl ((hb1.mono hst.le).at_ _ _ hy)) ?_
            refine stepD_d rfl rfl rfl rfl (does_move rfl rfl) ?_
            refine stepD_d rfl rfl rfl rfl (Does.nat (b := 64 - r) (does_sub_u64 (a := 64) rfl rfl rfl) (by omega)) ?_
            refine stepD_d rfl rfl rfl rfl (Does.nat (b := y * 2 ^ (64 - r) % 18446744073709551616) (does_shl_u64 rfl rfl rfl) (by rw [Nat.min_eq_left (by omega)])) ?_
            refine stepD_d rfl rfl rfl rfl (Does.nat (b := x / 2 ^ r + y * 2 ^ (64 - r) % 18446744073709551616) (does_or_u64 rfl rfl rfl hx2 (Nat.mod_lt _ (by decide))) (by rw [hor])) ?_
            refine stepD_d rfl rfl rfl rfl (does_indexAddr1 rfl (by kernel_rfl : Program.underlying Tryd.prog 64 = some (.slice 66)) (by kernel_rfl) rfl rfl rfl (by omega)) ?_
            refine stepD_tail ?_
            refine stepK_store 0 rfl rfl rfl rfl rfl rfl (by kernel_rfl : sizeB Tryd.prog 66 = some 1) rfl rfl hst rfl (by first | (simp [uN_length]; omega) | simp) ?_
            clear hst
            intro w4 hst
            rw [Nat.zero_add, splice_uN _ _ _ _ (by simp; omega)] at hst
            simp only [List.set_cons_zero] at hst
            refine wpK_nil ?_
            refine at_block_normal ?_
            refine cp_then ?_
            refine cp_region ?_
            refine stepK_d rfl rfl rfl hst (Does.int (does_add rfl rfl rfl) (wrap_i64 (by omega) (by omega))) ?_
            refine stepK_d rfl rfl rfl hst (does_move rfl rfl) ?_
            refine wpK_nil ?_
            refine round_end ((i + 1, (ws.set i (x / 2 ^ r)).set i (x / 2 ^ r + y * 2 ^ (64 - r) % 18446744073709551616))) ?_ ?_ ?_
            · exact ⟨rfl, rfl, rfl, rfl, rfl, rfl, trivial⟩
            · refine ⟨_, hst, by omega, (hws.set hx2).set hnew, by simp [hwl], ?_⟩
              rw [val_take_set (by simp; omega), take_set_le, hv, mod_pow_step, hwd, val_drop_get hx, show i + q + 1 = i + 1 + q by omega, val_drop_get hy, right_word hr64 hxlt]
            · show m - (i + 1) < m - i
              omega
          · intro c49
            refine cp_skip ?_
            refine at_block_normal ?_
            refine cp_then ?_
            refine cp_region ?_
            refine stepK_d rfl rfl rfl hst (Does.int (does_add rfl rfl rfl) (wrap_i64 (by omega) (by omega))) ?_
            refine stepK_d rfl rfl rfl hst (does_move rfl rfl) ?_
            refine wpK_nil ?_
            refine round_end ((i + 1, ws.set i (x / 2 ^ r))) ?_ ?_ ?_
            · exact ⟨rfl, rfl, rfl, rfl, rfl, rfl, trivial⟩
            · refine ⟨_, hst, by omega, hws.set hx2, by simp [hwl], ?_⟩
              rw [val_take_set (by omega), hv, mod_pow_step, hwd, val_drop_get hx, List.drop_eq_nil_of_le (show xs.length ≤ i + q + 1 by omega)]
              simp only [val, Nat.mul_zero, Nat.add_zero]
              rw [Nat.mod_eq_of_lt hx2]
            · show m - (i + 1) < m - i
              omega
        · intro s41
          refine stepK_pass rfl rfl rfl rfl rfl rfl rfl ?_
          refine stepK_pass rfl rfl rfl rfl rfl rfl rfl ?_
          refine stepK_pass rfl rfl rfl rfl rfl rfl rfl ?_
          refine stepK_pass rfl rfl rfl rfl rfl rfl rfl ?_
          refine stepK_pass rfl rfl rfl rfl rfl rfl rfl ?_
          refine stepK_pass rfl rfl rfl rfl rfl rfl rfl ?_
          refine stepK_pass rfl rfl rfl rfl rfl rfl rfl ?_
          refine stepK_d rfl rfl rfl hst (does_pick_false rfl rfl rfl) ?_
          refine wpK_nil ?_
          refine cp_then ?_
          refine cp_cond_false rfl ?_
          refine cp_skip ?_
          refine at_block_normal ?_
          refine cp_then ?_
          refine cp_region ?_
          refine stepK_d rfl rfl rfl hst (Does.int (does_add rfl rfl rfl) (wrap_i64 (by omega) (by omega))) ?_
          refine stepK_d rfl rfl rfl hst (does_move rfl rfl) ?_
          refine wpK_nil ?_
          refine round_end ((i + 1, ws.set i (x / 2 ^ r))) ?_ ?_ ?_
          · exact ⟨rfl, rfl, rfl, rfl, rfl, rfl, trivial⟩
          · have hr0 : r = 0 := by omega
            refine ⟨_, hst, by omega, hws.set hx2, by simp [hwl], ?_⟩
            rw [val_take_set (by omega), hv, mod_pow_step, hwd, val_drop_get hx, hr0, Nat.pow_zero]
            simp only [Nat.div_one]
            rw [Nat.add_mul_mod_self_left, Nat.mod_eq_of_lt hxlt]
          · show m - (i + 1) < m - i
            omega
      · intro c26
        refine cp_exit ?_
        refine at_then_exit ?_
        refine at_then_exit ?_
        refine cp_exit_here ?_
        refine cp_then ?_
        refine cp_seq ?_
        refine cp_region ?_
        refine stepK_d rfl rfl rfl hst (does_move rfl rfl) ?_
        obtain ⟨hst, hle2⟩ := hst.publish 0 rfl
        obtain rfl : m = i := by omega
        have hval : val ws = val xs / 2 ^ s := by
          rw [val_all (ws := ws) (by omega)] at hv
          have h1 := val_lt (hxw.drop q)
          rw [List.length_drop, hlx, ← hm] at h1
          rw [hv, Nat.mod_eq_of_lt (Nat.lt_of_le_of_lt (Nat.div_le_self _ _) h1), ← val_div_pow hxw (by omega), Nat.div_div_eq_div_mul]
          congr 1
          rw [show (18446744073709551616 : Nat) = 2 ^ 64 by decide, ← Nat.pow_mul, ← Nat.pow_add]
          congr 1
          omega
        refine stepK_call rfl rfl rfl rfl rfl hst (num_trim hst.agree (ws := ws) (by rw [← hwl]; exact SlN.put_uN) hws (by omega) (by omega)) ?_
        clear hst
        intro v5 g5 w5 hst hle5 hcs5 hp5
        obtain ⟨A5, n5, c5, rfl, hn5⟩ := hp5
        refine stepK_d rfl rfl rfl hst (does_assign rfl rfl) ?_
        refine wpK_nil ?_
        refine cp_then ?_
        refine cp_ret ?_
        refine ret1 rfl rfl hst ?_
        refine ⟨_, _, _, rfl, ?_⟩
        rw [← hval]
        assumption

end Go.Proofs.YtbamjcfdlgnicaaDoor

namespace Go.Proofs.Vc
open Go Go.RowKit
set_option linter.unusedVariables false
set_option linter.unusedSimpArgs false
set_option linter.unusedSectionVars false
/-- what a call comes to that may write block b -/
def RetM (w : World) (b : Nat) (g : Mem) (Post : Value → Mem → Obj → Prop) (e : Ending) (w' : World) : Prop := ∃ v g' o', e = .returned v ∧ St w [b] g g' [(b, o')] w' ∧ Post v g' o'
section
variable {P : Program} {ops : Array Oper} {Q : Exit → Act → World → Prop} {n : Nat} {kn : Kn} {o : Oper} {rest : List Oper} {w0 w w' : World} {M : List Nat} {g0 g g' : Mem} {own own' : List (Nat × Obj)} {d : Nat} {fn : Func}
theorem retM1 {b : Nat} {ob : Obj} {Post : Value → Mem → Obj → Prop} {t : Tmp} {v : Value} (hr : fn.results = #[.tmp t]) (hv : kget kn t = some v) (hst : St w0 [b] g0 g [(b, ob)] w) (h : Post v g ob) : atK (bodyPost P fn (RetM w0 b g0 Post) .ret) n kn w := fun a ha =>
  ⟨ha.defers, v, by rw [results_tmp hr, ha.get t v hv], v, g, ob, rfl, hst, h⟩
theorem St.callM (h : St w0 M g0 g own w) (k : Nat) {b : Nat} {ob ob' : Obj} (hk : own[k]? = some (b, ob)) (s : St w [b] g g' [(b, ob')] w') : St w0 M g0 g' (own.set k (b, ob')) w' ∧ g.le g' := by
  have hm := List.mem_of_getElem? hk
  obtain ⟨e1, e2, e3⟩ := h.owns _ hm
  simp only at e1 e2 e3
  obtain ⟨f1, f2, f3⟩ := s.owns (b, ob') (by simp)
  simp only at f1 f2
  have hlt : k < own.length := by
    rcases Nat.lt_or_ge k own.length with hl | hl
    · exact hl
    · rw [List.getElem?_eq_none hl] at hk; cases hk
  refine ⟨⟨s.os.trans h.os, s.tape.trans h.tape, s.output.trans h.output, Nat.le_trans h.size s.size, ?_, s.agree, h.le.trans s.le, ?_, ?_, ?_⟩, s.le⟩
  · intro j hj hM
    have hne : j ≠ b := by
      intro e
      subst e
      rcases e3 with e3 | e3
      · omega
      · exact hM e3
    rw [s.block j (Nat.lt_of_lt_of_le hj h.size) (by simpa using hne)]
    exact h.block j hj hM
  · intro j hj
    rw [s.ext j (Nat.lt_of_lt_of_le hj h.size)]
    exact h.ext j hj
  · intro p hp
    rw [List.mem_iff_getElem?] at hp
    obtain ⟨j, hj⟩ := hp
    by_cases hjk : k = j
    · subst hjk
      rw [List.getElem?_set_self hlt] at hj
      cases hj
      exact ⟨f1, f2, e3⟩
    · rw [List.getElem?_set_ne hjk] at hj
      have hpm := List.mem_of_getElem? hj
      obtain ⟨q1, q2, q3⟩ := h.owns p hpm
      have hne : p.1 ≠ b := by
        intro e
        have hn := h.nodup
        have e4 : (own.map Prod.fst)[j]? = some p.1 := by simp [hj]
        have e5 : (own.map Prod.fst)[k]? = some b := by simp [hk]
        rw [e] at e4
        have e6 := (List.getElem?_inj (i := j) (j := k) (by
          rcases Nat.lt_or_ge j (own.map Prod.fst).length with hl | hl
          · exact hl
          · rw [List.getElem?_eq_none hl] at e4; cases e4) hn).1 (e4.trans e5.symm)
        exact hjk e6.symm
      have hlt2 := h.own_lt hpm
      exact ⟨by rw [s.block _ hlt2 (by simpa using hne)]; exact q1, by rw [s.ext _ hlt2]; exact q2, q3⟩
  · have : (own.set k (b, ob')).map Prod.fst = own.map Prod.fst := by
      rw [List.map_set]
      apply List.ext_getElem?
      intro j
      by_cases hjk : k = j
      · subst hjk
        rw [List.getElem?_set_self (by simpa using hlt)]
        simp [hk]
      · rw [List.getElem?_set_ne hjk]
    rw [this]
    exact h.nodup
theorem stepK_callM {f : FuncId} {args : List Operand} {ts : Array TypeId} {vs : List Value} {b : Nat} {ob : Obj} {Post : Value → Mem → Obj → Prop} (k : Nat) (hdst : o.dst = some d) (hg : o.guard = none) (hd : Nat.ble (d + 1) n = true) (ho : o.op = .call { callee := .value (.func f), args := args.toArray, argTypes := ts })
    (hvs : kevs kn args = some vs) (hst : St w0 M g0 g own w) (hk : own[k]? = some (b, ob)) (hc : CallTo P f vs.toArray w (RetM w b g Post))
    (h : ∀ v g' o' w', St w0 M g0 g' (own.set k (b, o')) w' → g.le g' → Post v g' o' → wpK P ops Q n rest ((d, v) :: kn) w') : wpK P ops Q n (o :: rest) kn w := by
  intro a ha
  refine wpList_plain hg fun K hK => ?_
  refine oper_call ho ha hvs hc fun e w' hr => ?_
  obtain ⟨v, g', o', rfl, hs, hp⟩ := hr
  refine ⟨v, rfl, hK _ _ ?_⟩
  have hx := hst.callM k hk hs
  rw [hdst]
  exact h v g' o' w' hx.1 hx.2 hp _ (ha.put (Nat.le_of_ble_eq_true hd) v)
/-- copy to the head of the k-th own block -/
theorem stepK_copy {x y : Operand} {dT sT e t : TypeId} {b L c1 m c2 : Nat} {ad : Addr} {cs : List Value} {cur : Array Value} (k : Nat) (hdst : o.dst = some d) (hg : o.guard = none) (hd : Nat.ble (d + 1) n = true)
    (ho : o.op = .call { callee := .builtin .copy, args := #[x, y], argTypes := #[dT, sT] }) (hu : P.underlying dT = some (.slice e)) (hsz : (P.info? e).map (·.size) = some 1)
    (hx : kev kn x = some (.slice (some ⟨b, 0, none⟩) L c1)) (hy : kev kn y = some (.slice (some ad) m c2)) (hst : St w0 M g0 g own w) (hk : own[k]? = some (b, .cells cur t (0, 0)))
    (hn : cs.length = Nat.min m L) (hsrc : ∀ j v, cs[j]? = some v → w.cell? (ad.add j) = some v) (hfit : cs.length ≤ cur.size) (h1 : ∀ v ∈ cs, v.oneCell' = true)
    (h : ∀ w', St w0 M g0 g (own.set k (b, .cells (splice cur 0 cs) t (0, 0))) w' → wpK P ops Q n rest ((d, .int .i64 (cs.length : Int)) :: kn) w') : wpK P ops Q n (o :: rest) kn w := by
  have hb := (hst.owns _ (List.mem_of_getElem? hk)).1
  simp only at hb
  refine stepK_run hdst hg hd (v := .int .i64 (cs.length : Int)) (w' := w.setRow b (splice cur 0 cs)) (fun ρ hρ => ?_) (h _ (hst.setRow k _ hk))
  have h2 := hρ x _ hx
  have h3 := hρ y _ hy
  have hr := run_copy_row (P := P) w dT sT o.type e b 0 L c1 ad m c2 cur t cs hu hsz hb hn hsrc (by omega) h1
  simp only [execOp, ho, resolve, invoke, builtin, Sem.run_bind, Sem.run_pure, Result.andThen_ok, List.map_toArray, List.map_cons, List.map_nil, h2, h3, hr]
  rfl
/-- a copy of a slice of numbers: append to nil -/
theorem stepK_append_copy {t e : TypeId} {x y : Operand} {z : Value} {by_ m c : Nat} {k : IntKind} {ws : List Nat} {A : Option Addr} (hdst : o.dst = some d) (hg : o.guard = none) (hd : Nat.ble (d + 1) n = true)
    (ho : o.op = .call { callee := .builtin .append, args := #[x, y], argTypes := #[t, t] }) (hu : P.underlying t = some (.slice e)) (he : elemInfo P e = some (z, 1, by_)) (hzs : z.cells.size = 1)
    (hx : kev kn x = some (.slice none 0 0)) (hy : kev kn y = some (.slice A m c)) (hst : St w0 [] g0 g own w) (hs : SlN g k A m ws) (hb : m * by_ ≤ 140737488355328) (hm : m ≤ 140737488355328)
    (h : ∀ A' c' g' w', St w0 [] g0 g' own w' → g.le g' → SlN g' k A' m ws → wpK P ops Q n rest ((d, .slice A' m c') :: kn) w') : wpK P ops Q n (o :: rest) kn w := by
  rcases Nat.eq_zero_or_pos m with h0 | h0
  · subst h0
    obtain rfl : ws = [] := List.eq_nil_of_length_eq_zero hs.1
    refine stepK_run hdst hg hd (v := .slice none 0 0) (w' := w) (fun ρ hρ => ?_) (h none 0 g w hst (Mem.le.refl g) (SlN.nil g k))
    have h2 := hρ x _ hx
    have h3 := hρ y _ hy
    obtain ⟨i, hi, hz', hsz, hbb⟩ := elemInfo_spec he
    have hr : (Builtin.append_ #[t, t] o.type #[.slice none 0 0, .slice A 0 c]).run P w = .ok (.slice none 0 0) w := by
      cases A with
      | none => simp [Builtin.append_, run_underlying hu, sizeOf, typeInfo, zeroValue, hi, hz', Builtin.lenOf, Builtin.firstCells]
      | some a => simp [Builtin.append_, run_underlying hu, sizeOf, typeInfo, zeroValue, hi, hz', Builtin.lenOf, Builtin.firstCells, loadCells, loadCellsFrom]
    simp only [execOp, ho, resolve, invoke, builtin, Sem.run_bind, Sem.run_pure, Result.andThen_ok, List.map_toArray, List.map_cons, List.map_nil, h2, h3, hr]
  · obtain ⟨b, off, rfl, hc⟩ := hs.some_ h0
    refine stepK_append (xs := []) (news := uN k ws) (m := 0) hdst hg hd ho hu he hzs (by decide) hx hy (Row.nil hst) (by rw [uN_length, hs.1, Nat.mul_one]) (fun j u hj => ?_) (fun u hu => ?_) (by rw [Nat.zero_add]; exact hb) (by omega) (fun v' w' hrow => ?_)
    · rw [uN_get] at hj
      cases hw : ws[j]? with
      | none => rw [hw] at hj; cases hj
      | some x =>
        rw [hw] at hj
        cases hj
        rw [addr_add]
        exact hst.agree.cell (hc.at_ j x hw)
    · obtain ⟨x, _, rfl⟩ := List.mem_map.1 hu
      rfl
    · rw [Nat.zero_add, List.nil_append] at hrow
      obtain ⟨g', A', c', rfl, hc', hst', hle', hsv⟩ := hrow.publish
      exact h A' c' g' w' hst' hle' (SlV.toN hsv hs.1)
end
section
variable {P : Program} {ops : Array Oper} {Q : Exit → Act → World → Prop} {n : Nat} {kn : Kn} {w : World} {S : World → Prop}
/-- the guard's operation did not run itself -/
theorem stepK_passU {o : Oper} {rest : List Oper} {d j t : Nat} {oj : Oper} {b : Bool} (hdst : o.dst = some d) (hg : o.guard = some (j, b)) (hj : ops[j]? = some oj) (ht : oj.dst = some t)
    (hb : kget kn t = some undef) (hd : Nat.ble (d + 1) n = true)
    (h : wpK P ops Q n rest ((d, undef) :: kn) w) : wpK P ops Q n (o :: rest) kn w := by
  intro a ha
  have hw : Region.wanted o (yielded ops a.tmps) = false := by
    have h1 := ha.get t _ hb
    have h2 : yielded ops a.tmps j = none := by
      unfold yielded
      rw [hj, Option.bind_some, ht, Option.bind_some]
      rw [Array.getD_eq_getD_getElem?] at h1
      cases hx : a.tmps[t]? with
      | none => rfl
      | some v =>
        rw [hx] at h1
        simp only [Option.getD_some] at h1
        subst h1
        rfl
    simp [Region.wanted, hg, h2]
  unfold wpList
  rw [if_neg (by simp [hw]), hdst]
  exact h _ (ha.put (Nat.le_of_ble_eq_true hd) undef)
end
/-! segments of a row of words -/
theorem drop_get {ws : List Nat} {j i : Nat} : (ws.drop j)[i]? = ws[j + i]? := by rw [List.getElem?_drop]
theorem seg_succ {ws : List Nat} {j i x : Nat} (h : ws[j + i]? = some x) : val ((ws.drop j).take (i + 1)) = val ((ws.drop j).take i) + 18446744073709551616 ^ i * x := val_take_succ (by rw [drop_get]; exact h)
theorem drop_set_eq {ws : List Nat} {j i z : Nat} : (ws.set (j + i) z).drop j = (ws.drop j).set i z := by
  rw [List.drop_set]
  rw [if_neg (by omega)]
  congr 1
  omega
theorem seg_set {ws : List Nat} {j i z : Nat} (h : j + i < ws.length) : val (((ws.set (j + i) z).drop j).take (i + 1)) = val ((ws.drop j).take i) + 18446744073709551616 ^ i * z := by
  rw [drop_set_eq, val_take_set (by rw [List.length_drop]; omega)]
theorem take_set_out {ws : List Nat} {j k z : Nat} (h : j ≤ k) : (ws.set k z).take j = ws.take j := by
  rw [List.take_set]
  rw [List.set_eq_of_length_le (by rw [List.length_take]; omega)]
theorem drop_set_out {ws : List Nat} {j k z : Nat} (h : k < j) : (ws.set k z).drop j = ws.drop j := by
  rw [List.drop_set]
  rw [if_pos h]
theorem get_drop_eq {ws us : List Nat} {j i : Nat} (h : ws.drop j = us.drop j) (hi : j ≤ i) : ws[i]? = us[i]? := by
  have h1 := drop_get (ws := ws) (j := j) (i := i - j)
  rw [h, drop_get, show j + (i - j) = i by omega] at h1
  exact h1.symm
theorem drop_more {ws us : List Nat} {j k : Nat} (h : ws.drop j = us.drop j) (hk : j ≤ k) : ws.drop k = us.drop k := by
  have h1 : ws.drop k = (ws.drop j).drop (k - j) := by rw [List.drop_drop]; congr 1; omega
  rw [h1, h, List.drop_drop]
  congr 1
  omega
/-- a word of takeAway -/
theorem take_word {p u cy bo : Nat} (hp : p ≤ 340282366920938463426481119284349108225) (hu : u < 18446744073709551616) (hcy : cy < 18446744073709551616) (hbo : bo ≤ 1) :
    (u + 18446744073709551616 - (p % 18446744073709551616 + cy + 0) % 18446744073709551616 - bo) % 18446744073709551616 + p + cy + bo =
      u + ((p / 18446744073709551616 + (p % 18446744073709551616 + cy + 0) / 18446744073709551616) % 18446744073709551616 + (if u < (p % 18446744073709551616 + cy + 0) % 18446744073709551616 + bo then 1 else 0)) * 18446744073709551616 := by
  have h1 := Nat.div_add_mod p 18446744073709551616
  have h2 := Nat.div_add_mod (p % 18446744073709551616 + cy + 0) 18446744073709551616
  have h3 : p % 18446744073709551616 < 18446744073709551616 := Nat.mod_lt _ (by decide)
  have h4 : (p % 18446744073709551616 + cy + 0) % 18446744073709551616 < 18446744073709551616 := Nat.mod_lt _ (by decide)
  generalize (p % 18446744073709551616 + cy + 0) % 18446744073709551616 = lo at *
  generalize (p % 18446744073709551616 + cy + 0) / 18446744073709551616 = c at *
  generalize p % 18446744073709551616 = pl at *
  generalize p / 18446744073709551616 = ph at *
  by_cases hlt : u < lo + bo
  · rw [if_pos hlt]; omega
  · rw [if_neg hlt]; omega
theorem mul_bound {a b : Nat} (ha : a < 18446744073709551616) (hb : b < 18446744073709551616) : a * b ≤ 340282366920938463426481119284349108225 :=
  Nat.le_trans (Nat.mul_le_mul (show a ≤ 18446744073709551615 by omega) (show b ≤ 18446744073709551615 by omega)) (by decide)
theorem take_step {S V U z x d u cy bo cn bn p : Nat} (h : S + d * V = U + (cy + bo) * p) (hw : z + d * x + cy + bo = u + (cn + bn) * 18446744073709551616) : S + p * z + d * (V + p * x) = U + p * u + (cn + bn) * (p * 18446744073709551616) := by grind
theorem put_step {S V U z x u cy cn p : Nat} (h : S + cy * p = U + V) (hw : z + cn * 18446744073709551616 = u + x + cy) : S + p * z + cn * (p * 18446744073709551616) = U + p * u + (V + p * x) := by grind
theorem val_take_mod {ws : List Nat} (hw : Words ws) (n : Nat) : val (ws.take n) = val ws % 18446744073709551616 ^ n := by
  rcases Nat.le_total n ws.length with h | h
  · rw [val_split ws n h]
    have h1 := val_lt (hw.take n)
    rw [List.length_take, Nat.min_eq_left h] at h1
    rw [Nat.add_mul_mod_self_left, Nat.mod_eq_of_lt h1]
  · rw [val_all h, Nat.mod_eq_of_lt]
    exact Nat.lt_of_lt_of_le (val_lt hw) (Nat.pow_le_pow_right (by decide) h)
/-! the guess of a digit -/
theorem mul_div_mod64 (a b : Nat) : a * b = a * b / 18446744073709551616 * 18446744073709551616 + a * b % 18446744073709551616 := (Nat.div_add_mod' ..).symm
theorem guess_start {u v1 v0 u0 p : Nat} (hp : 0 < v1) (h0 : u0 < 18446744073709551616) (h : p * (v1 * 18446744073709551616 + v0) ≤ u * 18446744073709551616 + u0) : p ≤ u / v1 := by
  rw [Nat.le_div_iff_mul_le hp]
  have e : p * (v1 * 18446744073709551616 + v0) = p * v1 * 18446744073709551616 + p * v0 := by grind
  rw [e] at h
  generalize p * v1 = a at *
  generalize p * v0 = b at *
  omega
theorem guess_down {u v1 v0 u0 p q r : Nat} (he : q * v1 + r = u) (hgt : r * 18446744073709551616 + u0 < q * v0) (hle : p ≤ q) (h : p * (v1 * 18446744073709551616 + v0) ≤ u * 18446744073709551616 + u0) : p ≤ q - 1 := by
  rcases Nat.lt_or_ge p q with hl | hl
  · omega
  · obtain rfl : p = q := by omega
    have e : p * (v1 * 18446744073709551616 + v0) = p * v1 * 18446744073709551616 + p * v0 := by grind
    rw [e] at h
    generalize p * v1 = a at *
    generalize p * v0 = b at *
    omega
theorem take_last {u cy bo : Nat} (hu : u < 18446744073709551616) (hcy : cy < 18446744073709551616) (hbo : bo ≤ 1) :
    (u + 18446744073709551616 - cy - bo) % 18446744073709551616 + cy + bo = u + (if u < cy + bo then 1 else 0) * 18446744073709551616 := by
  by_cases hlt : u < cy + bo
  · rw [if_pos hlt]; omega
  · rw [if_neg hlt]; omega
theorem take_end {S V U z d u cy bo bn p : Nat} (h : S + d * V = U + (cy + bo) * p) (hw : z + cy + bo = u + bn * 18446744073709551616) : S + p * z + d * V = U + p * u + bn * (p * 18446744073709551616) := by grind
theorem ite_le_one {p : Prop} [Decidable p] : (if p then 1 else 0 : Nat) ≤ 1 := by split <;> decide
end Go.Proofs.Vc

namespace Go.Proofs.YtbamjcfdlgnicaaDoor
open Go Go.RowKit Go.Proofs.Vc
set_option linter.unusedVariables false
set_option linter.unusedSimpArgs false

set_option maxHeartbeats 1000000 in
theorem num_guess {g : Mem} {w : World} (hag : Agree g w) {u2 u1 u0 v1 v0 : Nat} (h2 : u2 < 18446744073709551616) (h1 : u1 < 18446744073709551616) (h0 : u0 < 18446744073709551616) (hv1 : v1 < 18446744073709551616) (hv0 : v0 < 18446744073709551616) (hp : 0 < v1) :
    CallTo Tryd.prog 78 #[.int .u64 (u2 : Int), .int .u64 (u1 : Int), .int .u64 (u0 : Int), .int .u64 (v1 : Int), .int .u64 (v0 : Int)] w (Ret w g fun v g => ∃ d : Nat, v = .int .u64 (d : Int) ∧ d < 18446744073709551616 ∧ ∀ q : Nat, q < 18446744073709551616 → q * (v1 * 18446744073709551616 + v0) ≤ (u2 * 18446744073709551616 + u1) * 18446744073709551616 + u0 → q ≤ d) := by
  refine CallTo.enter (vs := [.int .u64 (u2 : Int), .int .u64 (u1 : Int), .int .u64 (u0 : Int), .int .u64 (v1 : Int), .int .u64 (v0 : Int)]) (by kernel_rfl : Tryd.prog.funcs[78]? = some Tryd.f78) (by kernel_rfl) rfl rfl rfl ?_
  have hst := St.init hag
  refine cp_seq ?_
  refine cp_region ?_
  refine stepK_d rfl rfl rfl hst (does_assign rfl rfl) ?_
  refine wpK_nil ?_
  refine cp_then ?_
  refine cp_seq ?_
  refine cp_seq ?_
  refine cp_region ?_
  refine stepK_d rfl rfl rfl hst (does_move rfl rfl) ?_
  refine stepK_d rfl rfl rfl hst (does_move rfl rfl) ?_
  refine stepK_d rfl rfl rfl hst (does_geq_n rfl rfl rfl) ?_
  refine wpK_nil ?_
  refine cp_then ?_
  refine cp_if rfl ?_ ?_
  · intro c18
    refine cp_seq ?_
    refine cp_region ?_
    refine stepK_d rfl rfl rfl hst (does_assign rfl rfl) ?_
    refine wpK_nil ?_
    refine cp_then ?_
    refine cp_ret ?_
    refine at_then_ret ?_
    refine ret1 rfl rfl hst ?_
    exact ⟨18446744073709551615, rfl, by decide, fun q hq _ => by omega⟩
  · intro c18
    refine cp_skip ?_
    refine cp_then ?_
    refine cp_seq ?_
    refine cp_region ?_
    refine stepK_d rfl rfl rfl hst (does_move rfl rfl) ?_
    refine stepK_d rfl rfl rfl hst (does_move rfl rfl) ?_
    refine stepK_d rfl rfl rfl hst (does_move rfl rfl) ?_
    refine stepK_call rfl rfl rfl rfl rfl hst (bits_Div64 hst.agree (by omega) h1 hv1 hp) ?_
    clear hst
    intro v1 g1 w1 hst hle1 hcs1 hp1
    obtain rfl := hp1
    refine stepK_d rfl rfl rfl hst (does_move rfl rfl) ?_
    refine stepK_d rfl rfl rfl hst (does_extract rfl rfl rfl) ?_
    refine stepK_d rfl rfl rfl hst (does_extract rfl rfl rfl) ?_
    refine stepK_d rfl rfl rfl hst (does_assign rfl rfl) ?_
    refine stepK_d rfl rfl rfl hst (does_assign rfl rfl) ?_
    refine wpK_nil ?_
    refine cp_then ?_
    refine cp_block ?_
    refine cp_loop (ι := Nat × Nat) (fun (q, r) => [(0, .int .u64 (u2 : Int)), (1, .int .u64 (u1 : Int)), (2, .int .u64 (u0 : Int)), (3, .int .u64 (v1 : Int)), (4, .int .u64 (v0 : Int)), (11, .int .u64 (q : Int)), (12, .int .u64 (r : Int))]) (fun (q, r) w1 => ∃ g1, St w [] g g1 [] w1 ∧ q < 18446744073709551616 ∧ r < 18446744073709551616 ∧ q * v1 + r = u2 * 18446744073709551616 + u1 ∧ ∀ p : Nat, p * (v1 * 18446744073709551616 + v0) ≤ (u2 * 18446744073709551616 + u1) * 18446744073709551616 + u0 → p ≤ q) (fun (q, r) => q) ((u2 * 18446744073709551616 + u1) / v1, (u2 * 18446744073709551616 + u1) % v1) ?k2 ?i2 ?r2
    case k2 => exact ⟨rfl, rfl, rfl, rfl, rfl, rfl, rfl, trivial⟩
    case i2 =>
      exact ⟨_, hst, byWord_lt (by omega) h1, Nat.lt_trans (Nat.mod_lt _ hp) hv1, Nat.div_add_mod' .., fun p h => guess_start hp h0 h⟩
    case r2 =>
      clear hst
      rintro ⟨q, r⟩ w1 ⟨g1, hst, hq, hr, he, hmax⟩
      refine cp_block ?_
      refine cp_seq ?_
      refine cp_region ?_
      refine stepK_d rfl rfl rfl hst (does_move rfl rfl) ?_
      refine stepK_d rfl rfl rfl hst (does_move rfl rfl) ?_
      refine stepK_call rfl rfl rfl rfl rfl hst (bits_Mul64 hst.agree (by first | assumption | rfl | omega | (simp; done)) (by first | assumption | rfl | omega | (simp; done))) ?_
      clear hst
      intro v3 g3 w3 hst hle3 hcs3 hp3
      obtain rfl := hp3
      refine stepK_d rfl rfl rfl hst (does_move rfl rfl) ?_
      refine stepK_d rfl rfl rfl hst (does_extract rfl rfl rfl) ?_
      refine stepK_d rfl rfl rfl hst (does_extract rfl rfl rfl) ?_
      refine stepK_d rfl rfl rfl hst (does_assign rfl rfl) ?_
      refine stepK_d rfl rfl rfl hst (does_assign rfl rfl) ?_
      refine wpK_nil ?_
      refine cp_then ?_
      refine cp_seq ?_
      refine cp_seq ?_
      have hbig := mul_div_mod64 q v0
      obtain ⟨hi, hhi⟩ : ∃ hi, hi = q * v0 / 18446744073709551616 := ⟨_, rfl⟩
      obtain ⟨lo, hlo⟩ : ∃ lo, lo = q * v0 % 18446744073709551616 := ⟨_, rfl⟩
      rw [← hhi, ← hlo] at hbig ⊢
      have hlol : lo < 18446744073709551616 := by rw [hlo]; exact Nat.mod_lt _ (by decide)
      clear hhi hlo
      refine cp_region ?_
      refine stepK_d rfl rfl rfl hst (does_move rfl rfl) ?_
      refine stepK_d rfl rfl rfl hst (does_move rfl rfl) ?_
      refine stepK_d rfl rfl rfl hst (does_lss_n rfl rfl rfl) ?_
      refine stepK_d rfl rfl rfl hst (does_move rfl rfl) ?_
      refine wpK_split (t := 35) rfl ?_ ?_
      · intro s35
        refine stepK_pass rfl rfl rfl rfl rfl rfl rfl ?_
        refine stepK_pass rfl rfl rfl rfl rfl rfl rfl ?_
        refine stepK_pass rfl rfl rfl rfl rfl rfl rfl ?_
        refine stepK_pass rfl rfl rfl rfl rfl rfl rfl ?_
        refine stepK_passU rfl rfl rfl rfl rfl rfl ?_
        refine stepK_passU rfl rfl rfl rfl rfl rfl ?_
        refine stepK_passU rfl rfl rfl rfl rfl rfl ?_
        refine stepK_pass rfl rfl rfl rfl rfl rfl rfl ?_
        refine stepK_d rfl rfl rfl hst (does_pick_true rfl rfl rfl) ?_
        refine wpK_nil ?_
        refine cp_then ?_
        refine cp_cond_true rfl ?_
        refine cp_seq ?_
        refine cp_region ?_
        refine stepK_d rfl rfl rfl hst (does_move rfl rfl) ?_
        refine stepK_d rfl rfl rfl hst (does_assign rfl rfl) ?_
        refine wpK_nil ?_
        refine cp_then ?_
        refine cp_ret ?_
        refine at_then_ret ?_
        refine at_block_ret ?_
        refine at_then_ret ?_
        refine at_block_ret ?_
        refine ret1 rfl rfl hst ?_
        exact ⟨_, rfl, hq, fun p _ h => hmax p h⟩
      · intro s35
        refine stepK_guard rfl rfl rfl rfl rfl rfl hst (does_move rfl rfl) ?_
        refine stepK_guard rfl rfl rfl rfl rfl rfl hst (does_move rfl rfl) ?_
        refine stepK_guard rfl rfl rfl rfl rfl rfl hst (does_eql_n rfl rfl rfl) ?_
        refine stepK_guard rfl rfl rfl rfl rfl rfl hst (does_move rfl rfl) ?_
        refine wpK_split (t := 39) rfl ?_ ?_
        · intro s39
          refine stepK_guard rfl rfl rfl rfl rfl rfl hst (does_move rfl rfl) ?_
          refine stepK_guard rfl rfl rfl rfl rfl rfl hst (does_move rfl rfl) ?_
          refine stepK_guard rfl rfl rfl rfl rfl rfl hst (does_leq_n rfl rfl rfl) ?_
          refine stepK_guard rfl rfl rfl rfl rfl rfl hst (does_pick_true rfl rfl rfl) ?_
          refine stepK_d rfl rfl rfl hst (does_pick_false rfl rfl rfl) ?_
          refine wpK_nil ?_
          refine cp_then ?_
          refine cp_if rfl ?_ ?_
          · intro c44
            refine cp_seq ?_
            refine cp_region ?_
            refine stepK_d rfl rfl rfl hst (does_move rfl rfl) ?_
            refine stepK_d rfl rfl rfl hst (does_assign rfl rfl) ?_
            refine wpK_nil ?_
            refine cp_then ?_
            refine cp_ret ?_
            refine at_then_ret ?_
            refine at_block_ret ?_
            refine at_then_ret ?_
            refine at_block_ret ?_
            refine ret1 rfl rfl hst ?_
            exact ⟨_, rfl, hq, fun p _ h => hmax p h⟩
          · intro c44
            refine cp_skip ?_
            refine cp_then ?_
            refine cp_seq ?_
            refine cp_region ?_
            have hgt : r * 18446744073709551616 + u0 < q * v0 := by omega
            have hq0 : 0 < q := Nat.pos_of_ne_zero fun e => by rw [e, Nat.zero_mul] at hgt; omega
            have hmax2 : ∀ p : Nat, p * (v1 * 18446744073709551616 + v0) ≤ (u2 * 18446744073709551616 + u1) * 18446744073709551616 + u0 → p ≤ q - 1 := fun p h => guess_down he hgt (hmax p h) h
            refine stepK_d rfl rfl rfl hst (does_move rfl rfl) ?_
            refine stepK_d rfl rfl rfl hst (Does.nat (b := q - 1) (does_sub_u64 (b := 1) rfl rfl rfl) (by omega)) ?_
            refine stepK_d rfl rfl rfl hst (does_assign rfl rfl) ?_
            refine wpK_nil ?_
            refine cp_then ?_
            refine cp_seq ?_
            refine cp_region ?_
            refine stepK_d rfl rfl rfl hst (does_move rfl rfl) ?_
            refine stepK_d rfl rfl rfl hst (does_assign rfl rfl) ?_
            refine wpK_nil ?_
            refine cp_then ?_
            refine cp_seq ?_
            refine cp_region ?_
            refine stepK_d rfl rfl rfl hst (does_move rfl rfl) ?_
            refine stepK_d rfl rfl rfl hst (does_move rfl rfl) ?_
            refine stepK_d rfl rfl rfl hst (does_add_u64 rfl rfl rfl) ?_
            refine stepK_d rfl rfl rfl hst (does_assign rfl rfl) ?_
            refine wpK_nil ?_
            refine cp_then ?_
            refine cp_seq ?_
            refine cp_region ?_
            refine stepK_d rfl rfl rfl hst (does_move rfl rfl) ?_
            refine stepK_d rfl rfl rfl hst (does_move rfl rfl) ?_
            refine stepK_d rfl rfl rfl hst (does_lss_n rfl rfl rfl) ?_
            refine wpK_nil ?_
            refine cp_then ?_
            refine cp_if rfl ?_ ?_
            · intro c54
              refine cp_seq ?_
              refine cp_region ?_
              refine stepK_d rfl rfl rfl hst (does_move rfl rfl) ?_
              refine stepK_d rfl rfl rfl hst (does_assign rfl rfl) ?_
              refine wpK_nil ?_
              refine cp_then ?_
              refine cp_ret ?_
              refine at_block_ret ?_
              refine at_then_ret ?_
              refine at_block_ret ?_
              refine ret1 rfl rfl hst ?_
              exact ⟨_, rfl, by omega, fun p _ h => hmax2 p h⟩
            · intro c54
              refine cp_skip ?_
              refine at_block_normal ?_
              refine round_end ((q - 1, (r + v1) % 18446744073709551616)) ?_ ?_ ?_
              · exact ⟨rfl, rfl, rfl, rfl, rfl, rfl, rfl, trivial⟩
              · refine ⟨_, hst, by omega, Nat.mod_lt _ (by decide), ?_, hmax2⟩
                rw [show (r + v1) % 18446744073709551616 = r + v1 by omega]
                exact knuth_keep he (by omega)
              · show q - 1 < q
                omega
        · intro s39
          refine stepK_pass rfl rfl rfl rfl rfl rfl rfl ?_
          refine stepK_pass rfl rfl rfl rfl rfl rfl rfl ?_
          refine stepK_pass rfl rfl rfl rfl rfl rfl rfl ?_
          refine stepK_guard rfl rfl rfl rfl rfl rfl hst (does_pick_false rfl rfl rfl) ?_
          refine stepK_d rfl rfl rfl hst (does_pick_false rfl rfl rfl) ?_
          refine wpK_nil ?_
          refine cp_then ?_
          refine cp_cond_false rfl ?_
          refine cp_skip ?_
          refine cp_then ?_
          refine cp_seq ?_
          refine cp_region ?_
          have hgt : r * 18446744073709551616 + u0 < q * v0 := by omega
          have hq0 : 0 < q := Nat.pos_of_ne_zero fun e => by rw [e, Nat.zero_mul] at hgt; omega
          have hmax2 : ∀ p : Nat, p * (v1 * 18446744073709551616 + v0) ≤ (u2 * 18446744073709551616 + u1) * 18446744073709551616 + u0 → p ≤ q - 1 := fun p h => guess_down he hgt (hmax p h) h
          refine stepK_d rfl rfl rfl hst (does_move rfl rfl) ?_
          refine stepK_d rfl rfl rfl hst (Does.nat (b := q - 1) (does_sub_u64 (b := 1) rfl rfl rfl) (by omega)) ?_
          refine stepK_d rfl rfl rfl hst (does_assign rfl rfl) ?_
          refine wpK_nil ?_
          refine cp_then ?_
          refine cp_seq ?_
          refine cp_region ?_
          refine stepK_d rfl rfl rfl hst (does_move rfl rfl) ?_
          refine stepK_d rfl rfl rfl hst (does_assign rfl rfl) ?_
          refine wpK_nil ?_
          refine cp_then ?_
          refine cp_seq ?_
          refine cp_region ?_
          refine stepK_d rfl rfl rfl hst (does_move rfl rfl) ?_
          refine stepK_d rfl rfl rfl hst (does_move rfl rfl) ?_
          refine stepK_d rfl rfl rfl hst (does_add_u64 rfl rfl rfl) ?_
          refine stepK_d rfl rfl rfl hst (does_assign rfl rfl) ?_
          refine wpK_nil ?_
          refine cp_then ?_
          refine cp_seq ?_
          refine cp_region ?_
          refine stepK_d rfl rfl rfl hst (does_move rfl rfl) ?_
          refine stepK_d rfl rfl rfl hst (does_move rfl rfl) ?_
          refine stepK_d rfl rfl rfl hst (does_lss_n rfl rfl rfl) ?_
          refine wpK_nil ?_
          refine cp_then ?_
          refine cp_if rfl ?_ ?_
          · intro c54
            refine cp_seq ?_
            refine cp_region ?_
            refine stepK_d rfl rfl rfl hst (does_move rfl rfl) ?_
            refine stepK_d rfl rfl rfl hst (does_assign rfl rfl) ?_
            refine wpK_nil ?_
            refine cp_then ?_
            refine cp_ret ?_
            refine at_block_ret ?_
            refine at_then_ret ?_
            refine at_block_ret ?_
            refine ret1 rfl rfl hst ?_
            exact ⟨_, rfl, by omega, fun p _ h => hmax2 p h⟩
          · intro c54
            refine cp_skip ?_
            refine at_block_normal ?_
            refine round_end ((q - 1, (r + v1) % 18446744073709551616)) ?_ ?_ ?_
            · exact ⟨rfl, rfl, rfl, rfl, rfl, rfl, rfl, trivial⟩
            · refine ⟨_, hst, by omega, Nat.mod_lt _ (by decide), ?_, hmax2⟩
              rw [show (r + v1) % 18446744073709551616 = r + v1 by omega]
              exact knuth_keep he (by omega)
            · show q - 1 < q
              omega

end Go.Proofs.YtbamjcfdlgnicaaDoor

namespace Go.Proofs.YtbamjcfdlgnicaaDoor
open Go Go.RowKit Go.Proofs.Vc
set_option linter.unusedVariables false
set_option linter.unusedSimpArgs false

set_option maxHeartbeats 1000000 in
theorem num_takeAway {g : Mem} {w : World} (hag : Agree g w) {b j n c d : Nat} {B : Option Addr} {us vs : List Nat} (hb : w.heap[b]? = some (.cells (uN .u64 us).toArray 66 (0, 0))) (hgb : g b = none) (hus : Words us) (hju : j + n + 1 ≤ us.length) (hun : us.length ≤ 17592186044415) (hvs : SlN g .u64 B n vs) (hvw : Words vs) {dg : Nat} (hdg : dg < 18446744073709551616) :
    CallTo Tryd.prog 79 #[.slice (some ⟨b, j, none⟩) (n + 1) c, .slice B n d, .int .u64 (dg : Int)] w (RetM w b g fun v g o => ∃ us2 br, v = .bool (decide (0 < br)) ∧ o = .cells (uN .u64 us2).toArray 66 (0, 0) ∧ Words us2 ∧ us2.length = us.length ∧ us2.take j = us.take j ∧ us2.drop (j + n + 1) = us.drop (j + n + 1) ∧ br ≤ 1 ∧ val ((us2.drop j).take (n + 1)) + dg * val vs = val ((us.drop j).take (n + 1)) + br * 18446744073709551616 ^ (n + 1)) := by
  refine CallTo.enter (vs := [.slice (some ⟨b, j, none⟩) (n + 1) c, .slice B n d, .int .u64 (dg : Int)]) (by kernel_rfl : Tryd.prog.funcs[79]? = some Tryd.f79) (by kernel_rfl) rfl rfl rfl ?_
  have hst := St.initM hag hb hgb
  have hlv := hvs.1
  refine cp_seq ?_
  refine cp_region ?_
  refine stepK_d rfl rfl rfl hst (does_assign rfl rfl) ?_
  refine wpK_nil ?_
  refine cp_then ?_
  refine cp_seq ?_
  refine cp_region ?_
  refine stepK_d rfl rfl rfl hst (does_assign rfl rfl) ?_
  refine stepK_d rfl rfl rfl hst (does_assign rfl rfl) ?_
  refine wpK_nil ?_
  refine cp_then ?_
  refine cp_seq ?_
  refine cp_seq ?_
  refine cp_region ?_
  refine stepK_d rfl rfl rfl hst (does_move rfl rfl) ?_
  refine stepK_d rfl rfl rfl hst (does_len_slice rfl (by kernel_rfl : Program.underlying Tryd.prog 64 = some (.slice 66)) rfl) ?_
  refine stepK_d rfl rfl rfl hst (does_move rfl rfl) ?_
  refine wpK_nil ?_
  refine cp_then ?_
  refine cp_block ?_
  refine cp_loop (ι := Nat × Nat × Nat × List Nat) (fun (i, cy, bo, ws) => [(0, .slice (some ⟨b, j, none⟩) (n + 1) c), (1, .slice B n d), (2, .int .u64 (dg : Int)), (7, .int .u64 (cy : Int)), (8, .int .u64 (bo : Int)), (14, .slice B n d), (15, .int .i64 (n : Int)), (16, .int .i64 (i : Int))]) (fun (i, cy, bo, ws) w1 => ∃ g1, St w [b] g g1 [(b, .cells (uN .u64 ws).toArray 66 (0, 0))] w1 ∧ i ≤ n ∧ cy < 18446744073709551616 ∧ bo ≤ 1 ∧ Words ws ∧ ws.length = us.length ∧ ws.take j = us.take j ∧ ws.drop (j + i) = us.drop (j + i) ∧ val ((ws.drop j).take i) + dg * val (vs.take i) = val ((us.drop j).take i) + (cy + bo) * 18446744073709551616 ^ i) (fun (i, cy, bo, ws) => n - i) (0, 0, 0, us) ?k1 ?i1 ?r1
  case k1 => exact ⟨rfl, rfl, rfl, rfl, rfl, rfl, rfl, rfl, trivial⟩
  case i1 =>
    exact ⟨_, hst, Nat.zero_le _, by decide, by decide, hus, rfl, rfl, rfl, by simp [val]⟩
  case r1 =>
    clear hst
    rintro ⟨i, cy, bo, ws⟩ w1 ⟨g1, hst, hi, hcy, hbo, hws, hwl, hwt, hwd, hv⟩
    refine cp_seq ?_
    refine cp_region ?_
    refine stepK_d rfl rfl rfl hst (does_lss rfl rfl rfl) ?_
    refine wpK_nil ?_
    refine cp_then ?_
    refine cp_seq ?_
    refine cp_if rfl ?_ ?_
    · intro c17
      refine cp_skip ?_
      refine cp_then ?_
      refine cp_seq ?_
      refine cp_block ?_
      refine cp_seq ?_
      obtain ⟨b2, o2, rfl, hb2⟩ := hvs.some_ (by omega)
      obtain ⟨x, hx⟩ := get_of_lt (ws := vs) (j := i) (by omega)
      have hxlt := hvw.get hx
      obtain ⟨u, hu⟩ := get_of_lt (ws := us) (j := j + i) (by omega)
      have hult := hus.get hu
      have hwu : ws[j + i]? = some u := by rw [get_drop_eq hwd (by omega)]; exact hu
      refine cp_region ?_
      refine stepK_d rfl rfl rfl hst (does_move rfl rfl) ?_
      refine stepK_d rfl rfl rfl hst (does_indexAddr1 rfl (by kernel_rfl : Program.underlying Tryd.prog 64 = some (.slice 66)) (by kernel_rfl) rfl rfl rfl (by omega)) ?_
      refine stepK_d rfl rfl rfl hst (does_load_g1 rfl (by kernel_rfl) rfl ((hb2.mono hst.le).at_ _ _ hx)) ?_
      refine stepK_d rfl rfl rfl hst (does_assign rfl rfl) ?_
      refine stepK_d rfl rfl rfl hst (does_assign rfl rfl) ?_
      refine wpK_nil ?_
      refine cp_then ?_
      refine cp_seq ?_
      refine cp_region ?_
      refine stepK_d rfl rfl rfl hst (does_move rfl rfl) ?_
      refine stepK_d rfl rfl rfl hst (does_move rfl rfl) ?_
      refine stepK_call rfl rfl rfl rfl rfl hst (bits_Mul64 hst.agree hdg hxlt) ?_
      clear hst
      intro v2 g2 w2 hst hle2 hcs2 hp2
      obtain rfl := hp2
      refine stepK_d rfl rfl rfl hst (does_move rfl rfl) ?_
      refine stepK_d rfl rfl rfl hst (does_extract rfl rfl rfl) ?_
      refine stepK_d rfl rfl rfl hst (does_extract rfl rfl rfl) ?_
      refine stepK_d rfl rfl rfl hst (does_assign rfl rfl) ?_
      refine stepK_d rfl rfl rfl hst (does_assign rfl rfl) ?_
      refine wpK_nil ?_
      refine cp_then ?_
      refine cp_seq ?_
      refine cp_region ?_
      refine stepK_d rfl rfl rfl hst (does_assign rfl rfl) ?_
      refine wpK_nil ?_
      refine cp_then ?_
      refine cp_seq ?_
      refine cp_region ?_
      refine stepK_d rfl rfl rfl hst (does_move rfl rfl) ?_
      refine stepK_d rfl rfl rfl hst (does_move rfl rfl) ?_
      refine stepK_call rfl rfl rfl rfl rfl hst (bits_Add64 hst.agree (c := 0) (by decide)) ?_
      clear hst
      intro v3 g3 w3 hst hle3 hcs3 hp3
      obtain rfl := hp3
      refine stepK_d rfl rfl rfl hst (does_move rfl rfl) ?_
      refine stepK_d rfl rfl rfl hst (does_extract rfl rfl rfl) ?_
      refine stepK_d rfl rfl rfl hst (does_extract rfl rfl rfl) ?_
      refine stepK_d rfl rfl rfl hst (does_assign rfl rfl) ?_
      refine stepK_d rfl rfl rfl hst (does_assign rfl rfl) ?_
      refine wpK_nil ?_
      refine cp_then ?_
      refine cp_seq ?_
      refine cp_region ?_
      refine stepK_d rfl rfl rfl hst (does_move rfl rfl) ?_
      refine stepK_d rfl rfl rfl hst (does_move rfl rfl) ?_
      refine stepK_d rfl rfl rfl hst (does_add_u64 rfl rfl rfl) ?_
      refine stepK_d rfl rfl rfl hst (does_assign rfl rfl) ?_
      refine wpK_nil ?_
      refine cp_then ?_
      refine cp_region ?_
      refine stepK_d rfl rfl rfl hst (does_move rfl rfl) ?_
      refine stepK_d rfl rfl rfl hst (does_move rfl rfl) ?_
      refine stepK_d rfl rfl rfl hst (does_move rfl rfl) ?_
      refine stepK_d rfl rfl rfl hst (does_move rfl rfl) ?_
      refine stepK_d rfl rfl rfl hst (does_indexAddr1 rfl (by kernel_rfl : Program.underlying Tryd.prog 64 = some (.slice 66)) (by kernel_rfl) rfl rfl rfl (by omega)) ?_
      refine stepK_d rfl rfl rfl hst (does_load_own1 0 rfl (by kernel_rfl) rfl rfl (uN_arr_get hwu)) ?_
      refine stepK_d rfl rfl rfl hst (does_move rfl rfl) ?_
      refine stepK_d rfl rfl rfl hst (does_move rfl rfl) ?_
      refine stepK_call rfl rfl rfl rfl rfl hst (bits_Sub64 hst.agree hbo) ?_
      clear hst
      intro v4 g4 w4 hst hle4 hcs4 hp4
      obtain rfl := hp4
      refine stepK_d rfl rfl rfl hst (does_move rfl rfl) ?_
      refine stepK_d rfl rfl rfl hst (does_extract rfl rfl rfl) ?_
      refine stepK_d rfl rfl rfl hst (does_extract rfl rfl rfl) ?_
      refine stepK_d rfl rfl rfl hst (does_indexAddr1 rfl (by kernel_rfl : Program.underlying Tryd.prog 64 = some (.slice 66)) (by kernel_rfl) rfl rfl rfl (by omega)) ?_
      refine stepK_store 0 rfl rfl rfl rfl rfl rfl (by kernel_rfl : sizeB Tryd.prog 66 = some 1) rfl rfl hst rfl (by first | (simp [uN_length]; omega) | simp) ?_
      clear hst
      intro w5 hst
      rw [splice_uN _ _ _ _ (by omega)] at hst
      simp only [List.set_cons_zero] at hst
      refine stepK_d rfl rfl rfl hst (does_assign rfl rfl) ?_
      refine wpK_nil ?_
      refine at_block_normal ?_
      refine cp_then ?_
      refine cp_region ?_
      refine stepK_d rfl rfl rfl hst (Does.int (does_add rfl rfl rfl) (wrap_i64 (by omega) (by omega))) ?_
      refine stepK_d rfl rfl rfl hst (does_move rfl rfl) ?_
      refine wpK_nil ?_
      refine round_end ((i + 1, (dg * x / 18446744073709551616 + (dg * x % 18446744073709551616 + cy + 0) / 18446744073709551616) % 18446744073709551616, (if u < (dg * x % 18446744073709551616 + cy + 0) % 18446744073709551616 + bo then 1 else 0), ws.set (j + i) ((u + 18446744073709551616 - (dg * x % 18446744073709551616 + cy + 0) % 18446744073709551616 - bo) % 18446744073709551616))) ?_ ?_ ?_
      · exact ⟨rfl, rfl, rfl, rfl, rfl, rfl, rfl, rfl, trivial⟩
      · refine ⟨_, hst, by omega, Nat.mod_lt _ (by decide), ite_le_one, hws.set (Nat.mod_lt _ (by decide)), by simp [hwl], ?_, ?_, ?_⟩
        · rw [take_set_out (by omega)]; exact hwt
        · rw [← Nat.add_assoc, drop_set_out (by omega)]; exact drop_more hwd (by omega)
        · rw [seg_set (by omega), seg_succ hu, val_take_succ hx, pow_succ64]
          exact take_step hv (take_word (mul_bound hdg hxlt) hult hcy hbo)
      · show n - (i + 1) < n - i
        omega
    · intro c17
      refine cp_exit ?_
      refine at_then_exit ?_
      refine at_then_exit ?_
      refine cp_exit_here ?_
      refine cp_then ?_
      refine cp_seq ?_
      obtain rfl : n = i := by omega
      obtain ⟨u, hu⟩ := get_of_lt (ws := us) (j := j + n) (by omega)
      have hult := hus.get hu
      have hwu : ws[j + n]? = some u := by rw [get_drop_eq hwd (by omega)]; exact hu
      rw [val_all (ws := vs) (by omega)] at hv
      refine cp_region ?_
      refine stepK_d rfl rfl rfl hst (does_move rfl rfl) ?_
      refine stepK_d rfl rfl rfl hst (does_move rfl rfl) ?_
      refine stepK_d rfl rfl rfl hst (does_len_slice rfl (by kernel_rfl : Program.underlying Tryd.prog 64 = some (.slice 66)) rfl) ?_
      refine stepK_d rfl rfl rfl hst (does_move rfl rfl) ?_
      refine stepK_d rfl rfl rfl hst (does_move rfl rfl) ?_
      refine stepK_d rfl rfl rfl hst (does_len_slice rfl (by kernel_rfl : Program.underlying Tryd.prog 64 = some (.slice 66)) rfl) ?_
      refine stepK_d rfl rfl rfl hst (does_indexAddr1 rfl (by kernel_rfl : Program.underlying Tryd.prog 64 = some (.slice 66)) (by kernel_rfl) rfl rfl rfl (by omega)) ?_
      refine stepK_d rfl rfl rfl hst (does_load_own1 0 rfl (by kernel_rfl) rfl rfl (uN_arr_get hwu)) ?_
      refine stepK_d rfl rfl rfl hst (does_move rfl rfl) ?_
      refine stepK_d rfl rfl rfl hst (does_move rfl rfl) ?_
      refine stepK_call rfl rfl rfl rfl rfl hst (bits_Sub64 hst.agree hbo) ?_
      clear hst
      intro v6 g6 w6 hst hle6 hcs6 hp6
      obtain rfl := hp6
      refine stepK_d rfl rfl rfl hst (does_move rfl rfl) ?_
      refine stepK_d rfl rfl rfl hst (does_extract rfl rfl rfl) ?_
      refine stepK_d rfl rfl rfl hst (does_extract rfl rfl rfl) ?_
      refine stepK_d rfl rfl rfl hst (does_indexAddr1 rfl (by kernel_rfl : Program.underlying Tryd.prog 64 = some (.slice 66)) (by kernel_rfl) rfl rfl rfl (by omega)) ?_
      refine stepK_store 0 rfl rfl rfl rfl rfl rfl (by kernel_rfl : sizeB Tryd.prog 66 = some 1) rfl rfl hst rfl (by first | (simp [uN_length]; omega) | simp) ?_
      clear hst
      intro w7 hst
      rw [splice_uN _ _ _ _ (by omega)] at hst
      simp only [List.set_cons_zero] at hst
      refine stepK_d rfl rfl rfl hst (does_assign rfl rfl) ?_
      refine wpK_nil ?_
      refine cp_then ?_
      refine cp_seq ?_
      refine cp_region ?_
      refine stepK_d rfl rfl rfl hst (does_move rfl rfl) ?_
      refine stepK_d rfl rfl rfl hst (does_gtr_n (b := 0) rfl rfl rfl) ?_
      refine stepK_d rfl rfl rfl hst (does_assign rfl rfl) ?_
      refine wpK_nil ?_
      refine cp_then ?_
      refine cp_ret ?_
      refine retM1 rfl rfl hst ?_
      refine ⟨_, _, by rfl, rfl, hws.set (Nat.mod_lt _ (by decide)), by simp [hwl], ?_, ?_, by split <;> omega, ?_⟩
      · rw [take_set_out (by omega)]; exact hwt
      · rw [drop_set_out (by omega)]; exact drop_more hwd (by omega)
      · rw [seg_set (by omega), seg_succ hu, pow_succ64]
        exact take_end hv (take_last hult hcy hbo)

set_option maxHeartbeats 1000000 in
theorem num_putBack {g : Mem} {w : World} (hag : Agree g w) {b j n c d : Nat} {B : Option Addr} {us vs : List Nat} (hb : w.heap[b]? = some (.cells (uN .u64 us).toArray 66 (0, 0))) (hgb : g b = none) (hus : Words us) (hju : j + n + 1 ≤ us.length) (hun : us.length ≤ 17592186044415) (hvs : SlN g .u64 B n vs) (hvw : Words vs) :
    CallTo Tryd.prog 80 #[.slice (some ⟨b, j, none⟩) (n + 1) c, .slice B n d] w (RetM w b g fun v g o => ∃ us2 br, v = .bool (decide (0 < br)) ∧ o = .cells (uN .u64 us2).toArray 66 (0, 0) ∧ Words us2 ∧ us2.length = us.length ∧ us2.take j = us.take j ∧ us2.drop (j + n + 1) = us.drop (j + n + 1) ∧ br ≤ 1 ∧ val ((us2.drop j).take (n + 1)) + br * 18446744073709551616 ^ (n + 1) = val ((us.drop j).take (n + 1)) + val vs) := by
  refine CallTo.enter (vs := [.slice (some ⟨b, j, none⟩) (n + 1) c, .slice B n d]) (by kernel_rfl : Tryd.prog.funcs[80]? = some Tryd.f80) (by kernel_rfl) rfl rfl rfl ?_
  have hst := St.initM hag hb hgb
  have hlv := hvs.1
  refine cp_seq ?_
  refine cp_region ?_
  refine stepK_d rfl rfl rfl hst (does_assign rfl rfl) ?_
  refine wpK_nil ?_
  refine cp_then ?_
  refine cp_seq ?_
  refine cp_region ?_
  refine stepK_d rfl rfl rfl hst (does_assign rfl rfl) ?_
  refine wpK_nil ?_
  refine cp_then ?_
  refine cp_seq ?_
  refine cp_seq ?_
  refine cp_region ?_
  refine stepK_d rfl rfl rfl hst (does_move rfl rfl) ?_
  refine stepK_d rfl rfl rfl hst (does_len_slice rfl (by kernel_rfl : Program.underlying Tryd.prog 64 = some (.slice 66)) rfl) ?_
  refine stepK_d rfl rfl rfl hst (does_move rfl rfl) ?_
  refine wpK_nil ?_
  refine cp_then ?_
  refine cp_block ?_
  refine cp_loop (ι := Nat × Nat × List Nat) (fun (i, cy, ws) => [(0, .slice (some ⟨b, j, none⟩) (n + 1) c), (1, .slice B n d), (5, .int .u64 (cy : Int)), (8, .slice B n d), (9, .int .i64 (n : Int)), (10, .int .i64 (i : Int))]) (fun (i, cy, ws) w1 => ∃ g1, St w [b] g g1 [(b, .cells (uN .u64 ws).toArray 66 (0, 0))] w1 ∧ i ≤ n ∧ cy ≤ 1 ∧ Words ws ∧ ws.length = us.length ∧ ws.take j = us.take j ∧ ws.drop (j + i) = us.drop (j + i) ∧ val ((ws.drop j).take i) + cy * 18446744073709551616 ^ i = val ((us.drop j).take i) + val (vs.take i)) (fun (i, cy, ws) => n - i) (0, 0, us) ?k1 ?i1 ?r1
  case k1 => exact ⟨rfl, rfl, rfl, rfl, rfl, rfl, trivial⟩
  case i1 =>
    exact ⟨_, hst, Nat.zero_le _, by decide, hus, rfl, rfl, rfl, by simp [val]⟩
  case r1 =>
    clear hst
    rintro ⟨i, cy, ws⟩ w1 ⟨g1, hst, hi, hcy, hws, hwl, hwt, hwd, hv⟩
    refine cp_seq ?_
    refine cp_region ?_
    refine stepK_d rfl rfl rfl hst (does_lss rfl rfl rfl) ?_
    refine wpK_nil ?_
    refine cp_then ?_
    refine cp_seq ?_
    refine cp_if rfl ?_ ?_
    · intro c11
      refine cp_skip ?_
      refine cp_then ?_
      refine cp_seq ?_
      refine cp_block ?_
      refine cp_seq ?_
      obtain ⟨b2, o2, rfl, hb2⟩ := hvs.some_ (by omega)
      obtain ⟨x, hx⟩ := get_of_lt (ws := vs) (j := i) (by omega)
      have hxlt := hvw.get hx
      obtain ⟨u, hu⟩ := get_of_lt (ws := us) (j := j + i) (by omega)
      have hult := hus.get hu
      have hwu : ws[j + i]? = some u := by rw [get_drop_eq hwd (by omega)]; exact hu
      refine cp_region ?_
      refine stepK_d rfl rfl rfl hst (does_move rfl rfl) ?_
      refine stepK_d rfl rfl rfl hst (does_indexAddr1 rfl (by kernel_rfl : Program.underlying Tryd.prog 64 = some (.slice 66)) (by kernel_rfl) rfl rfl rfl (by omega)) ?_
      refine stepK_d rfl rfl rfl hst (does_load_g1 rfl (by kernel_rfl) rfl ((hb2.mono hst.le).at_ _ _ hx)) ?_
      refine stepK_d rfl rfl rfl hst (does_assign rfl rfl) ?_
      refine stepK_d rfl rfl rfl hst (does_assign rfl rfl) ?_
      refine wpK_nil ?_
      refine cp_then ?_
      refine cp_region ?_
      refine stepK_d rfl rfl rfl hst (does_move rfl rfl) ?_
      refine stepK_d rfl rfl rfl hst (does_move rfl rfl) ?_
      refine stepK_d rfl rfl rfl hst (does_move rfl rfl) ?_
      refine stepK_d rfl rfl rfl hst (does_move rfl rfl) ?_
      refine stepK_d rfl rfl rfl hst (does_indexAddr1 rfl (by kernel_rfl : Program.underlying Tryd.prog 64 = some (.slice 66)) (by kernel_rfl) rfl rfl rfl (by omega)) ?_
      refine stepK_d rfl rfl rfl hst (does_load_own1 0 rfl (by kernel_rfl) rfl rfl (uN_arr_get hwu)) ?_
      refine stepK_d rfl rfl rfl hst (does_move rfl rfl) ?_
      refine stepK_d rfl rfl rfl hst (does_move rfl rfl) ?_
      refine stepK_call rfl rfl rfl rfl rfl hst (bits_Add64 hst.agree hcy) ?_
      clear hst
      intro v2 g2 w2 hst hle2 hcs2 hp2
      obtain rfl := hp2
      refine stepK_d rfl rfl rfl hst (does_move rfl rfl) ?_
      refine stepK_d rfl rfl rfl hst (does_extract rfl rfl rfl) ?_
      refine stepK_d rfl rfl rfl hst (does_extract rfl rfl rfl) ?_
      refine stepK_d rfl rfl rfl hst (does_indexAddr1 rfl (by kernel_rfl : Program.underlying Tryd.prog 64 = some (.slice 66)) (by kernel_rfl) rfl rfl rfl (by omega)) ?_
      refine stepK_store 0 rfl rfl rfl rfl rfl rfl (by kernel_rfl : sizeB Tryd.prog 66 = some 1) rfl rfl hst rfl (by first | (simp [uN_length]; omega) | simp) ?_
      clear hst
      intro w3 hst
      rw [splice_uN _ _ _ _ (by omega)] at hst
      simp only [List.set_cons_zero] at hst
      refine stepK_d rfl rfl rfl hst (does_assign rfl rfl) ?_
      refine wpK_nil ?_
      refine at_block_normal ?_
      refine cp_then ?_
      refine cp_region ?_
      refine stepK_d rfl rfl rfl hst (Does.int (does_add rfl rfl rfl) (wrap_i64 (by omega) (by omega))) ?_
      refine stepK_d rfl rfl rfl hst (does_move rfl rfl) ?_
      refine wpK_nil ?_
      refine round_end ((i + 1, (u + x + cy) / 18446744073709551616, ws.set (j + i) ((u + x + cy) % 18446744073709551616))) ?_ ?_ ?_
      · exact ⟨rfl, rfl, rfl, rfl, rfl, rfl, trivial⟩
      · refine ⟨_, hst, by omega, by omega, hws.set (Nat.mod_lt _ (by decide)), by simp [hwl], ?_, ?_, ?_⟩
        · rw [take_set_out (by omega)]; exact hwt
        · rw [← Nat.add_assoc, drop_set_out (by omega)]; exact drop_more hwd (by omega)
        · rw [seg_set (by omega), seg_succ hu, val_take_succ hx, pow_succ64]
          exact put_step hv (Nat.mod_add_div' ..)
      · show n - (i + 1) < n - i
        omega
    · intro c11
      refine cp_exit ?_
      refine at_then_exit ?_
      refine at_then_exit ?_
      refine cp_exit_here ?_
      refine cp_then ?_
      refine cp_seq ?_
      obtain rfl : n = i := by omega
      obtain ⟨u, hu⟩ := get_of_lt (ws := us) (j := j + n) (by omega)
      have hult := hus.get hu
      have hwu : ws[j + n]? = some u := by rw [get_drop_eq hwd (by omega)]; exact hu
      rw [val_all (ws := vs) (by omega)] at hv
      refine cp_region ?_
      refine stepK_d rfl rfl rfl hst (does_move rfl rfl) ?_
      refine stepK_d rfl rfl rfl hst (does_move rfl rfl) ?_
      refine stepK_d rfl rfl rfl hst (does_len_slice rfl (by kernel_rfl : Program.underlying Tryd.prog 64 = some (.slice 66)) rfl) ?_
      refine stepK_d rfl rfl rfl hst (does_move rfl rfl) ?_
      refine stepK_d rfl rfl rfl hst (does_move rfl rfl) ?_
      refine stepK_d rfl rfl rfl hst (does_len_slice rfl (by kernel_rfl : Program.underlying Tryd.prog 64 = some (.slice 66)) rfl) ?_
      refine stepK_d rfl rfl rfl hst (does_indexAddr1 rfl (by kernel_rfl : Program.underlying Tryd.prog 64 = some (.slice 66)) (by kernel_rfl) rfl rfl rfl (by omega)) ?_
      refine stepK_d rfl rfl rfl hst (does_load_own1 0 rfl (by kernel_rfl) rfl rfl (uN_arr_get hwu)) ?_
      refine stepK_d rfl rfl rfl hst (does_move rfl rfl) ?_
      refine stepK_call rfl rfl rfl rfl rfl hst (bits_Add64 hst.agree hcy (y := 0)) ?_
      clear hst
      intro v4 g4 w4 hst hle4 hcs4 hp4
      obtain rfl := hp4
      refine stepK_d rfl rfl rfl hst (does_move rfl rfl) ?_
      refine stepK_d rfl rfl rfl hst (does_extract rfl rfl rfl) ?_
      refine stepK_d rfl rfl rfl hst (does_extract rfl rfl rfl) ?_
      refine stepK_d rfl rfl rfl hst (does_indexAddr1 rfl (by kernel_rfl : Program.underlying Tryd.prog 64 = some (.slice 66)) (by kernel_rfl) rfl rfl rfl (by omega)) ?_
      refine stepK_store 0 rfl rfl rfl rfl rfl rfl (by kernel_rfl : sizeB Tryd.prog 66 = some 1) rfl rfl hst rfl (by first | (simp [uN_length]; omega) | simp) ?_
      clear hst
      intro w5 hst
      rw [splice_uN _ _ _ _ (by omega)] at hst
      simp only [List.set_cons_zero] at hst
      refine stepK_d rfl rfl rfl hst (does_assign rfl rfl) ?_
      refine wpK_nil ?_
      refine cp_then ?_
      refine cp_seq ?_
      refine cp_region ?_
      refine stepK_d rfl rfl rfl hst (does_move rfl rfl) ?_
      refine stepK_d rfl rfl rfl hst (does_gtr_n (b := 0) rfl rfl rfl) ?_
      refine stepK_d rfl rfl rfl hst (does_assign rfl rfl) ?_
      refine wpK_nil ?_
      refine cp_then ?_
      refine cp_ret ?_
      refine retM1 rfl rfl hst ?_
      refine ⟨_, _, by rfl, rfl, hws.set (Nat.mod_lt _ (by decide)), by simp [hwl], ?_, ?_, by omega, ?_⟩
      · rw [take_set_out (by omega)]; exact hwt
      · rw [drop_set_out (by omega)]; exact drop_more hwd (by omega)
      · rw [seg_set (by omega), seg_succ hu, pow_succ64]
        have h9 := put_step (x := 0) hv (Nat.mod_add_div' (u + 0 + cy) 18446744073709551616)
        rw [Nat.mul_zero, Nat.add_zero] at h9
        exact h9

end Go.Proofs.YtbamjcfdlgnicaaDoor

namespace Go.Proofs.Vc
open Go
set_option linter.unusedVariables false
theorem cmpN_neg {a b : Nat} : cmpN a b < 0 ↔ a < b := by
  unfold cmpN
  split
  · simp_all
  · split <;> simp_all
theorem cmpN_zero {a b : Nat} : cmpN a b = 0 ↔ a = b := by
  unfold cmpN
  split
  · constructor
    · intro h; simp at h
    · intro h; omega
  · split <;> simp_all
theorem cmpN_nonneg {a b : Nat} : 0 ≤ cmpN a b ↔ b ≤ a := by
  have := @cmpN_neg a b
  omega
theorem splice_uN_list (k : IntKind) (us ws : List Nat) : splice (uN k us).toArray 0 (uN k ws) = (uN k (ws ++ us.drop ws.length)).toArray := by
  simp [splice, uN, List.map_drop]
/-- shifted so far that the top word's top bit is set, a number keeps its length -/
theorem norm_len {xs : List Nat} {n x s : Nat} (hw : Words xs) (hl : xs.length = n) (hn : 0 < n) (hx : xs[n - 1]? = some x) (hs : s = 64 - bitLen x) : val xs * 2 ^ s < 18446744073709551616 ^ n := by
  have h1 := val_take_succ hx
  rw [show n - 1 + 1 = n by omega, val_all (by omega)] at h1
  have h2 := val_lt (hw.take (n - 1))
  rw [List.length_take, Nat.min_eq_left (by omega)] at h2
  have h3 := (bitLen_spec x).1
  have h4 := bitLen_le64 (hw.get hx)
  have h5 : (x + 1) * 2 ^ s ≤ 18446744073709551616 := by
    refine Nat.le_trans (Nat.mul_le_mul_right _ (show x + 1 ≤ 2 ^ bitLen x from h3)) ?_
    rw [← Nat.pow_add, hs, show bitLen x + (64 - bitLen x) = 64 by omega]
    decide
  have h6 : val xs < 18446744073709551616 ^ (n - 1) * (x + 1) := by
    rw [h1, Nat.mul_add, Nat.mul_one]
    omega
  have h7 : 18446744073709551616 ^ n = 18446744073709551616 ^ (n - 1) * 18446744073709551616 := by
    rw [← Nat.pow_succ, Nat.succ_eq_add_one, show n - 1 + 1 = n by omega]
  rw [h7]
  refine Nat.lt_of_lt_of_le ((Nat.mul_lt_mul_right (Nat.pow_pos (by decide))).2 h6) ?_
  rw [Nat.mul_assoc]
  exact Nat.mul_le_mul_left _ h5
theorem rest_zero {us : List Nat} {j m : Nat} (hw : Words us) (h : val (us.drop j) < 18446744073709551616 ^ m) (hl : j + m ≤ us.length) : val (us.drop (j + m)) = 0 ∧ val ((us.drop j).take m) = val (us.drop j) := by
  have h1 := val_split (us.drop j) m (by rw [List.length_drop]; omega)
  rw [List.drop_drop] at h1
  have h2 : val (us.drop (j + m)) = 0 := by
    rcases Nat.eq_zero_or_pos (val (us.drop (j + m))) with h0 | h0
    · exact h0
    · have := Nat.mul_le_mul_left (18446744073709551616 ^ m) h0
      omega
  rw [h2] at h1
  exact ⟨h2, by omega⟩
/-- what the guess of a digit may rely on -/
theorem digit_top {us vs : List Nat} {j n u2 u1 u0 v1 v0 q : Nat} (hw : Words us) (hv : Words vs) (hn : 2 ≤ n) (hl : j + n + 1 ≤ us.length) (hvl : vs.length = n) (hu2 : us[j + n]? = some u2) (hu1 : us[j + n - 1]? = some u1) (hu0 : us[j + n - 2]? = some u0)
    (hv1 : vs[n - 1]? = some v1) (hv0 : vs[n - 2]? = some v0) (hU : val (us.drop j) < 18446744073709551616 ^ (n + 1)) (hq : q * val vs ≤ val (us.drop j)) : q * (v1 * 18446744073709551616 + v0) ≤ (u2 * 18446744073709551616 + u1) * 18446744073709551616 + u0 := by
  obtain ⟨hr, _⟩ := rest_zero hw hU (by omega)
  have e1 := val_split (us.drop j) (n - 2) (by rw [List.length_drop]; omega)
  rw [List.drop_drop] at e1
  have a0 := val_drop_get (xs := us) (i := j + (n - 2)) (x := u0) (by rw [show j + (n - 2) = j + n - 2 by omega]; exact hu0)
  have a1 := val_drop_get (xs := us) (i := j + (n - 2) + 1) (x := u1) (by rw [show j + (n - 2) + 1 = j + n - 1 by omega]; exact hu1)
  have a2 := val_drop_get (xs := us) (i := j + (n - 2) + 1 + 1) (x := u2) (by rw [show j + (n - 2) + 1 + 1 = j + n by omega]; exact hu2)
  rw [show j + (n - 2) + 1 + 1 + 1 = j + (n + 1) by omega, hr] at a2
  have e2 := val_split vs (n - 2) (by omega)
  have b0 := val_drop_get (xs := vs) (i := n - 2) hv0
  have b1 := val_drop_get (xs := vs) (i := n - 2 + 1) (x := v1) (by rw [show n - 2 + 1 = n - 1 by omega]; exact hv1)
  rw [List.drop_eq_nil_of_le (show vs.length ≤ n - 2 + 1 + 1 by omega)] at b1
  have hlow : val ((us.drop j).take (n - 2)) < 18446744073709551616 ^ (n - 2) := by
    have := val_lt ((hw.drop j).take (n - 2))
    rw [List.length_take, List.length_drop, Nat.min_eq_left (by omega)] at this
    exact this
  simp only [val, Nat.mul_zero, Nat.add_zero] at b1 a2
  rw [a1, a2] at a0
  rw [b1] at b0
  rw [a0] at e1
  rw [b0] at e2
  have e3 : u0 + 18446744073709551616 * (u1 + 18446744073709551616 * u2) = (u2 * 18446744073709551616 + u1) * 18446744073709551616 + u0 := by omega
  have e4 : v0 + 18446744073709551616 * v1 = v1 * 18446744073709551616 + v0 := by omega
  rw [e3] at e1
  rw [e4] at e2
  obtain ⟨T, hT⟩ : ∃ T, T = (u2 * 18446744073709551616 + u1) * 18446744073709551616 + u0 := ⟨_, rfl⟩
  obtain ⟨W, hW⟩ : ∃ W, W = v1 * 18446744073709551616 + v0 := ⟨_, rfl⟩
  obtain ⟨p, hp⟩ : ∃ p, p = 18446744073709551616 ^ (n - 2) := ⟨_, rfl⟩
  rw [← hT, ← hp] at e1
  rw [← hW, ← hp] at e2
  rw [← hp] at hlow
  rw [← hT, ← hW]
  clear hT hW hp e3 e4
  have h1 : q * W * p < (T + 1) * p := by
    have h2 : q * W * p ≤ q * val vs := by
      rw [e2, Nat.mul_add, Nat.mul_comm p W, ← Nat.mul_assoc]
      omega
    have h3 : (T + 1) * p = p * T + p := by rw [Nat.add_mul, Nat.one_mul, Nat.mul_comm]
    omega
  have h4 := Nat.lt_of_mul_lt_mul_right h1
  omega
/-- a digit is right at once -/
theorem digit_now {r d V U q p : Nat} (hV : 0 < V) (h : r + d * V = U + 0 * p) (hge : U / V ≤ d) : r + d * V = U ∧ r < V := by
  rw [Nat.zero_mul, Nat.add_zero] at h
  refine ⟨h, ?_⟩
  have h1 : d ≤ U / V := (Nat.le_div_iff_mul_le hV).2 (by omega)
  have h2 := Nat.lt_div_mul_add hV (a := U)
  have h3 : d = U / V := Nat.le_antisymm h1 hge
  rw [← h3] at h2
  omega
/-- a digit is too great -/
theorem digit_down {r d V U p : Nat} (hV : 0 < V) (h : r + d * V = U + p) (hr : r < p) (hU : U / V ≤ d) : U / V ≤ d - 1 ∧ 0 < d := by
  have h1 : U < d * V := by omega
  have h2 : U / V < d := (Nat.div_lt_iff_lt_mul hV).2 h1
  generalize U / V = f at *
  omega
theorem digit_add {r r2 d V U p : Nat} (h : r + d * V = U + p) (hd : 0 < d) (h2 : r2 + 1 * p = r + V) : r2 + (d - 1) * V = U := by
  obtain ⟨e, rfl⟩ : ∃ e, d = e + 1 := ⟨d - 1, by omega⟩
  rw [Nat.add_mul] at h
  rw [Nat.add_sub_cancel]
  generalize e * V = x at *
  omega
theorem digit_more {r r2 d V U p : Nat} (h : r + d * V = U + p) (hd : 0 < d) (h2 : r2 + 0 * p = r + V) : r2 + (d - 1) * V = U + p := by
  obtain ⟨e, rfl⟩ : ∃ e, d = e + 1 := ⟨d - 1, by omega⟩
  rw [Nat.add_mul] at h
  rw [Nat.add_sub_cancel]
  generalize e * V = x at *
  omega
/-- a round of the division -/
theorem divide_step {X Q V A U r q p u : Nat} (hA : X + p * 18446744073709551616 * (Q * V) = A) (hX : X = u + p * U) (hr : r + q * V = U) : (u + p * r) + p * ((q + 18446744073709551616 * Q) * V) = A := by
  subst hX hr
  rw [← hA]
  grind
theorem divide_end {R Q V A S : Nat} (hS : 0 < S) (hV : 0 < V) (h : R + Q * (V * S) = A * S) (hR : R < V * S) : Q = A / V ∧ R / S = A % V := by
  have hp : 0 < V * S := Nat.mul_pos hV hS
  have h1 : A * S / (V * S) = Q := by rw [← h, Nat.add_mul_div_right _ _ hp, Nat.div_eq_of_lt hR, Nat.zero_add]
  have h2 : A * S % (V * S) = R := by rw [← h, Nat.add_mul_mod_self_right, Nat.mod_eq_of_lt hR]
  refine ⟨?_, ?_⟩
  · rw [← h1, Nat.mul_div_mul_right _ _ hS]
  · rw [← h2, Nat.mul_mod_mul_right, Nat.mul_div_cancel _ hS]
/-- the middle of a row -/
theorem does_slice_mid {P : Program} {S : World → Prop} {kn : Kn} {o : Oper} {t e : TypeId} {x y z : Operand} {b off n c l m r : Nat} {k1 k2 : IntKind} {i1 i2 : Int} (ho : o.op = .slice t x (some y) (some z) none) (hu : P.underlying t = some (.slice e)) (hs : sizeB P e = some 1) (hx : kev kn x = some (.slice (some ⟨b, off, none⟩) n c))
    (hy : kev kn y = some (.int k1 i1)) (hl : i1 = (l : Int)) (hz : kev kn z = some (.int k2 i2)) (hh : i2 = ((l + m : Nat) : Int)) (hr : off + l = r) (h1 : l < c) (h2 : l + m ≤ c) : Does P S kn o (.slice (some ⟨b, r, none⟩) m (c - l)) := by
  have := does_slice (S := S) (l := l) (h := l + m) ho hu hs hx ⟨k1, i1, hy, hl⟩ ⟨k2, i2, hz, hh⟩ (by omega) h2
  rw [if_neg (by omega), Nat.mul_one, Nat.add_sub_cancel_left] at this
  rw [← hr]
  simp only [Option.map, addr_add] at this
  exact this
theorem stepK_copyN {P : Program} {ops : Array Oper} {Q : Exit → Act → World → Prop} {nn : Nat} {kn : Kn} {o : Oper} {rest : List Oper} {w0 w : World} {M : List Nat} {g0 g : Mem} {own : List (Nat × Obj)} {d : Nat} {x y : Operand} {dT sT e t : TypeId} {b L c1 m c2 : Nat} {A : Option Addr} {kd : IntKind} {us ws : List Nat} (k : Nat) (hdst : o.dst = some d) (hg : o.guard = none) (hd : Nat.ble (d + 1) nn = true)
    (ho : o.op = .call { callee := .builtin .copy, args := #[x, y], argTypes := #[dT, sT] }) (hu : P.underlying dT = some (.slice e)) (hsz : (P.info? e).map (·.size) = some 1)
    (hx : kev kn x = some (.slice (some ⟨b, 0, none⟩) L c1)) (hy : kev kn y = some (.slice A m c2)) (hst : St w0 M g0 g own w) (hk : own[k]? = some (b, .cells (uN kd us).toArray t (0, 0)))
    (hs : SlN g kd A m ws) (hm0 : 0 < m) (hL : us.length = L) (hmL : m ≤ L)
    (h : ∀ w', St w0 M g0 g (own.set k (b, .cells (uN kd (ws ++ us.drop ws.length)).toArray t (0, 0))) w' → wpK P ops Q nn rest ((d, .int .i64 (m : Int)) :: kn) w') : wpK P ops Q nn (o :: rest) kn w := by
  obtain ⟨b3, o3, rfl, hb3⟩ := hs.some_ hm0
  have hl := hs.1
  refine stepK_copy k hdst hg hd ho hu hsz hx hy hst hk (cs := uN kd ws) ?_ ?_ ?_ ?_ ?_
  · rw [uN_length, hl]
    exact (Nat.min_eq_left hmL).symm
  · intro j v hj
    rw [uN_get] at hj
    cases hw : ws[j]? with
    | none => rw [hw] at hj; cases hj
    | some z =>
      rw [hw] at hj
      cases hj
      rw [addr_add]
      exact hst.agree.cell (hb3.at_ j z hw)
  · rw [uN_length]
    simp [uN_length]
    omega
  · intro v hv
    obtain ⟨z, _, rfl⟩ := List.mem_map.1 hv
    rfl
  · intro w' hst'
    rw [splice_uN_list] at hst'
    rw [uN_length, hl]
    exact h w' hst'
theorem trimmed_last {ws : List Nat} {n x : Nat} (h : Trimmed ws) (hl : ws.length = n) (hx : ws[n - 1]? = some x) : 0 < x := by
  rcases Nat.eq_zero_or_pos x with h0 | h0
  · subst h0
    exact absurd (by rw [List.getLast?_eq_getElem?, hl]; exact hx) h
  · exact h0
theorem val_one {ws : List Nat} {x : Nat} (hl : ws.length = 1) (hx : ws[0]? = some x) : val ws = x := by
  match ws, hl with
  | [y], _ =>
    simp at hx
    subst hx
    simp [val]
theorem val_zeros {ws : List Nat} (m : Nat) : val (ws ++ (List.replicate m 0).drop ws.length) = val ws := by
  rw [val_append, List.drop_replicate, val_rep, Nat.mul_zero, Nat.add_zero]
theorem words_zeros {ws : List Nat} (h : Words ws) (m : Nat) : Words (ws ++ (List.replicate m 0).drop ws.length) := by
  refine h.append ?_
  rw [List.drop_replicate]
  exact Words.rep _
theorem len_zeros {ws : List Nat} {m : Nat} (h : ws.length ≤ m) : (ws ++ (List.replicate m 0).drop ws.length).length = m := by
  rw [List.length_append, List.drop_replicate, List.length_replicate]
  omega
theorem next_lt {us : List Nat} {j x V : Nat} (hx : us[j]? = some x) (hlt : x < 18446744073709551616) (h : val (us.drop (j + 1)) < V) : val (us.drop j) < 18446744073709551616 * V := by
  rw [val_drop_get hx]
  have := Nat.mul_le_mul_left 18446744073709551616 (show val (us.drop (j + 1)) + 1 ≤ V from h)
  omega
theorem divide_round {us us3 qs : List Nat} {j m d V A : Nat} (hjl : j + m + 1 ≤ us.length) (hl3 : us3.length = us.length) (ht : us3.take j = us.take j) (hd : us3.drop (j + m + 1) = us.drop (j + m + 1)) (hz : val (us.drop (j + m + 1)) = 0) (hq : j < qs.length)
    (hs : val ((us3.drop j).take (m + 1)) + d * V = val (us.drop j)) (hlt : val ((us3.drop j).take (m + 1)) < V) (hA : val us + 18446744073709551616 ^ (j + 1) * (val (qs.drop (j + 1)) * V) = A) :
    val (us3.drop j) < V ∧ val us3 + 18446744073709551616 ^ j * (val ((qs.set j d).drop j) * V) = A := by
  have h1 := val_split (us3.drop j) (m + 1) (by rw [List.length_drop]; omega)
  rw [List.drop_drop, show j + (m + 1) = j + m + 1 by omega, hd, hz, Nat.mul_zero, Nat.add_zero] at h1
  refine ⟨by rw [h1]; exact hlt, ?_⟩
  rw [← h1] at hs
  rw [val_split us3 j (by omega), ht, drop_set_ge hq]
  rw [pow_succ64] at hA
  exact divide_step hA (val_split us j (by omega)) hs
theorem divide_first {N M n m s k : Nat} (hN : N < 18446744073709551616 ^ n) (hM : 18446744073709551616 ^ (m - 1) ≤ M) (hm : 0 < m) (hmn : m ≤ n) (hk : k = n - m + 1) : N * 2 ^ s < 18446744073709551616 ^ k * (M * 2 ^ s) := by
  have h1 : N < 18446744073709551616 ^ k * M := by
    refine Nat.lt_of_lt_of_le hN (Nat.le_trans ?_ (Nat.mul_le_mul_left _ hM))
    rw [← Nat.pow_add]
    exact Nat.pow_le_pow_right (by decide) (by omega)
  rw [← Nat.mul_assoc]
  exact (Nat.mul_lt_mul_right (Nat.pow_pos (by decide))).2 h1
theorem shift_len {N n s : Nat} (hN : N < 18446744073709551616 ^ n) (hs : s ≤ 64) : N * 2 ^ s < 18446744073709551616 ^ (n + 1) := by
  have h1 : (2 : Nat) ^ s ≤ 2 ^ 64 := Nat.pow_le_pow_right (by decide) hs
  rw [Nat.pow_succ]
  exact Nat.lt_of_lt_of_le ((Nat.mul_lt_mul_right (Nat.pow_pos (show 0 < 2 by decide))).2 hN) (Nat.mul_le_mul_left _ h1)
theorem seg_lt {us : List Nat} {j m : Nat} (h : Words us) : val ((us.drop j).take m) < 18446744073709551616 ^ m := by
  have h1 := val_lt ((h.drop j).take m)
  refine Nat.lt_of_lt_of_le h1 (Nat.pow_le_pow_right (by decide) ?_)
  rw [List.length_take]
  exact Nat.min_le_left _ _
end Go.Proofs.Vc

namespace Go.Proofs.YtbamjcfdlgnicaaDoor
open Go Go.RowKit Go.Proofs.Vc
set_option linter.unusedVariables false
set_option linter.unusedSimpArgs false

set_option maxHeartbeats 4000000 in
set_option maxRecDepth 4000 in
theorem num_divide {g : Mem} {w : World} (hag : Agree g w) {A B : Option Addr} {n c m d N M : Nat} (ha : IsNat g A n N) (hb : IsNat g B m M) (hM : 0 < M) (hn : n ≤ 8796093022206) (hm : m ≤ 8796093022206) :
    CallTo Tryd.prog 60 #[.slice A n c, .slice B m d] w (Ret w g fun v g => ∃ A n c B m d, v = .tuple #[.slice A n c, .slice B m d] ∧ IsNat g A n (N / M) ∧ IsNat g B m (N % M)) := by
  refine CallTo.enter (vs := [.slice A n c, .slice B m d]) (by kernel_rfl : Tryd.prog.funcs[60]? = some Tryd.f60) (by kernel_rfl) rfl rfl rfl ?_
  have hst := St.init hag
  have hm0 : 0 < m := Nat.pos_of_ne_zero fun e => by have := hb.zero_iff.1 e; omega
  refine cp_seq ?_
  refine cp_region ?_
  refine stepK_d rfl rfl rfl hst (does_assign rfl rfl) ?_
  refine stepK_d rfl rfl rfl hst (does_assign rfl rfl) ?_
  refine wpK_nil ?_
  refine cp_then ?_
  refine cp_seq ?_
  refine cp_seq ?_
  refine cp_region ?_
  refine stepK_d rfl rfl rfl hst (does_move rfl rfl) ?_
  refine stepK_d rfl rfl rfl hst (does_move rfl rfl) ?_
  refine stepK_call rfl rfl rfl rfl rfl hst (num_compare hst.agree ha hb (by omega)) ?_
  clear hst
  intro v1 g1 w1 hst hle1 hcs1 hp1
  replace ha := ha.mono hle1
  replace hb := hb.mono hle1
  obtain rfl := hp1
  refine stepK_d rfl rfl rfl hst (does_lss rfl rfl rfl) ?_
  refine wpK_nil ?_
  refine cp_then ?_
  refine cp_if rfl ?_ ?_
  · intro c19
    have hlt := cmpN_neg.1 c19
    refine cp_seq ?_
    refine cp_region ?_
    refine stepK_d rfl rfl rfl hst (does_move rfl rfl) ?_
    obtain ⟨xs, hxs, hxw, hxt, hxv⟩ := ha
    refine stepK_append_copy rfl rfl rfl rfl (by kernel_rfl : Program.underlying Tryd.prog 64 = some (.slice 66)) (by kernel_rfl : elemInfo Tryd.prog 66 = some ((.int .u64 0), 1, 8)) rfl rfl rfl hst hxs (by omega) (by omega) ?_
    clear hst
    intro A9 c9 g9 w9 hst hle9 hcp
    refine stepK_d rfl rfl rfl hst (does_assign rfl rfl) ?_
    refine stepK_d rfl rfl rfl hst (does_assign rfl rfl) ?_
    refine wpK_nil ?_
    refine cp_then ?_
    refine cp_ret ?_
    refine at_then_ret ?_
    refine ret2 rfl rfl rfl hst ?_
    refine ⟨_, _, _, _, _, _, rfl, ?_, ?_⟩
    · rw [Nat.div_eq_of_lt hlt]; exact IsNat.nil _
    · rw [Nat.mod_eq_of_lt hlt]; exact ⟨xs, hcp, hxw, hxt, hxv⟩
  · intro c19
    have hge0 : M ≤ N := Nat.le_of_not_lt fun h => c19 (cmpN_neg.2 h)
    have hmn : m ≤ n := hb.len (Nat.lt_of_le_of_lt hge0 ha.lt)
    refine cp_skip ?_
    refine cp_then ?_
    refine cp_seq ?_
    refine cp_seq ?_
    refine cp_region ?_
    refine stepK_d rfl rfl rfl hst (does_move rfl rfl) ?_
    refine stepK_d rfl rfl rfl hst (does_len_slice rfl (by kernel_rfl : Program.underlying Tryd.prog 64 = some (.slice 66)) rfl) ?_
    refine stepK_d rfl rfl rfl hst (does_eql rfl rfl rfl) ?_
    refine wpK_nil ?_
    refine cp_then ?_
    refine cp_if rfl ?_ ?_
    · intro c24
      refine cp_seq ?_
      obtain ⟨ys, hys, hyw, hyt, hyv⟩ := id hb
      have hly := hys.1
      obtain rfl : m = 1 := by omega
      obtain ⟨b1, o1, rfl, hb1⟩ := hys.some_ (by omega)
      obtain ⟨y, hy⟩ := get_of_lt (ws := ys) (j := 0) (by omega)
      obtain rfl : y = M := by rw [← hyv]; exact (val_one hly hy).symm
      clear hys
      refine cp_region ?_
      refine stepK_d rfl rfl rfl hst (does_move rfl rfl) ?_
      refine stepK_d rfl rfl rfl hst (does_move rfl rfl) ?_
      refine stepK_d rfl rfl rfl hst (does_indexAddr1 (j := 0) rfl (by kernel_rfl : Program.underlying Tryd.prog 64 = some (.slice 66)) (by kernel_rfl) rfl rfl (by omega) (by omega)) ?_
      refine stepK_d rfl rfl rfl hst (does_load_g1 rfl (by kernel_rfl) rfl (hb1.at_ _ _ hy)) ?_
      refine stepK_call rfl rfl rfl rfl rfl hst (num_byWord hst.agree ha (hyw.get hy) hM (by omega)) ?_
      clear hst
      intro v2 g2 w2 hst hle2 hcs2 hp2
      replace ha := ha.mono hle2
      replace hb := hb.mono hle2
      obtain ⟨Q, qn, qc, rfl, hQ⟩ := hp2
      refine stepK_d rfl rfl rfl hst (does_move rfl rfl) ?_
      refine stepK_d rfl rfl rfl hst (does_extract rfl rfl rfl) ?_
      refine stepK_d rfl rfl rfl hst (does_extract rfl rfl rfl) ?_
      refine stepK_d rfl rfl rfl hst (does_assign rfl rfl) ?_
      refine stepK_d rfl rfl rfl hst (does_assign rfl rfl) ?_
      refine wpK_nil ?_
      refine cp_then ?_
      refine cp_seq ?_
      refine cp_region ?_
      refine stepK_d rfl rfl rfl hst (does_move rfl rfl) ?_
      refine stepK_d rfl rfl rfl hst (does_move rfl rfl) ?_
      refine stepK_call rfl rfl rfl rfl rfl hst (num_word hst.agree (Nat.lt_trans (Nat.mod_lt _ hM) (hyw.get hy))) ?_
      clear hst
      intro v3 g3 w3 hst hle3 hcs3 hp3
      replace ha := ha.mono hle3
      replace hb := hb.mono hle3
      replace hQ := hQ.mono hle3
      obtain ⟨A3, n3, c3, rfl, hn3⟩ := hp3
      refine stepK_d rfl rfl rfl hst (does_assign rfl rfl) ?_
      refine stepK_d rfl rfl rfl hst (does_assign rfl rfl) ?_
      refine wpK_nil ?_
      refine cp_then ?_
      refine cp_ret ?_
      refine at_then_ret ?_
      refine ret2 rfl rfl rfl hst ?_
      refine ⟨_, _, _, _, _, _, rfl, ?_, ?_⟩ <;> assumption
    · intro c24
      refine cp_skip ?_
      refine cp_then ?_
      refine cp_seq ?_
      obtain ⟨ys, hys, hyw, hyt, hyv⟩ := id hb
      have hly := hys.1
      obtain ⟨b1, o1, rfl, hb1⟩ := hys.some_ (by omega)
      obtain ⟨y, hy⟩ := get_of_lt (ws := ys) (j := m - 1) (by omega)
      have hylt := hyw.get hy
      refine cp_region ?_
      refine stepK_d rfl rfl rfl hst (does_move rfl rfl) ?_
      refine stepK_d rfl rfl rfl hst (does_len_slice rfl (by kernel_rfl : Program.underlying Tryd.prog 64 = some (.slice 66)) rfl) ?_
      refine stepK_d rfl rfl rfl hst (does_move rfl rfl) ?_
      refine stepK_d rfl rfl rfl hst (does_len_slice rfl (by kernel_rfl : Program.underlying Tryd.prog 64 = some (.slice 66)) rfl) ?_
      refine stepK_d rfl rfl rfl hst (does_move rfl rfl) ?_
      refine stepK_d rfl rfl rfl hst (does_len_slice rfl (by kernel_rfl : Program.underlying Tryd.prog 64 = some (.slice 66)) rfl) ?_
      refine stepK_d rfl rfl rfl hst (Does.int (does_sub rfl rfl rfl) (show _ = ((n - m : Nat) : Int) by rw [wrap_i64 (by omega) (by omega)]; omega)) ?_
      refine stepK_d rfl rfl rfl hst (does_assign rfl rfl) ?_
      refine stepK_d rfl rfl rfl hst (does_assign rfl rfl) ?_
      refine wpK_nil ?_
      refine cp_then ?_
      refine cp_seq ?_
      refine cp_region ?_
      refine stepK_d rfl rfl rfl hst (does_move rfl rfl) ?_
      refine stepK_d rfl rfl rfl hst (does_move rfl rfl) ?_
      refine stepK_d rfl rfl rfl hst (Does.int (does_sub rfl rfl rfl) (wrap_i64 (by omega) (by omega))) ?_
      refine stepK_d rfl rfl rfl hst (does_indexAddr1 (j := (m - 1)) rfl (by kernel_rfl : Program.underlying Tryd.prog 64 = some (.slice 66)) (by kernel_rfl) rfl rfl (by omega) (by omega)) ?_
      refine stepK_d rfl rfl rfl hst (does_load_g1 rfl (by kernel_rfl) rfl (hb1.at_ _ _ hy)) ?_
      refine stepK_call rfl rfl rfl rfl rfl hst (bits_LeadingZeros64 hst.agree hylt) ?_
      clear hst
      intro v4 g4 w4 hst hle4 hcs4 hp4
      replace ha := ha.mono hle4
      replace hb := hb.mono hle4
      obtain rfl := hp4
      obtain ⟨s, hs⟩ : ∃ s, s = 64 - bitLen y := ⟨_, rfl⟩
      rw [← hs]
      have hs64 : s ≤ 64 := by omega
      refine stepK_d rfl rfl rfl hst (does_assign rfl rfl) ?_
      refine wpK_nil ?_
      refine cp_then ?_
      refine cp_seq ?_
      refine cp_region ?_
      refine stepK_d rfl rfl rfl hst (does_move rfl rfl) ?_
      refine stepK_d rfl rfl rfl hst (does_move rfl rfl) ?_
      refine stepK_call rfl rfl rfl rfl rfl hst (num_left hst.agree hb (by omega) (by omega)) ?_
      clear hst
      intro v5 g5 w5 hst hle5 hcs5 hp5
      replace ha := ha.mono hle5
      replace hb := hb.mono hle5
      obtain ⟨V, vn, vc, rfl, vs, hvs, hvw, hvt, hvv⟩ := hp5
      have hlv := hvs.1
      have hnl := norm_len hyw hly hm0 hy hs
      rw [hyv] at hnl
      have hvl : val vs < 18446744073709551616 ^ m := by rw [hvv]; exact hnl
      obtain rfl : m = vn := Nat.le_antisymm (hb.len (Nat.lt_of_le_of_lt (Nat.le_mul_of_pos_right _ (show 0 < 2 ^ s from Nat.pow_pos (by decide))) (by rw [← hvv, ← hlv]; exact val_lt hvw))) (IsNat.len ⟨vs, hvs, hvw, hvt, rfl⟩ hvl)
      obtain ⟨b4, o4, rfl, hb4⟩ := hvs.some_ hm0
      have hV : 0 < val vs := val_pos hvt (by omega)
      refine stepK_d rfl rfl rfl hst (does_assign rfl rfl) ?_
      refine wpK_nil ?_
      refine cp_then ?_
      refine cp_seq ?_
      refine cp_region ?_
      refine stepK_d rfl rfl rfl hst (does_move rfl rfl) ?_
      refine stepK_d rfl rfl rfl hst (does_len_slice rfl (by kernel_rfl : Program.underlying Tryd.prog 64 = some (.slice 66)) rfl) ?_
      refine stepK_d rfl rfl rfl hst (Does.int (does_add rfl rfl rfl) (wrap_i64 (by omega) (by omega))) ?_
      refine stepK_make rfl rfl rfl (l := n + 1) (c := n + 1) rfl (by kernel_rfl : Program.underlying Tryd.prog 64 = some (.slice 66)) (by kernel_rfl : elemInfo Tryd.prog 66 = some ((.int .u64 0), 1, 8)) rfl rfl rfl rfl (by omega) (by omega) (by omega) (by omega) (by omega) hst ?_
      clear hst
      intro bu w6 hst
      rw [uN_rep] at hst
      refine stepK_d rfl rfl rfl hst (does_assign rfl rfl) ?_
      refine wpK_nil ?_
      refine cp_then ?_
      refine cp_seq ?_
      refine cp_region ?_
      refine stepK_d rfl rfl rfl hst (does_move rfl rfl) ?_
      refine stepK_d rfl rfl rfl hst (does_move rfl rfl) ?_
      refine stepK_d rfl rfl rfl hst (does_move rfl rfl) ?_
      refine stepK_call rfl rfl rfl rfl rfl hst (num_left hst.agree ha (by omega) (by omega)) ?_
      clear hst
      intro v7 g7 w7 hst hle7 hcs7 hp7
      replace ha := ha.mono hle7
      replace hb := hb.mono hle7
      replace hvs := hvs.mono hle7
      obtain ⟨L, ln, lc, rfl, ls, hls, hlw, hlt, hlv⟩ := hp7
      have hll := hls.1
      have hlnn : ln ≤ n + 1 := IsNat.len ⟨ls, hls, hlw, hlt, rfl⟩ (by rw [hlv]; exact shift_len ha.lt hs64)
      have hln0 : 0 < ln := Nat.pos_of_ne_zero fun e => by
        have h9 := (IsNat.zero_iff ⟨ls, hls, hlw, hlt, hlv⟩).1 e
        have h10 := Nat.mul_pos (show 0 < N by omega) (show 0 < 2 ^ s from Nat.pow_pos (by decide))
        omega
      refine stepK_copyN 0 rfl rfl rfl rfl (by kernel_rfl : Program.underlying Tryd.prog 64 = some (.slice 66)) (by kernel_rfl) rfl rfl hst rfl hls hln0 (by simp) (by omega) ?_
      clear hst
      intro w8 hst
      simp only [List.nil_append, List.set_cons_zero] at hst
      refine wpK_nil ?_
      refine cp_then ?_
      refine cp_seq ?_
      refine cp_region ?_
      refine stepK_d rfl rfl rfl hst (does_move rfl rfl) ?_
      refine stepK_d rfl rfl rfl hst (Does.int (does_add rfl rfl rfl) (wrap_i64 (by omega) (by omega))) ?_
      refine stepK_make rfl rfl rfl (l := n - m + 1) (c := n - m + 1) rfl (by kernel_rfl : Program.underlying Tryd.prog 64 = some (.slice 66)) (by kernel_rfl : elemInfo Tryd.prog 66 = some ((.int .u64 0), 1, 8)) rfl rfl rfl rfl (by omega) (by omega) (by omega) (by omega) (by omega) hst ?_
      clear hst
      intro bq w8 hst
      rw [uN_rep] at hst
      simp only [List.cons_append, List.nil_append] at hst
      refine stepK_d rfl rfl rfl hst (does_assign rfl rfl) ?_
      refine wpK_nil ?_
      refine cp_then ?_
      refine cp_seq ?_
      refine cp_seq ?_
      refine cp_region ?_
      refine stepK_d rfl rfl rfl hst (does_move rfl rfl) ?_
      refine stepK_d rfl rfl rfl hst (does_assign rfl rfl) ?_
      refine wpK_nil ?_
      refine cp_then ?_
      refine cp_block ?_
      refine cp_loop (ι := Nat × List Nat × List Nat) (fun (k, us, qs) => [(8, .int .i64 (m : Int)), (10, .int .i64 (s : Int)), (11, .slice (some ⟨b4, o4, none⟩) m vc), (12, .slice (some ⟨bu, 0, none⟩) (n + 1) (n + 1)), (13, .slice (some ⟨bq, 0, none⟩) (n - m + 1) (n - m + 1)), (14, .int .i64 ((k : Int) - 1))]) (fun (k, us, qs) w1 => ∃ g1, St w [] g g1 [(bu, .cells (uN .u64 us).toArray 66 (0, 0)), (bq, .cells (uN .u64 qs).toArray 66 (0, 0))] w1 ∧ SlN g1 .u64 (some ⟨b4, o4, none⟩) m vs ∧ k ≤ n - m + 1 ∧ Words us ∧ us.length = n + 1 ∧ Words qs ∧ qs.length = n - m + 1 ∧ val (us.drop k) < val vs ∧ val us + 18446744073709551616 ^ k * (val (qs.drop k) * val vs) = N * 2 ^ s) (fun (k, us, qs) => k) (n - m + 1, ls ++ (List.replicate (n + 1) 0).drop ls.length, List.replicate (n - m + 1) 0) ?k9 ?i9 ?r9
      case k9 => exact ⟨rfl, rfl, rfl, rfl, rfl, kint (by omega), trivial⟩
      case i9 =>
        exact ⟨_, hst, hvs, Nat.le_refl _, words_zeros hlw _, len_zeros (by omega), Words.rep _, by simp, by
          rw [hvv]
          refine Nat.lt_of_le_of_lt (Nat.le_of_eq (val_div_pow (words_zeros hlw _) (by rw [len_zeros (by omega)]; omega)).symm) ?_
          rw [val_zeros, hlv]
          exact (Nat.div_lt_iff_lt_mul (Nat.pow_pos (by decide))).2 (by rw [Nat.mul_comm _ (18446744073709551616 ^ _)]; exact divide_first ha.lt (hb.le hm0) hm0 hmn rfl), by
          rw [val_zeros, hlv, List.drop_eq_nil_of_le (by simp)]
          simp [val]⟩
      case r9 =>
        clear hst
        rintro ⟨k, us, qs⟩ w1 ⟨g1, hst, hvs, hk, hus, hul, hqs, hql, hlt, hA⟩
        refine cp_seq ?_
        refine cp_seq ?_
        refine cp_region ?_
        refine stepK_d rfl rfl rfl hst (does_move rfl rfl) ?_
        refine stepK_d rfl rfl rfl hst (does_geq rfl rfl rfl) ?_
        refine wpK_nil ?_
        refine cp_then ?_
        refine cp_if rfl ?_ ?_
        · intro c66
          refine cp_skip ?_
          refine cp_then ?_
          refine cp_seq ?_
          refine cp_block ?_
          refine cp_seq ?_
          obtain ⟨j, rfl⟩ : ∃ j, k = j + 1 := ⟨k - 1, by omega⟩
          have hlv := hvs.1
          obtain ⟨u2, hu2⟩ := get_of_lt (ws := us) (j := j + m) (by omega)
          obtain ⟨u1, hu1⟩ := get_of_lt (ws := us) (j := j + m - 1) (by omega)
          obtain ⟨u0, hu0⟩ := get_of_lt (ws := us) (j := j + m - 2) (by omega)
          obtain ⟨v1, hv1⟩ := get_of_lt (ws := vs) (j := m - 1) (by omega)
          obtain ⟨v0, hv0⟩ := get_of_lt (ws := vs) (j := m - 2) (by omega)
          obtain ⟨b5, o5, e5, hb4⟩ := hvs.some_ (by omega)
          cases e5
          obtain ⟨uj, huj⟩ := get_of_lt (ws := us) (j := j) (by omega)
          have hUV := next_lt huj (hus.get huj) hlt
          have hUB : val (us.drop j) < 18446744073709551616 ^ (m + 1) := by
            rw [Nat.pow_succ, Nat.mul_comm]
            exact Nat.lt_of_lt_of_le hUV (Nat.mul_le_mul_left _ (Nat.le_of_lt hvl))
          obtain ⟨hz3, hsg⟩ := rest_zero (j := j) hus hUB (by omega)
          rw [← Nat.add_assoc] at hz3
          refine cp_drawn (by kernel_rfl) 32 [(0, true), (1, true), (2, true), (3, true), (4, true), (5, true), (6, true), (7, true), (8, true), (9, true), (10, true), (11, true), (12, true), (13, true), (14, true), (15, true), (16, true), (17, true), (18, true), (19, true), (20, true), (21, true), (22, true), (23, true), (24, true), (25, true), (26, true), (27, true), (28, true), (29, true), (30, false), (31, true)] _ rfl (by kernel_rfl) (by kernel_rfl) (by kernel_rfl) (fun _ _ _ _ _ h => h) _ (hst.drew) ?_
          have hst0 := hst.drew
          clear hst
          have hst := hst0
          refine stepD_d rfl rfl rfl rfl (does_move rfl rfl) ?_
          refine stepD_d rfl rfl rfl rfl (does_move rfl rfl) ?_
          refine stepD_d rfl rfl rfl rfl (does_move rfl rfl) ?_
          refine stepD_d rfl rfl rfl rfl (Does.int (does_add rfl rfl rfl) (wrap_i64 (by omega) (by omega))) ?_
          refine stepD_d rfl rfl rfl rfl (does_indexAddr1 (j := (j + m)) rfl (by kernel_rfl : Program.underlying Tryd.prog 64 = some (.slice 66)) (by kernel_rfl) rfl rfl (by omega) (by omega)) ?_
          refine stepD_d rfl rfl rfl rfl (does_load_own1 0 rfl (by kernel_rfl) rfl rfl (uN_arr_get (by rw [Nat.zero_add]; exact hu2))) ?_
          refine stepD_d rfl rfl rfl rfl (does_move rfl rfl) ?_
          refine stepD_d rfl rfl rfl rfl (does_move rfl rfl) ?_
          refine stepD_d rfl rfl rfl rfl (does_move rfl rfl) ?_
          refine stepD_d rfl rfl rfl rfl (Does.int (does_add rfl rfl rfl) (wrap_i64 (by omega) (by omega))) ?_
          refine stepD_d rfl rfl rfl rfl (Does.int (does_sub rfl rfl rfl) (wrap_i64 (by omega) (by omega))) ?_
          refine stepD_d rfl rfl rfl rfl (does_indexAddr1 (j := (j + m - 1)) rfl (by kernel_rfl : Program.underlying Tryd.prog 64 = some (.slice 66)) (by kernel_rfl) rfl rfl (by omega) (by omega)) ?_
          refine stepD_d rfl rfl rfl rfl (does_load_own1 0 rfl (by kernel_rfl) rfl rfl (uN_arr_get (by rw [Nat.zero_add]; exact hu1))) ?_
          refine stepD_d rfl rfl rfl rfl (does_move rfl rfl) ?_
          refine stepD_d rfl rfl rfl rfl (does_move rfl rfl) ?_
          refine stepD_d rfl rfl rfl rfl (does_move rfl rfl) ?_
          refine stepD_d rfl rfl rfl rfl (Does.int (does_add rfl rfl rfl) (wrap_i64 (by omega) (by omega))) ?_
          refine stepD_d rfl rfl rfl rfl (Does.int (does_sub rfl rfl rfl) (wrap_i64 (by omega) (by omega))) ?_
          refine stepD_d rfl rfl rfl rfl (does_indexAddr1 (j := (j + m - 2)) rfl (by kernel_rfl : Program.underlying Tryd.prog 64 = some (.slice 66)) (by kernel_rfl) rfl rfl (by omega) (by omega)) ?_
          refine stepD_d rfl rfl rfl rfl (does_load_own1 0 rfl (by kernel_rfl) rfl rfl (uN_arr_get (by rw [Nat.zero_add]; exact hu0))) ?_
          refine stepD_d rfl rfl rfl rfl (does_move rfl rfl) ?_
          refine stepD_d rfl rfl rfl rfl (does_move rfl rfl) ?_
          refine stepD_d rfl rfl rfl rfl (Does.int (does_sub rfl rfl rfl) (wrap_i64 (by omega) (by omega))) ?_
          refine stepD_d rfl rfl rfl rfl (does_indexAddr1 (j := (m - 1)) rfl (by kernel_rfl : Program.underlying Tryd.prog 64 = some (.slice 66)) (by kernel_rfl) rfl rfl (by omega) (by omega)) ?_
          refine stepD_d rfl rfl rfl rfl (does_load_g1 rfl (by kernel_rfl) rfl (hb4.at_ _ _ hv1)) ?_
          refine stepD_d rfl rfl rfl rfl (does_move rfl rfl) ?_
          refine stepD_d rfl rfl rfl rfl (does_move rfl rfl) ?_
          refine stepD_d rfl rfl rfl rfl (Does.int (does_sub rfl rfl rfl) (wrap_i64 (by omega) (by omega))) ?_
          refine stepD_d rfl rfl rfl rfl (does_indexAddr1 (j := (m - 2)) rfl (by kernel_rfl : Program.underlying Tryd.prog 64 = some (.slice 66)) (by kernel_rfl) rfl rfl (by omega) (by omega)) ?_
          refine stepD_d rfl rfl rfl rfl (does_load_g1 rfl (by kernel_rfl) rfl (hb4.at_ _ _ hv0)) ?_
          refine stepD_call rfl rfl rfl rfl rfl rfl hst (num_guess hst.agree (hus.get hu2) (hus.get hu1) (hus.get hu0) (hvw.get hv1) (hvw.get hv0) (trimmed_last hvt hlv hv1)) (fun _ _ h hle => St.older h hle (by simp) hst0.ext hst0.le) ?_
          clear hst
          intro v10 g10 w10 hst hle10 hcs10 hp10
          have hlesum := hle10
          replace hvs := hvs.mono hle10
          obtain ⟨dg, rfl, hdg, hqm⟩ := hp10
          have hge : val (us.drop j) / val vs ≤ dg := hqm _ ((Nat.div_lt_iff_lt_mul hV).2 hUV) (digit_top hus hvw (by omega) (by omega) hlv hu2 hu1 hu0 hv1 hv0 hUB (Nat.div_mul_le_self _ _))
          refine stepD_d rfl rfl rfl rfl (does_assign rfl rfl) ?_
          refine stepD_tail ?_
          refine wpK_nil ?_
          refine cp_then ?_
          refine cp_join (ι := Nat × List Nat) (fun (dg, us3) => [(8, .int .i64 (m : Int)), (10, .int .i64 (s : Int)), (11, .slice (some ⟨b4, o4, none⟩) m vc), (12, .slice (some ⟨bu, 0, none⟩) (n + 1) (n + 1)), (13, .slice (some ⟨bq, 0, none⟩) (n - m + 1) (n - m + 1)), (14, .int .i64 (((j + 1 : Nat) : Int) - 1)), (15, .int .u64 (dg : Int))]) (fun (dg, us3) w2 => ∃ g5, St w [] g g5 [(bu, .cells (uN .u64 us3).toArray 66 (0, 0)), (bq, .cells (uN .u64 qs).toArray 66 (0, 0))] w2 ∧ SlN g5 .u64 (some ⟨b4, o4, none⟩) m vs ∧ Words us3 ∧ us3.length = us.length ∧ us3.take j = us.take j ∧ us3.drop (j + m + 1) = us.drop (j + m + 1) ∧ dg < 18446744073709551616 ∧ val ((us3.drop j).take (m + 1)) + dg * val vs = val (us.drop j) ∧ val ((us3.drop j).take (m + 1)) < val vs) ?c11 ?d11
          case c11 =>
            refine cp_seq ?_
            refine cp_region ?_
            refine stepK_d rfl rfl rfl hst (does_move rfl rfl) ?_
            refine stepK_d rfl rfl rfl hst (does_move rfl rfl) ?_
            refine stepK_d rfl rfl rfl hst (does_move rfl rfl) ?_
            refine stepK_d rfl rfl rfl hst (does_move rfl rfl) ?_
            refine stepK_d rfl rfl rfl hst (Does.int (does_add rfl rfl rfl) (wrap_i64 (by omega) (by omega))) ?_
            refine stepK_d rfl rfl rfl hst (Does.int (does_add rfl rfl rfl) (wrap_i64 (by omega) (by omega))) ?_
            refine stepK_d rfl rfl rfl hst (does_slice_mid (l := j) (m := m + 1) (r := j) rfl (by kernel_rfl : Program.underlying Tryd.prog 64 = some (.slice 66)) (by kernel_rfl) rfl rfl (by omega) rfl (by omega) (by omega) (by omega) (by omega)) ?_
            refine stepK_d rfl rfl rfl hst (does_move rfl rfl) ?_
            refine stepK_d rfl rfl rfl hst (does_move rfl rfl) ?_
            refine stepK_callM 0 rfl rfl rfl rfl rfl hst rfl (num_takeAway hst.agree (hst.owns _ (List.mem_cons_self ..)).1 (hst.owns _ (List.mem_cons_self ..)).2.1 hus (by omega) (by omega) hvs hvw hdg) ?_
            clear hst
            intro v12 g12 o12 w12 hst hle12 hp12
            simp only [List.set_cons_zero, List.set_cons_succ] at hst
            replace hvs := hvs.mono hle12
            obtain ⟨us2, br, rfl, rfl, hw2, hl2, ht2, hd2, hbr, hvv2⟩ := hp12
            rw [hsg] at hvv2
            refine wpK_nil ?_
            refine cp_then ?_
            refine cp_if rfl ?_ ?_
            · intro c109
              have hbr1 : br = 1 := by omega
              rw [hbr1, Nat.one_mul] at hvv2
              refine cp_seq ?_
              refine cp_region ?_
              refine stepK_d rfl rfl rfl hst (does_move rfl rfl) ?_
              refine stepK_d rfl rfl rfl hst (Does.nat (b := dg - 1) (does_sub_u64 (b := 1) rfl rfl rfl) (by have := digit_down hV hvv2 (seg_lt hw2) hge; omega)) ?_
              refine stepK_d rfl rfl rfl hst (does_assign rfl rfl) ?_
              refine wpK_nil ?_
              refine cp_then ?_
              refine cp_block ?_
              refine cp_loop (ι := Nat × List Nat) (fun (e, us3) => [(8, .int .i64 (m : Int)), (10, .int .i64 (s : Int)), (11, .slice (some ⟨b4, o4, none⟩) m vc), (12, .slice (some ⟨bu, 0, none⟩) (n + 1) (n + 1)), (13, .slice (some ⟨bq, 0, none⟩) (n - m + 1) (n - m + 1)), (14, .int .i64 (((j + 1 : Nat) : Int) - 1)), (15, .int .u64 ((e - 1 : Nat) : Int))]) (fun (e, us3) w3 => ∃ g6, St w [] g g6 [(bu, .cells (uN .u64 us3).toArray 66 (0, 0)), (bq, .cells (uN .u64 qs).toArray 66 (0, 0))] w3 ∧ SlN g6 .u64 (some ⟨b4, o4, none⟩) m vs ∧ Words us3 ∧ us3.length = us.length ∧ us3.take j = us.take j ∧ us3.drop (j + m + 1) = us.drop (j + m + 1) ∧ 0 < e ∧ e < 18446744073709551616 ∧ val (us.drop j) / val vs ≤ e - 1 ∧ val ((us3.drop j).take (m + 1)) + e * val vs = val (us.drop j) + 18446744073709551616 ^ (m + 1)) (fun (e, us3) => e) (dg, us2) ?k13 ?i13 ?r13
              case k13 => exact ⟨rfl, rfl, rfl, rfl, rfl, rfl, rfl, trivial⟩
              case i13 =>
                have h8 := digit_down hV hvv2 (seg_lt hw2) hge
                exact ⟨_, hst, hvs, hw2, hl2, ht2, hd2, h8.2, hdg, h8.1, hvv2⟩
              case r13 =>
                clear hst
                rintro ⟨e, us3⟩ w3 ⟨g6, hst, hvs, hw3, hl3, ht3, hd3, he0, heB, hge3, hs3⟩
                refine cp_seq ?_
                refine cp_seq ?_
                refine cp_region ?_
                refine stepK_d rfl rfl rfl hst (does_move rfl rfl) ?_
                refine stepK_d rfl rfl rfl hst (does_move rfl rfl) ?_
                refine stepK_d rfl rfl rfl hst (does_move rfl rfl) ?_
                refine stepK_d rfl rfl rfl hst (does_move rfl rfl) ?_
                refine stepK_d rfl rfl rfl hst (Does.int (does_add rfl rfl rfl) (wrap_i64 (by omega) (by omega))) ?_
                refine stepK_d rfl rfl rfl hst (Does.int (does_add rfl rfl rfl) (wrap_i64 (by omega) (by omega))) ?_
                refine stepK_d rfl rfl rfl hst (does_slice_mid (l := j) (m := m + 1) (r := j) rfl (by kernel_rfl : Program.underlying Tryd.prog 64 = some (.slice 66)) (by kernel_rfl) rfl rfl (by omega) rfl (by omega) (by omega) (by omega) (by omega)) ?_
                refine stepK_d rfl rfl rfl hst (does_move rfl rfl) ?_
                refine stepK_callM 0 rfl rfl rfl rfl rfl hst rfl (num_putBack hst.agree (hst.owns _ (List.mem_cons_self ..)).1 (hst.owns _ (List.mem_cons_self ..)).2.1 hw3 (by omega) (by omega) hvs hvw) ?_
                clear hst
                intro v14 g14 o14 w14 hst hle14 hp14
                simp only [List.set_cons_zero, List.set_cons_succ] at hst
                replace hvs := hvs.mono hle14
                obtain ⟨us4, br4, rfl, rfl, hw4, hl4, ht4, hd4, hbr, hv4⟩ := hp14
                refine stepK_d rfl rfl rfl hst (does_not rfl rfl) ?_
                refine wpK_nil ?_
                refine cp_then ?_
                refine cp_cond rfl ?_ ?_
                · intro c121
                  have hbr4 : br4 = 0 := by simpa using c121
                  refine cp_skip ?_
                  refine cp_then ?_
                  refine cp_block ?_
                  refine cp_region ?_
                  refine stepK_d rfl rfl rfl hst (does_move rfl rfl) ?_
                  refine stepK_d rfl rfl rfl hst (Does.nat (b := e - 1 - 1) (does_sub_u64 (b := 1) rfl rfl rfl) (by have := digit_down hV (digit_more hs3 he0 (hbr4 ▸ hv4)) (seg_lt hw4) hge3; omega)) ?_
                  refine stepK_d rfl rfl rfl hst (does_assign rfl rfl) ?_
                  refine wpK_nil ?_
                  refine at_block_normal ?_
                  refine round_end ((e - 1, us4)) ?_ ?_ ?_
                  · exact ⟨rfl, rfl, rfl, rfl, rfl, rfl, rfl, trivial⟩
                  · have h8 := digit_down hV (digit_more hs3 he0 (hbr4 ▸ hv4)) (seg_lt hw4) hge3
                    exact ⟨_, hst, hvs, hw4, by omega, ht4.trans ht3, hd4.trans hd3, h8.2, by omega, h8.1, digit_more hs3 he0 (hbr4 ▸ hv4)⟩
                  · show e - 1 < e
                    omega
                · intro c121
                  have hbr4 : br4 = 1 := by simp at c121; omega
                  refine cp_exit ?_
                  refine at_then_exit ?_
                  refine at_then_exit ?_
                  refine cp_exit_here ?_
                  have h7 := digit_add hs3 he0 (hbr4 ▸ hv4)
                  refine join_end ((e - 1, us4)) ?_ ?_
                  · exact ⟨rfl, rfl, rfl, rfl, rfl, rfl, rfl, trivial⟩
                  · have h8 := digit_now hV (q := 0) (p := 0) (by rw [Nat.zero_mul, Nat.add_zero]; exact h7) hge3
                    exact ⟨_, hst, hvs, hw4, by omega, ht4.trans ht3, hd4.trans hd3, by omega, h7, h8.2⟩
            · intro c109
              have hbr0 : br = 0 := by omega
              rw [hbr0] at hvv2
              refine cp_skip ?_
              have h8 := digit_now (q := 0) hV hvv2 hge
              refine join_end ((dg, us2)) ?_ ?_
              · exact ⟨rfl, rfl, rfl, rfl, rfl, rfl, rfl, trivial⟩
              · exact ⟨_, hst, hvs, hw2, hl2, ht2, hd2, hdg, h8.1, h8.2⟩
          case d11 =>
            clear hst
            clear hdg hge hqm
            rintro ⟨dg, us3⟩ w2 ⟨g5, hst, hvs, hw3, hl3, ht3, hd3, hdg3, hs3, hlt3⟩
            refine cp_region ?_
            refine stepK_d rfl rfl rfl hst (does_move rfl rfl) ?_
            refine stepK_d rfl rfl rfl hst (does_move rfl rfl) ?_
            refine stepK_d rfl rfl rfl hst (does_move rfl rfl) ?_
            refine stepK_d rfl rfl rfl hst (does_indexAddr1 (j := j) rfl (by kernel_rfl : Program.underlying Tryd.prog 64 = some (.slice 66)) (by kernel_rfl) rfl rfl (by omega) (by omega)) ?_
            refine stepK_store 1 rfl rfl rfl rfl rfl rfl (by kernel_rfl : sizeB Tryd.prog 66 = some 1) rfl rfl hst rfl (by first | (simp [uN_length]; omega) | simp) ?_
            clear hst
            intro w15 hst
            rw [Nat.zero_add, splice_uN _ _ _ _ (by omega)] at hst
            simp only [List.set_cons_zero, List.set_cons_succ] at hst
            refine wpK_nil ?_
            refine at_block_normal ?_
            refine cp_then ?_
            refine cp_region ?_
            refine stepK_d rfl rfl rfl hst (does_move rfl rfl) ?_
            refine stepK_d rfl rfl rfl hst (Does.int (does_sub rfl rfl rfl) (wrap_i64 (by omega) (by omega))) ?_
            refine stepK_d rfl rfl rfl hst (does_assign rfl rfl) ?_
            refine wpK_nil ?_
            obtain ⟨hr1, hr2⟩ := divide_round (by omega) hl3 ht3 hd3 hz3 (by omega) hs3 hlt3 hA
            refine round_end ((j, us3, qs.set j dg)) ?_ ?_ ?_
            · exact ⟨rfl, rfl, rfl, rfl, rfl, kint (by omega), trivial⟩
            · exact ⟨_, hst, hvs, by omega, hw3, by omega, hqs.set hdg3, by simp [hql], hr1, hr2⟩
            · show j < j + 1
              omega
        · intro c66
          refine cp_exit ?_
          refine at_then_exit ?_
          refine at_then_exit ?_
          refine cp_exit_here ?_
          refine cp_then ?_
          refine cp_seq ?_
          obtain rfl : k = 0 := by omega
          simp only [List.drop_zero, Nat.pow_zero, Nat.one_mul] at hlt hA
          rw [hvv] at hlt hA
          obtain ⟨hst, hleq⟩ := hst.publish 1 rfl
          obtain ⟨hst, hleu⟩ := hst.publish 0 rfl
          replace hvs := (hvs.mono hleq).mono hleu
          have hde := divide_end (Nat.pow_pos (by decide)) hM hA hlt
          have hsu := SlN.put_uN (g := gput g1 bq (.cells (uN .u64 qs).toArray 66 (0, 0))) (k := .u64) (b := bu) (ws := us) (t := 66) (f := (0, 0))
          rw [hul] at hsu
          have hsq := (SlN.put_uN (g := g1) (k := .u64) (b := bq) (ws := qs) (t := 66) (f := (0, 0))).mono hleu
          rw [hql] at hsq
          refine cp_region ?_
          refine stepK_d rfl rfl rfl hst (does_move rfl rfl) ?_
          refine stepK_call rfl rfl rfl rfl rfl hst (num_trim hst.agree hsq hqs (Nat.le_refl _) (by omega)) ?_
          clear hst
          intro v16 g16 w16 hst hle16 hcs16 hp16
          replace hvs := hvs.mono hle16
          replace hsu := hsu.mono hle16
          obtain ⟨Q, qn, qc, rfl, hQ⟩ := hp16
          refine stepK_d rfl rfl rfl hst (does_move rfl rfl) ?_
          refine stepK_call rfl rfl rfl rfl rfl hst (num_trim hst.agree hsu hus (Nat.le_refl _) (by omega)) ?_
          clear hst
          intro v17 g17 w17 hst hle17 hcs17 hp17
          replace hvs := hvs.mono hle17
          replace hsu := hsu.mono hle17
          replace hQ := hQ.mono hle17
          obtain ⟨R, rn, rc, rfl, hR⟩ := hp17
          have hrn : rn ≤ m := hR.len (Nat.lt_trans hlt (by rw [← hvv]; exact hvl))
          refine stepK_d rfl rfl rfl hst (does_move rfl rfl) ?_
          refine stepK_call rfl rfl rfl rfl rfl hst (num_right hst.agree hR (by omega) (by omega)) ?_
          clear hst
          intro v18 g18 w18 hst hle18 hcs18 hp18
          replace hvs := hvs.mono hle18
          replace hsu := hsu.mono hle18
          replace hQ := hQ.mono hle18
          replace hR := hR.mono hle18
          obtain ⟨A18, n18, c18, rfl, hn18⟩ := hp18
          refine stepK_d rfl rfl rfl hst (does_assign rfl rfl) ?_
          refine stepK_d rfl rfl rfl hst (does_assign rfl rfl) ?_
          refine wpK_nil ?_
          refine cp_then ?_
          refine cp_ret ?_
          refine ret2 rfl rfl rfl hst ?_
          refine ⟨_, _, _, _, _, _, rfl, ?_, ?_⟩
          · rw [← hde.1]; exact hQ
          · rw [← hde.2]; assumption

end Go.Proofs.YtbamjcfdlgnicaaDoor

namespace Go.Proofs.Vc
open Go
set_option linter.unusedVariables false
theorem gcd_step {x y : Nat} : Nat.gcd y (x % y) = Nat.gcd x y := by rw [Nat.gcd_comm y, ← Nat.gcd_rec, Nat.gcd_comm]
theorem IsNat.word {g : Mem} {A : Option Addr} {N : Nat} (h : IsNat g A 1 N) : ∃ b o, A = some ⟨b, o, none⟩ ∧ N < 18446744073709551616 ∧ gcell g b (o + 0) = some (.int .u64 (N : Int)) := by
  obtain ⟨ws, hs, hw, ht, rfl⟩ := h
  obtain ⟨b, o, rfl, hc⟩ := hs.some_ (by decide)
  obtain ⟨x, hx⟩ := get_of_lt (ws := ws) (j := 0) (by have := hs.1; omega)
  rw [val_one hs.1 hx]
  exact ⟨b, o, rfl, hw.get hx, hc.at_ 0 x hx⟩
end Go.Proofs.Vc

namespace Go.Proofs.YtbamjcfdlgnicaaDoor
open Go Go.RowKit Go.Proofs.Vc
set_option linter.unusedVariables false
set_option linter.unusedSimpArgs false

set_option maxHeartbeats 1000000 in
theorem num_divisor {g : Mem} {w : World} (hag : Agree g w) {A B : Option Addr} {n c m d N M : Nat} (ha : IsNat g A n N) (hb : IsNat g B m M) (hn : n ≤ 8796093022206) (hm : m ≤ 8796093022206) :
    CallTo Tryd.prog 59 #[.slice A n c, .slice B m d] w (Ret w g fun v g => ∃ A n c, v = .slice A n c ∧ IsNat g A n (Nat.gcd N M)) := by
  refine CallTo.enter (vs := [.slice A n c, .slice B m d]) (by kernel_rfl : Tryd.prog.funcs[59]? = some Tryd.f59) (by kernel_rfl) rfl rfl rfl ?_
  have hst := St.init hag
  refine cp_seq ?_
  refine cp_region ?_
  refine stepK_d rfl rfl rfl hst (does_assign rfl rfl) ?_
  refine wpK_nil ?_
  refine cp_then ?_
  refine cp_seq ?_
  refine cp_block ?_
  refine cp_loop (ι := Option Addr × Nat × Nat × Nat × Option Addr × Nat × Nat × Nat) (fun (A, n, c, X, B, m, d, Y) => [(0, .slice A n c), (1, .slice B m d)]) (fun (A, n, c, X, B, m, d, Y) w1 => ∃ g1, St w [] g g1 [] w1 ∧ IsNat g1 A n X ∧ IsNat g1 B m Y ∧ n ≤ 8796093022206 ∧ m ≤ 8796093022206 ∧ Nat.gcd X Y = Nat.gcd N M) (fun (A, n, c, X, B, m, d, Y) => Y) (A, n, c, N, B, m, d, M) ?k1 ?i1 ?r1
  case k1 => exact ⟨rfl, rfl, trivial⟩
  case i1 =>
    exact ⟨_, hst, ha, hb, hn, hm, rfl⟩
  case r1 =>
    clear hst
    clear ha hb hn hm
    rintro ⟨A, n, c, X, B, m, d, Y⟩ w1 ⟨g1, hst, ha, hb, hn, hm, hG⟩
    refine cp_seq ?_
    refine cp_seq ?_
    refine cp_region ?_
    refine stepK_d rfl rfl rfl hst (does_move rfl rfl) ?_
    refine stepK_d rfl rfl rfl hst (does_len_slice rfl (by kernel_rfl : Program.underlying Tryd.prog 64 = some (.slice 66)) rfl) ?_
    refine stepK_d rfl rfl rfl hst (does_gtr rfl rfl rfl) ?_
    refine wpK_nil ?_
    refine cp_then ?_
    refine cp_if rfl ?_ ?_
    · intro c11
      refine cp_skip ?_
      refine cp_then ?_
      refine cp_block ?_
      refine cp_seq ?_
      refine cp_seq ?_
      have hY0 : 0 < Y := Nat.pos_of_ne_zero fun e => by have := hb.zero_iff.2 e; omega
      refine cp_region ?_
      refine stepK_d rfl rfl rfl hst (does_move rfl rfl) ?_
      refine stepK_d rfl rfl rfl hst (does_len_slice rfl (by kernel_rfl : Program.underlying Tryd.prog 64 = some (.slice 66)) rfl) ?_
      refine stepK_d rfl rfl rfl hst (does_leq rfl rfl rfl) ?_
      refine stepK_d rfl rfl rfl hst (does_move rfl rfl) ?_
      refine wpK_split (t := 15) rfl ?_ ?_
      · intro s15
        refine stepK_guard rfl rfl rfl rfl rfl rfl hst (does_move rfl rfl) ?_
        refine stepK_guard rfl rfl rfl rfl rfl rfl hst (does_len_slice rfl (by kernel_rfl : Program.underlying Tryd.prog 64 = some (.slice 66)) rfl) ?_
        refine stepK_guard rfl rfl rfl rfl rfl rfl hst (does_leq rfl rfl rfl) ?_
        refine stepK_d rfl rfl rfl hst (does_pick_true rfl rfl rfl) ?_
        refine wpK_nil ?_
        refine cp_then ?_
        refine cp_if rfl ?_ ?_
        · intro c19
          refine cp_seq ?_
          obtain rfl : m = 1 := by omega
          obtain ⟨b1, o1, rfl, hYl, hcY⟩ := hb.word
          have hXl : X < 18446744073709551616 := by
            have h9 := ha.lt
            refine Nat.lt_of_lt_of_le h9 (Nat.le_trans (Nat.pow_le_pow_right (by decide) (show n ≤ 1 by omega)) (by decide))
          refine cp_drawn (by kernel_rfl) 5 [(0, true), (1, true), (2, true), (3, true), (4, true)] _ rfl (by kernel_rfl) (by kernel_rfl) (by kernel_rfl) (fun _ _ _ _ _ h => h) _ (hst.drew) ?_
          have hst0 := hst.drew
          clear hst
          have hst := hst0
          refine stepD_d rfl rfl rfl rfl (does_move rfl rfl) ?_
          refine stepD_d rfl rfl rfl rfl (does_indexAddr1 rfl (by kernel_rfl : Program.underlying Tryd.prog 64 = some (.slice 66)) (by kernel_rfl) rfl rfl rfl (by decide)) ?_
          refine stepD_d rfl rfl rfl rfl (does_load_g1 rfl (by kernel_rfl) rfl hcY) ?_
          refine stepD_d rfl rfl rfl rfl (does_assign rfl rfl) ?_
          refine stepD_d rfl rfl rfl rfl (does_assign rfl rfl) ?_
          refine stepD_tail ?_
          refine wpK_nil ?_
          refine cp_then ?_
          refine cp_join (ι := Nat) (fun x => [(5, .int .u64 (x : Int)), (6, .int .u64 (Y : Int))]) (fun x w2 => St w [] g g1 [] w2 ∧ x = X) ?c2 ?d2
          case c2 =>
            refine cp_seq ?_
            refine cp_region ?_
            refine stepK_d rfl rfl rfl hst (does_move rfl rfl) ?_
            refine stepK_d rfl rfl rfl hst (does_len_slice rfl (by kernel_rfl : Program.underlying Tryd.prog 64 = some (.slice 66)) rfl) ?_
            refine stepK_d rfl rfl rfl hst (does_gtr rfl rfl rfl) ?_
            refine wpK_nil ?_
            refine cp_then ?_
            refine cp_if rfl ?_ ?_
            · intro c25
              obtain rfl : n = 1 := by omega
              obtain ⟨b2, o2, rfl, hXl2, hcX⟩ := ha.word
              refine cp_region ?_
              refine stepK_d rfl rfl rfl hst (does_move rfl rfl) ?_
              refine stepK_d rfl rfl rfl hst (does_indexAddr1 rfl (by kernel_rfl : Program.underlying Tryd.prog 64 = some (.slice 66)) (by kernel_rfl) rfl rfl rfl (by decide)) ?_
              refine stepK_d rfl rfl rfl hst (does_load_g1 rfl (by kernel_rfl) rfl hcX) ?_
              refine stepK_d rfl rfl rfl hst (does_assign rfl rfl) ?_
              refine wpK_nil ?_
              refine join_end (X) ?_ ?_
              · exact ⟨rfl, rfl, trivial⟩
              · exact ⟨hst, rfl⟩
            · intro c25
              refine cp_skip ?_
              have hn0 : n = 0 := by omega
              refine join_end (0) ?_ ?_
              · exact ⟨rfl, rfl, trivial⟩
              · exact ⟨hst, (ha.zero_iff.1 hn0).symm⟩
          case d2 =>
            clear hst
            rintro x w2 ⟨hst, rfl⟩
            refine cp_seq ?_
            refine cp_block ?_
            refine cp_loop (ι := Nat × Nat) (fun (x, y) => [(5, .int .u64 (x : Int)), (6, .int .u64 (y : Int))]) (fun (x, y) w3 => St w [] g g1 [] w3 ∧ x < 18446744073709551616 ∧ y < 18446744073709551616 ∧ Nat.gcd x y = Nat.gcd N M) (fun (x, y) => y) (x, Y) ?k3 ?i3 ?r3
            case k3 => exact ⟨rfl, rfl, trivial⟩
            case i3 =>
              exact ⟨hst, hXl, hYl, hG⟩
            case r3 =>
              clear hst
              rintro ⟨x, y⟩ w3 ⟨hst, hx, hy, hG⟩
              refine cp_seq ?_
              refine cp_seq ?_
              refine cp_region ?_
              refine stepK_d rfl rfl rfl hst (does_move rfl rfl) ?_
              refine stepK_d rfl rfl rfl hst (does_neq_n (b := 0) rfl rfl rfl) ?_
              refine wpK_nil ?_
              refine cp_then ?_
              refine cp_if rfl ?_ ?_
              · intro c30
                refine cp_skip ?_
                refine cp_then ?_
                refine cp_block ?_
                refine cp_drawn (by kernel_rfl) 6 [(0, true), (1, true), (2, true), (3, true), (4, true), (5, true)] _ rfl (by kernel_rfl) (by kernel_rfl) (by kernel_rfl) (fun _ _ _ _ _ h => h) _ (hst.drew) ?_
                have hst0 := hst.drew
                clear hst
                have hst := hst0
                refine stepD_d rfl rfl rfl rfl (does_move rfl rfl) ?_
                refine stepD_d rfl rfl rfl rfl (does_move rfl rfl) ?_
                refine stepD_d rfl rfl rfl rfl (does_move rfl rfl) ?_
                refine stepD_d rfl rfl rfl rfl (does_rem_n rfl rfl rfl (by omega)) ?_
                refine stepD_d rfl rfl rfl rfl (does_assign rfl rfl) ?_
                refine stepD_d rfl rfl rfl rfl (does_assign rfl rfl) ?_
                refine stepD_tail ?_
                refine wpK_nil ?_
                refine at_block_normal ?_
                refine round_end ((y, x % y)) ?_ ?_ ?_
                · exact ⟨rfl, rfl, trivial⟩
                · exact ⟨hst, hy, Nat.lt_trans (Nat.mod_lt _ (by omega)) hy, gcd_step.trans hG⟩
                · show x % y < y
                  exact Nat.mod_lt _ (by omega)
              · intro c30
                refine cp_exit ?_
                refine at_then_exit ?_
                refine at_then_exit ?_
                refine cp_exit_here ?_
                refine cp_then ?_
                refine cp_seq ?_
                refine cp_region ?_
                refine stepK_d rfl rfl rfl hst (does_move rfl rfl) ?_
                refine stepK_call rfl rfl rfl rfl rfl hst (num_word hst.agree hx) ?_
                clear hst
                intro v4 g4 w4 hst hle4 hcs4 hp4
                obtain ⟨A4, n4, c4, rfl, hn4⟩ := hp4
                refine stepK_d rfl rfl rfl hst (does_assign rfl rfl) ?_
                refine wpK_nil ?_
                refine cp_then ?_
                refine cp_ret ?_
                refine at_then_ret ?_
                refine at_block_ret ?_
                refine at_then_ret ?_
                refine at_block_ret ?_
                refine at_then_ret ?_
                refine ret1 rfl rfl hst ?_
                refine ⟨_, _, _, rfl, ?_⟩
                obtain rfl : y = 0 := by omega
                rw [Nat.gcd_zero_right] at hG
                rw [← hG]
                assumption
        · intro c19
          refine cp_skip ?_
          refine cp_then ?_
          refine cp_seq ?_
          refine cp_region ?_
          refine stepK_d rfl rfl rfl hst (does_move rfl rfl) ?_
          refine stepK_d rfl rfl rfl hst (does_move rfl rfl) ?_
          refine stepK_call rfl rfl rfl rfl rfl hst (num_divide hst.agree ha hb hY0 hn hm) ?_
          clear hst
          intro v5 g5 w5 hst hle5 hcs5 hp5
          replace ha := ha.mono hle5
          replace hb := hb.mono hle5
          obtain ⟨A8, n8, c8, B9, m9, d9, rfl, hQ, hR⟩ := hp5
          refine stepK_d rfl rfl rfl hst (does_move rfl rfl) ?_
          refine stepK_d rfl rfl rfl hst (does_extract rfl rfl rfl) ?_
          refine stepK_d rfl rfl rfl hst (does_extract rfl rfl rfl) ?_
          refine stepK_d rfl rfl rfl hst (does_assign rfl rfl) ?_
          refine stepK_d rfl rfl rfl hst (does_assign rfl rfl) ?_
          refine wpK_nil ?_
          refine cp_then ?_
          refine cp_region ?_
          refine stepK_d rfl rfl rfl hst (does_move rfl rfl) ?_
          refine stepK_d rfl rfl rfl hst (does_move rfl rfl) ?_
          refine stepK_d rfl rfl rfl hst (does_assign rfl rfl) ?_
          refine stepK_d rfl rfl rfl hst (does_assign rfl rfl) ?_
          refine wpK_nil ?_
          refine at_block_normal ?_
          refine round_end ((B, m, d, Y, B9, m9, d9, X % Y)) ?_ ?_ ?_
          · exact ⟨rfl, rfl, trivial⟩
          · exact ⟨_, hst, hb, hR, hm, by have := hR.len (Nat.lt_trans (Nat.mod_lt X hY0) hb.lt); omega, gcd_step.trans hG⟩
          · show X % Y < Y
            exact Nat.mod_lt _ hY0
      · intro s15
        refine stepK_pass rfl rfl rfl rfl rfl rfl rfl ?_
        refine stepK_pass rfl rfl rfl rfl rfl rfl rfl ?_
        refine stepK_pass rfl rfl rfl rfl rfl rfl rfl ?_
        refine stepK_d rfl rfl rfl hst (does_pick_false rfl rfl rfl) ?_
        refine wpK_nil ?_
        refine cp_then ?_
        refine cp_cond_false rfl ?_
        refine cp_skip ?_
        refine cp_then ?_
        refine cp_seq ?_
        refine cp_region ?_
        refine stepK_d rfl rfl rfl hst (does_move rfl rfl) ?_
        refine stepK_d rfl rfl rfl hst (does_move rfl rfl) ?_
        refine stepK_call rfl rfl rfl rfl rfl hst (num_divide hst.agree ha hb hY0 hn hm) ?_
        clear hst
        intro v6 g6 w6 hst hle6 hcs6 hp6
        replace ha := ha.mono hle6
        replace hb := hb.mono hle6
        obtain ⟨A8, n8, c8, B9, m9, d9, rfl, hQ, hR⟩ := hp6
        refine stepK_d rfl rfl rfl hst (does_move rfl rfl) ?_
        refine stepK_d rfl rfl rfl hst (does_extract rfl rfl rfl) ?_
        refine stepK_d rfl rfl rfl hst (does_extract rfl rfl rfl) ?_
        refine stepK_d rfl rfl rfl hst (does_assign rfl rfl) ?_
        refine stepK_d rfl rfl rfl hst (does_assign rfl rfl) ?_
        refine wpK_nil ?_
        refine cp_then ?_
        refine cp_region ?_
        refine stepK_d rfl rfl rfl hst (does_move rfl rfl) ?_
        refine stepK_d rfl rfl rfl hst (does_move rfl rfl) ?_
        refine stepK_d rfl rfl rfl hst (does_assign rfl rfl) ?_
        refine stepK_d rfl rfl rfl hst (does_assign rfl rfl) ?_
        refine wpK_nil ?_
        refine at_block_normal ?_
        refine round_end ((B, m, d, Y, B9, m9, d9, X % Y)) ?_ ?_ ?_
        · exact ⟨rfl, rfl, trivial⟩
        · exact ⟨_, hst, hb, hR, hm, by have := hR.len (Nat.lt_trans (Nat.mod_lt X hY0) hb.lt); omega, gcd_step.trans hG⟩
        · show X % Y < Y
          exact Nat.mod_lt _ hY0
    · intro c11
      refine cp_exit ?_
      refine at_then_exit ?_
      refine at_then_exit ?_
      refine cp_exit_here ?_
      refine cp_then ?_
      refine cp_seq ?_
      refine cp_region ?_
      refine stepK_d rfl rfl rfl hst (does_move rfl rfl) ?_
      refine stepK_d rfl rfl rfl hst (does_assign rfl rfl) ?_
      refine wpK_nil ?_
      refine cp_then ?_
      refine cp_ret ?_
      refine ret1 rfl rfl hst ?_
      refine ⟨_, _, _, rfl, ?_⟩
      obtain rfl : Y = 0 := hb.zero_iff.1 (by omega)
      rw [Nat.gcd_zero_right] at hG
      rw [← hG]
      exact ha

end Go.Proofs.YtbamjcfdlgnicaaDoor

namespace Go.Proofs.Vc
open Go Go.RowKit
set_option linter.unusedVariables false
/-- byte i of a string -/
def bt (s : ByteArray) (i : Nat) : Nat := if h : i < s.size then (s[i]'h).toNat else 0
theorem bt_eq {s : ByteArray} {i : Nat} (h : i < s.size) : (s[i]'h).toNat = bt s i := by simp [bt, h]
theorem bt_lt (s : ByteArray) (i : Nat) : bt s i < 256 := by
  unfold bt
  split
  · exact (s[i]).toNat_lt
  · decide
theorem bt_extract {s : ByteArray} {p q i : Nat} (hq : q ≤ s.size) (hi : p + i < q) : bt (s.extract p q) i = bt s (p + i) := by
  have h1 : i < (s.extract p q).size := by rw [ByteArray.size_extract]; omega
  rw [← bt_eq h1, ByteArray.getElem_extract, bt_eq (by omega)]
theorem size_tail {s : ByteArray} {p : Nat} : (s.extract p s.size).size = s.size - p := by rw [ByteArray.size_extract, Nat.min_self]
theorem extract_tail {s : ByteArray} {p k : Nat} : (s.extract p s.size).extract k (s.extract p s.size).size = s.extract (p + k) s.size := by
  rw [ByteArray.extract_extract, size_tail]
  rcases Nat.le_total p s.size with h | h
  · congr 1
    omega
  · apply ByteArray.ext_getElem
    · rw [ByteArray.size_extract, ByteArray.size_extract]; omega
    · intro i hi
      rw [ByteArray.size_extract] at hi
      omega
theorem bytes_ext {a b : ByteArray} (hs : a.size = b.size) (h : ∀ i, i < a.size → bt a i = bt b i) : a = b := by
  refine ByteArray.ext_getElem hs fun i hi hi' => ?_
  have h1 := h i hi
  rw [← bt_eq hi, ← bt_eq hi'] at h1
  exact UInt8.toNat_inj.1 h1
/-- all bytes are decimal digits -/
def AllDig (s : ByteArray) : Prop := ∀ i, i < s.size → 48 ≤ bt s i ∧ bt s i ≤ 57
/-- the number that the first n digits stand for -/
def dval (s : ByteArray) : Nat → Nat
  | 0 => 0
  | n + 1 => 10 * dval s n + (bt s n - 48)
theorem dval_lt {s : ByteArray} (h : AllDig s) : ∀ n, n ≤ s.size → dval s n < 10 ^ n
  | 0, _ => by simp [dval]
  | n + 1, hn => by
    have h1 := dval_lt h n (by omega)
    have h2 := h n (by omega)
    simp only [dval, Nat.pow_succ]
    omega
theorem ten_le (n : Nat) : 10 ^ n ≤ 18446744073709551616 ^ n := Nat.pow_le_pow_left (by decide) n
theorem IsNat.lit {g : Mem} {b : Nat} {t : TypeId} {f : Nat × Nat} {x : Nat} (h0 : x ≠ 0) (hx : x < 18446744073709551616) : IsNat (gput g b (.cells [Value.int .u64 (x : Int)].toArray t f)) (some ⟨b, 0, none⟩) 1 x :=
  ⟨[x], SlN.put_uN (ws := [x]), Words.cons hx Words.nil, by simp [Trimmed]; omega, by simp [val]⟩
theorem St.lit {w0 w : World} {g0 g : Mem} {own : List (Nat × Obj)} {b : Nat} {t : TypeId} {x : Nat} (h : St w0 [] g0 g (own ++ [(b, .cells [Value.int .u64 (x : Int)].toArray t (0, 0))]) w) (h0 : x ≠ 0) (hx : x < 18446744073709551616) :
    ∃ g', St w0 [] g0 g' own w ∧ g.le g' ∧ IsNat g' (some ⟨b, 0, none⟩) 1 x := by
  have hk : (own ++ [(b, Obj.cells [Value.int .u64 (x : Int)].toArray t (0, 0))])[own.length]? = some (b, .cells [Value.int .u64 (x : Int)].toArray t (0, 0)) := by simp
  obtain ⟨h8, h9⟩ := h.publish own.length hk
  have he : (own ++ [(b, Obj.cells [Value.int .u64 (x : Int)].toArray t (0, 0))]).eraseIdx own.length = own := by
    rw [List.eraseIdx_append_of_length_le (Nat.le_refl _)]
    simp
  rw [he] at h8
  exact ⟨_, h8, h9, IsNat.lit h0 hx⟩
/-- a chunk of k digits behind p digits -/
theorem chunk_step {s : ByteArray} {p i wv : Nat} (h : dval s p * 10 ^ i + wv = dval s (p + i)) : dval s p * 10 ^ (i + 1) + (10 * wv + (bt s (p + i) - 48)) = dval s (p + (i + 1)) := by
  show _ = 10 * dval s (p + i) + (bt s (p + i) - 48)
  rw [← h, Nat.pow_succ, ← Nat.mul_assoc]
  omega
theorem chunk_lt {i k wv d : Nat} (hi : i < k) (hk : k ≤ 19) (hw : wv < 10 ^ i) (hd : d ≤ 9) : 10 * wv + d < 10 ^ (i + 1) ∧ 10 * wv + d < 18446744073709551616 := by
  have h1 : 10 ^ (i + 1) = 10 ^ i * 10 := Nat.pow_succ ..
  have h2 : 10 ^ (i + 1) ≤ 10 ^ 19 := Nat.pow_le_pow_right (by decide) (by omega)
  have h3 : (10 : Nat) ^ 19 = 10000000000000000000 := by decide
  omega
theorem does_index_bt {P : Program} {S : World → Prop} {kn : Kn} {o : Oper} {t : TypeId} {x y : Operand} {s : ByteArray} {k : IntKind} {i : Int} {j : Nat} (ho : o.op = .index t x y) (hu : P.underlying t = some .string) (hx : kev kn x = some (.string s)) (hy : kev kn y = some (.int k i)) (hj : i = (j : Int)) (hlt : j < s.size) :
    Does P S kn o (.int .u8 ((bt s j : Nat) : Int)) := (does_index_string ho hu hx hy hj hlt).cast (by rw [bt_eq hlt])
theorem size_pos_of_ne {s : ByteArray} (h : s ≠ ⟨#[]⟩) : 0 < s.size := Nat.pos_of_ne_zero fun e => h (bytes_ext e fun i hi => by omega)
end Go.Proofs.Vc

namespace Go.Proofs.YtbamjcfdlgnicaaDoor
open Go Go.RowKit Go.Proofs.Vc
set_option linter.unusedVariables false
set_option linter.unusedSimpArgs false

set_option maxHeartbeats 1000000 in
theorem num_digits {g : Mem} {w : World} (hag : Agree g w) {s : ByteArray} (hd : AllDig s) (hs : s.size ≤ 1099511627776) :
    CallTo Tryd.prog 42 #[.string s] w (Ret w g fun v g => ∃ A n c, v = .slice A n c ∧ IsNat g A n (dval s s.size)) := by
  refine CallTo.enter (vs := [.string s]) (by kernel_rfl : Tryd.prog.funcs[42]? = some Tryd.f42) (by kernel_rfl) rfl rfl rfl ?_
  have hst := St.init hag
  refine cp_seq ?_
  refine cp_region ?_
  refine stepK_d rfl rfl rfl hst (does_assign rfl rfl) ?_
  refine wpK_nil ?_
  refine cp_then ?_
  refine cp_seq ?_
  refine cp_region ?_
  refine stepK_d rfl rfl rfl hst (does_assign rfl rfl) ?_
  refine wpK_nil ?_
  refine cp_then ?_
  refine cp_seq ?_
  refine cp_block ?_
  refine cp_loop (ι := ByteArray × Nat × Option Addr × Nat × Nat) (fun (t, p, A, n, c) => [(0, .string t), (3, .slice A n c)]) (fun (t, p, A, n, c) w1 => ∃ g1, St w [] g g1 [] w1 ∧ t = s.extract p s.size ∧ p ≤ s.size ∧ (p = 0 ∨ (s.size - p) % 19 = 0) ∧ IsNat g1 A n (dval s p)) (fun (t, p, A, n, c) => s.size - p) (s, 0, none, 0, 0) ?k1 ?i1 ?r1
  case k1 => exact ⟨rfl, rfl, trivial⟩
  case i1 =>
    exact ⟨_, hst, by rw [ByteArray.extract_zero_size], Nat.zero_le _, .inl rfl, IsNat.nil _⟩
  case r1 =>
    clear hst
    rintro ⟨t, p, A, n, c⟩ w1 ⟨g1, hst, ht, hp, hp19, ha⟩
    have htl : t.size = s.size - p := by rw [ht, size_tail]
    refine cp_seq ?_
    refine cp_seq ?_
    refine cp_region ?_
    refine stepK_d rfl rfl rfl hst (does_move rfl rfl) ?_
    refine stepK_d rfl rfl rfl hst (does_len_string rfl (by kernel_rfl) rfl) ?_
    refine stepK_d rfl rfl rfl hst (does_gtr rfl rfl rfl) ?_
    refine wpK_nil ?_
    refine cp_then ?_
    refine cp_if rfl ?_ ?_
    · intro c9
      refine cp_skip ?_
      refine cp_then ?_
      refine cp_block ?_
      refine cp_seq ?_
      refine cp_region ?_
      refine stepK_d rfl rfl rfl hst (does_move rfl rfl) ?_
      refine stepK_d rfl rfl rfl hst (does_len_string rfl (by kernel_rfl) rfl) ?_
      refine stepK_d rfl rfl rfl hst (Does.nat (b := t.size % 19) (does_rem_p (b := 19) rfl rfl rfl (by omega)) rfl) ?_
      refine stepK_d rfl rfl rfl hst (does_assign rfl rfl) ?_
      refine wpK_nil ?_
      refine cp_then ?_
      refine cp_join (ι := Nat) (fun k => [(0, .string t), (3, .slice A n c), (4, .int .i64 (k : Int))]) (fun k w2 => St w [] g g1 [] w2 ∧ k ≤ s.size - p ∧ 0 < k ∧ k ≤ 19 ∧ (s.size - p - k) % 19 = 0 ∧ (0 < p → k = 19)) ?c2 ?d2
      case c2 =>
        refine cp_seq ?_
        refine cp_region ?_
        refine stepK_d rfl rfl rfl hst (does_move rfl rfl) ?_
        refine stepK_d rfl rfl rfl hst (does_eql rfl rfl rfl) ?_
        refine wpK_nil ?_
        refine cp_then ?_
        refine cp_if rfl ?_ ?_
        · intro c14
          refine cp_region ?_
          refine stepK_d rfl rfl rfl hst (does_assign rfl rfl) ?_
          refine wpK_nil ?_
          refine join_end (19) ?_ ?_
          · exact ⟨rfl, rfl, rfl, trivial⟩
          · exact ⟨hst, by omega, by omega, by omega, by omega, fun _ => rfl⟩
        · intro c14
          refine cp_skip ?_
          refine join_end (t.size % 19) ?_ ?_
          · exact ⟨rfl, rfl, rfl, trivial⟩
          · exact ⟨hst, by omega, by omega, by omega, by omega, fun h => by omega⟩
      case d2 =>
        clear hst
        rintro k w2 ⟨hst, hk1, hk0, hk19, hk2, hkp⟩
        refine cp_seq ?_
        refine cp_region ?_
        refine stepK_d rfl rfl rfl hst (does_assign rfl rfl) ?_
        refine wpK_nil ?_
        refine cp_then ?_
        refine cp_seq ?_
        refine cp_seq ?_
        refine cp_region ?_
        refine stepK_d rfl rfl rfl hst (does_move rfl rfl) ?_
        refine stepK_d rfl rfl rfl hst (does_move rfl rfl) ?_
        refine wpK_nil ?_
        refine cp_then ?_
        refine cp_block ?_
        refine cp_loop (ι := Nat × Nat) (fun (i, wv) => [(0, .string t), (3, .slice A n c), (4, .int .i64 (k : Int)), (5, .int .u64 (wv : Int)), (15, .int .i64 (k : Int)), (16, .int .i64 (i : Int))]) (fun (i, wv) w3 => St w [] g g1 [] w3 ∧ i ≤ k ∧ wv < 10 ^ i ∧ dval s p * 10 ^ i + wv = dval s (p + i)) (fun (i, wv) => k - i) (0, 0) ?k3 ?i3 ?r3
        case k3 => exact ⟨rfl, rfl, rfl, rfl, rfl, rfl, trivial⟩
        case i3 =>
          exact ⟨hst, Nat.zero_le _, by decide, by simp⟩
        case r3 =>
          clear hst
          rintro ⟨i, wv⟩ w3 ⟨hst, hi, hwv, hv⟩
          refine cp_seq ?_
          refine cp_region ?_
          refine stepK_d rfl rfl rfl hst (does_lss rfl rfl rfl) ?_
          refine wpK_nil ?_
          refine cp_then ?_
          refine cp_seq ?_
          refine cp_if rfl ?_ ?_
          · intro c17
            refine cp_skip ?_
            refine cp_then ?_
            refine cp_seq ?_
            refine cp_block ?_
            refine cp_seq ?_
            refine cp_region ?_
            refine stepK_d rfl rfl rfl hst (does_move rfl rfl) ?_
            refine stepK_d rfl rfl rfl hst (does_assign rfl rfl) ?_
            refine wpK_nil ?_
            refine cp_then ?_
            refine cp_region ?_
            have hil : i < t.size := by omega
            have hbt : (t[i]'hil).toNat = bt s (p + i) := by
              rw [bt_eq hil, ht, bt_extract (Nat.le_refl _) (by omega)]
            have hdg := hd (p + i) (by omega)
            obtain ⟨hc1, hc2⟩ := chunk_lt (d := bt s (p + i) - 48) (show i < k by omega) hk19 hwv (by omega)
            refine stepK_d rfl rfl rfl hst (does_move rfl rfl) ?_
            refine stepK_d rfl rfl rfl hst (Does.nat (b := 10 * wv) (does_mul_u64 (a := 10) rfl rfl rfl) (by omega)) ?_
            refine stepK_d rfl rfl rfl hst (does_move rfl rfl) ?_
            refine stepK_d rfl rfl rfl hst (does_move rfl rfl) ?_
            refine stepK_d rfl rfl rfl hst (Does.nat (b := bt s (p + i)) (does_index_string (j := i) rfl (by kernel_rfl) rfl rfl rfl hil) (by rw [hbt])) ?_
            refine stepK_d rfl rfl rfl hst (Does.nat (b := bt s (p + i) - 48) (does_sub_u8 (b := 48) rfl rfl rfl) (by omega)) ?_
            refine stepK_d rfl rfl rfl hst (Does.nat (b := bt s (p + i) - 48) (does_conv_n_u64 rfl (by kernel_rfl) (by kernel_rfl) rfl) (by omega)) ?_
            refine stepK_d rfl rfl rfl hst (Does.nat (b := 10 * wv + (bt s (p + i) - 48)) (does_add_u64 rfl rfl rfl) (by omega)) ?_
            refine stepK_d rfl rfl rfl hst (does_assign rfl rfl) ?_
            refine wpK_nil ?_
            refine at_block_normal ?_
            refine cp_then ?_
            refine cp_region ?_
            refine stepK_d rfl rfl rfl hst (Does.int (does_add rfl rfl rfl) (wrap_i64 (by omega) (by omega))) ?_
            refine stepK_d rfl rfl rfl hst (does_move rfl rfl) ?_
            refine wpK_nil ?_
            refine round_end ((i + 1, 10 * wv + (bt s (p + i) - 48))) ?_ ?_ ?_
            · exact ⟨rfl, rfl, rfl, rfl, rfl, rfl, trivial⟩
            · exact ⟨hst, by omega, hc1, chunk_step hv⟩
            · show k - (i + 1) < k - i
              omega
          · intro c17
            refine cp_exit ?_
            refine at_then_exit ?_
            refine at_then_exit ?_
            refine cp_exit_here ?_
            refine cp_then ?_
            refine cp_seq ?_
            obtain rfl : k = i := by omega
            have hwl : wv < 10000000000000000000 := Nat.lt_of_lt_of_le hwv (Nat.le_trans (Nat.pow_le_pow_right (by decide) hk19) (by decide))
            have hnp : n ≤ p := ha.len (Nat.lt_of_lt_of_le (dval_lt hd p hp) (ten_le p))
            refine cp_region ?_
            refine stepK_d rfl rfl rfl hst (does_move rfl rfl) ?_
            refine stepK_buildSlice rfl rfl rfl rfl (by kernel_rfl : Program.underlying Tryd.prog 64 = some (.slice 66)) (by kernel_rfl : elemInfo Tryd.prog 66 = some ((.int .u64 0), 1, 8)) rfl rfl (by decide) (by decide) (by decide) rfl rfl hst ?_
            clear hst
            intro b4 w4 hst
            obtain ⟨g4, hst, hle4, hten⟩ := hst.lit (x := 10000000000000000000) (by decide) (by decide)
            replace ha := ha.mono hle4
            refine stepK_call rfl rfl rfl rfl rfl hst (num_product hst.agree ha hten (by omega) (by omega)) ?_
            clear hst
            intro v5 g5 w5 hst hle5 hcs5 hp5
            replace ha := ha.mono hle5
            replace hten := hten.mono hle5
            obtain ⟨A7, n7, c7, rfl, h7⟩ := hp5
            refine stepK_d rfl rfl rfl hst (does_move rfl rfl) ?_
            refine stepK_call rfl rfl rfl rfl rfl hst (num_word hst.agree (by omega)) ?_
            clear hst
            intro v6 g6 w6 hst hle6 hcs6 hp6
            replace ha := ha.mono hle6
            replace hten := hten.mono hle6
            replace h7 := h7.mono hle6
            obtain ⟨A8, n8, c8, rfl, h8⟩ := hp6
            have hn7 : n7 ≤ p + 19 := h7.len (by
              refine Nat.lt_of_lt_of_le ?_ (ten_le _)
              rw [Nat.pow_add]
              exact (Nat.mul_lt_mul_right (by decide)).2 (dval_lt hd p hp))
            have hn8 : n8 ≤ 1 := h8.len (by omega)
            refine stepK_call rfl rfl rfl rfl rfl hst (num_sum hst.agree h7 h8 (by omega) (by omega)) ?_
            clear hst
            intro v7 g7 w7 hst hle7 hcs7 hp7
            replace ha := ha.mono hle7
            replace hten := hten.mono hle7
            replace h7 := h7.mono hle7
            replace h8 := h8.mono hle7
            obtain ⟨A9, n9, c9, rfl, hN⟩ := hp7
            refine stepK_d rfl rfl rfl hst (does_assign rfl rfl) ?_
            refine wpK_nil ?_
            refine cp_then ?_
            refine cp_region ?_
            refine stepK_d rfl rfl rfl hst (does_move rfl rfl) ?_
            refine stepK_d rfl rfl rfl hst (does_move rfl rfl) ?_
            refine stepK_d rfl rfl rfl hst (does_slice_string (l := k) (h := t.size) rfl (by kernel_rfl) rfl ⟨_, _, rfl, rfl⟩ rfl (by omega) (Nat.le_refl _)) ?_
            refine stepK_d rfl rfl rfl hst (does_assign rfl rfl) ?_
            refine wpK_nil ?_
            refine at_block_normal ?_
            refine round_end ((t.extract k t.size, p + k, A9, n9, c9)) ?_ ?_ ?_
            · exact ⟨rfl, rfl, trivial⟩
            · refine ⟨_, hst, by rw [ht, extract_tail], by omega, .inr (by omega), ?_⟩
              rcases Nat.eq_zero_or_pos p with h0 | h0
              · subst h0
                rw [← hv]
                simp only [dval, Nat.zero_mul, Nat.zero_add] at hN ⊢
                exact hN
              · rw [← hv]
                obtain rfl : k = 19 := by omega
                exact hN
            · show s.size - (p + k) < s.size - p
              omega
    · intro c9
      refine cp_exit ?_
      refine at_then_exit ?_
      refine at_then_exit ?_
      refine cp_exit_here ?_
      refine cp_then ?_
      refine cp_seq ?_
      refine cp_region ?_
      refine stepK_d rfl rfl rfl hst (does_move rfl rfl) ?_
      refine stepK_d rfl rfl rfl hst (does_assign rfl rfl) ?_
      refine wpK_nil ?_
      refine cp_then ?_
      refine cp_ret ?_
      refine ret1 rfl rfl hst ?_
      refine ⟨_, _, _, rfl, ?_⟩
      obtain rfl : s.size = p := by omega
      exact ha

end Go.Proofs.YtbamjcfdlgnicaaDoor

namespace Go.Proofs.Vc
open Go Go.RowKit
set_option linter.unusedVariables false
def smallR (r : Rat) : Prop := r.num.natAbs < 2147483648 ∧ r.den < 2147483648
/-- p / q, or 0 / 0 for 0 -/
def LowR (p q : Int) (r : Rat) : Prop := smallR r ∧ p = r.num ∧ (q = (r.den : Int) ∨ (q = 0 ∧ r = 0))
def BigR (g : Mem) (b : Nat) (r : Rat) : Prop := ¬ smallR r ∧ ∃ A n c B m d, gcell g b 0 = some (.bool (decide (r.num < 0))) ∧ gcell g b 1 = some (.slice A n c) ∧ gcell g b 2 = some (.slice B m d) ∧ IsNat g A n r.num.natAbs ∧ IsNat g B m r.den
def IsRat (g : Mem) (p q : Int) (a : Option Addr) (r : Rat) : Prop := (a = none ∧ LowR p q r) ∨ (p = 0 ∧ q = 0 ∧ ∃ b, a = some ⟨b, 0, none⟩ ∧ BigR g b r)
theorem BigR.mono {g g' : Mem} {b : Nat} {r : Rat} (h : BigR g b r) (hle : g.le g') : BigR g' b r := by
  obtain ⟨hs, A, n, c, B, m, d, h1, h2, h3, h4, h5⟩ := h
  exact ⟨hs, A, n, c, B, m, d, gcell_le hle h1, gcell_le hle h2, gcell_le hle h3, h4.mono hle, h5.mono hle⟩
theorem IsRat.mono {g g' : Mem} {p q : Int} {a : Option Addr} {r : Rat} (h : IsRat g p q a r) (hle : g.le g') : IsRat g' p q a r :=
  h.imp id fun ⟨h1, h2, b, h3, h4⟩ => ⟨h1, h2, b, h3, h4.mono hle⟩
theorem IsRat.low {g : Mem} {p q : Int} {r : Rat} (h : IsRat g p q none r) : LowR p q r := by
  rcases h with ⟨_, h⟩ | ⟨_, _, b, h, _⟩
  · exact h
  · cases h
theorem IsRat.big {g : Mem} {p q : Int} {a : Option Addr} {r : Rat} (h : IsRat g p q a r) (ha : a ≠ none) : p = 0 ∧ q = 0 ∧ ∃ b, a = some ⟨b, 0, none⟩ ∧ BigR g b r := by
  rcases h with ⟨h, _⟩ | h
  · exact absurd h ha
  · exact h
theorem IsRat.of_low {g : Mem} {p q : Int} {r : Rat} (h : LowR p q r) : IsRat g p q none r := .inl ⟨rfl, h⟩
theorem LowR.zero : LowR 0 0 0 := ⟨⟨by decide, by decide⟩, rfl, .inr ⟨rfl, rfl⟩⟩
theorem IsRat.zero (g : Mem) : IsRat g 0 0 none 0 := .of_low .zero
theorem LowR.bound {p q : Int} {r : Rat} (h : LowR p q r) : -2147483648 < p ∧ p < 2147483648 ∧ 0 ≤ q ∧ q < 2147483648 := by
  obtain ⟨h1, h2, h3⟩ := h
  have := h1.1
  have := h1.2
  rcases h3 with h3 | ⟨h3, _⟩ <;> omega
theorem LowR.q0 {p q : Int} {r : Rat} (h : LowR p q r) (hq : q = 0) : r = 0 ∧ p = 0 := by
  obtain ⟨h1, h2, h3⟩ := h
  rcases h3 with h3 | ⟨_, h3⟩
  · have := r.den_nz
    omega
  · subst h3
    exact ⟨rfl, h2⟩
theorem LowR.q1 {p q : Int} {r : Rat} (h : LowR p q r) (hq : q ≠ 0) : p = r.num ∧ q = (r.den : Int) := by
  obtain ⟨h1, h2, h3⟩ := h
  rcases h3 with h3 | ⟨h3, _⟩
  · exact ⟨h2, h3⟩
  · exact absurd h3 hq
/-- what 'low' gives -/
theorem LowR.norm {p q : Int} {r : Rat} (h : LowR p q r) : (if q = 0 then (p, (1 : Int)) else (p, q)) = (r.num, (r.den : Int)) := by
  by_cases hq : q = 0
  · obtain ⟨h1, h2⟩ := h.q0 hq
    subst h1 h2
    rw [if_pos hq]
    rfl
  · obtain ⟨h1, h2⟩ := h.q1 hq
    rw [if_neg hq, h1, h2]
/-- a signed number -/
def sg (b : Bool) (N : Nat) : Int := if b then -(N : Int) else (N : Int)
theorem sg_natAbs (b : Bool) (N : Nat) : (sg b N).natAbs = N := by cases b <;> simp [sg]
theorem sg_neg {b : Bool} {N : Nat} (h : 0 < N) : decide (sg b N < 0) = b := by cases b <;> simp [sg] <;> omega
theorem sg_zero (b : Bool) : sg b 0 = 0 := by cases b <;> rfl
theorem sg_num (r : Rat) : sg (decide (r.num < 0)) r.num.natAbs = r.num := by
  unfold sg
  by_cases h : r.num < 0
  · rw [if_pos (by simpa using h)]; omega
  · rw [if_neg (by simpa using h)]; omega
theorem mkRat_num {b : Bool} {N M : Nat} (hM : 0 < M) (hc : Nat.gcd N M = 1) : (mkRat (sg b N) M).num = sg b N ∧ (mkRat (sg b N) M).den = M := by
  have := Rat.mk_eq_mkRat (sg b N) M (by omega) (by rw [sg_natAbs]; exact hc)
  rw [← this]
  exact ⟨rfl, rfl⟩
theorem IsRat.mk_zero (g : Mem) (b : Bool) (M : Nat) : IsRat g 0 0 none (mkRat (sg b 0) M) := by
  rw [sg_zero, Rat.zero_mkRat]
  exact IsRat.zero g
theorem IsRat.mk_small {g : Mem} {b : Bool} {N M : Nat} (hM : 0 < M) (hc : Nat.gcd N M = 1) (hN : N < 2147483648) (hM2 : M < 2147483648) : IsRat g (sg b N) (M : Int) none (mkRat (sg b N) M) := by
  obtain ⟨h1, h2⟩ := mkRat_num (b := b) hM hc
  exact .of_low ⟨⟨by rw [h1, sg_natAbs]; exact hN, by rw [h2]; exact hM2⟩, h1.symm, .inl (by rw [h2])⟩
theorem IsRat.mk_big {g : Mem} {bl : Nat} {b : Bool} {N M : Nat} {A B : Option Addr} {n c m d : Nat} {t : TypeId} {f : Nat × Nat} (hgn : g bl = none) (hN : IsNat g A n N) (hMn : IsNat g B m M) (hN0 : 0 < N) (hM : 0 < M) (hc : Nat.gcd N M = 1) (hbig : ¬ (N < 2147483648 ∧ M < 2147483648)) :
    IsRat (gput g bl (.cells [Value.bool b, .slice A n c, .slice B m d].toArray t f)) 0 0 (some ⟨bl, 0, none⟩) (mkRat (sg b N) M) := by
  obtain ⟨h1, h2⟩ := mkRat_num (b := b) hM hc
  refine .inr ⟨rfl, rfl, bl, rfl, ?_, A, n, c, B, m, d, ?_, ?_, ?_, ?_, ?_⟩
  · unfold smallR
    rw [h1, h2, sg_natAbs]
    exact hbig
  · rw [gcell_put, h1, sg_neg hN0]; rfl
  · rw [gcell_put]; rfl
  · rw [gcell_put]; rfl
  · rw [h1, sg_natAbs]; exact hN.mono (gput_le hgn)
  · rw [h2]; exact hMn.mono (gput_le hgn)
theorem mkRat_gcd {b : Bool} {N M : Nat} (hM : 0 < M) : mkRat (sg b (N / Nat.gcd N M)) (M / Nat.gcd N M) = mkRat (sg b N) M := by
  have hg : 0 < Nat.gcd N M := Nat.gcd_pos_of_pos_right _ hM
  have h1 : M / Nat.gcd N M * Nat.gcd N M = M := Nat.div_mul_cancel (Nat.gcd_dvd_right ..)
  have h2 : N / Nat.gcd N M * Nat.gcd N M = N := Nat.div_mul_cancel (Nat.gcd_dvd_left ..)
  have h3 : M / Nat.gcd N M ≠ 0 := fun e => by rw [e, Nat.zero_mul] at h1; omega
  rw [Rat.mkRat_eq_iff h3 (by omega)]
  generalize Nat.gcd N M = g at *
  generalize N / g = x at *
  generalize M / g = y at *
  subst h1 h2
  cases b <;> simp [sg] <;> grind
theorem gcd_coprime {N M : Nat} (hM : 0 < M) : Nat.gcd (N / Nat.gcd N M) (M / Nat.gcd N M) = 1 := Nat.coprime_div_gcd_div_gcd (Nat.gcd_pos_of_pos_right _ hM)
theorem divInt_sg {n d : Int} (hd : d ≠ 0) : Rat.divInt n d = mkRat (sg (decide (n < 0) != decide (d < 0)) n.natAbs) d.natAbs := by
  rcases Int.lt_or_gt_of_ne hd with h | h
  · have e1 : Rat.divInt n d = Rat.divInt (-n) (-d) := (Rat.neg_divInt_neg ..).symm
    rw [e1, show -d = (d.natAbs : Int) by omega, Rat.divInt_ofNat]
    congr 1
    by_cases hn : n < 0
    · simp [sg, hn, h]; omega
    · simp [sg, hn, h]; omega
  · have e1 : d = (d.natAbs : Int) := by omega
    rw [e1, Rat.divInt_ofNat, ← e1]
    congr 1
    have hd0 : ¬ d < 0 := by omega
    by_cases hn : n < 0
    · simp [sg, hn, hd0]; omega
    · simp [sg, hn, hd0]; omega
theorem u64_magnitude {n : Int} (h1 : -9223372036854775808 ≤ n) (h2 : n < 0) : IntKind.u64.wrap (IntKind.i64.wrap (-n)) = ((n.natAbs : Nat) : Int) := by
  rcases Int.lt_or_eq_of_le h1 with h | h
  · rw [wrap_i64 (by omega) (by omega), IntKind.wrap_u64]; omega
  · subst h; decide
section
variable {P : Program} {fn : Func} {n : Nat} {kn : Kn} {w0 w : World} {g0 g : Mem} {own : List (Nat × Obj)} {Post : Value → Mem → Prop}
/-- a variable in memory, and a value -/
theorem ret2c {t u : Tmp} {ty : TypeId} {b k m : Nat} {l : List Value} {e : TypeId} {f : Nat × Nat} {v2 : Value} (hr : fn.results = #[.cell t ty, .tmp u]) (hv : kget kn t = some (.pointer (some ⟨b, 0, none⟩))) (ha : aggOf P ty = some true) (hs : sizeB P ty = some m) (hl : l.length = m) (h2 : kget kn u = some v2) (hst : St w0 [] g0 g own w) (hk : own[k]? = some (b, .cells l.toArray e f))
    (h : Post (.tuple #[.agg l.toArray, v2]) g) : atK (bodyPost P fn (Ret w0 g0 Post) .ret) n kn w := fun a hka => by
  refine ⟨hka.defers, .tuple #[.agg l.toArray, v2], ?_, Ret.mk hst h⟩
  have e1 := hka.get t _ hv
  have e2 := hka.get u _ h2
  rw [Array.getD_eq_getD_getElem?] at e1 e2
  have h1 := run_loadN (P := P) (b := b) (i := 0) ha hs hl (w := w) (fun j v hj => by
    rw [Nat.zero_add]
    exact hst.cell_own k hk (by simpa using hj))
  simp [results, hr, e1, e2, asAddr, h1]
end
theorem St.own_none {w0 w : World} {M : List Nat} {g0 g : Mem} {own : List (Nat × Obj)} (h : St w0 M g0 g own w) (k : Nat) {b : Nat} {o : Obj} (hk : own[k]? = some (b, o)) : g b = none := (h.owns _ (List.mem_of_getElem? hk)).2.1
theorem IsNat.small1 {g : Mem} {A : Option Addr} {n N : Nat} (h : IsNat g A n N) (h0 : 0 < N) (hs : N < 2147483648) : n = 1 := by
  have h1 := h.len (k := 1) (by rw [Nat.pow_one]; omega)
  have h2 : n ≠ 0 := fun e => by have := h.zero_iff.1 e; omega
  omega
/-! arithmetic of signed fractions -/
def Fit (r : Rat) : Prop := r.num.natAbs < 18446744073709551616 ^ 1099511627776 ∧ r.den < 18446744073709551616 ^ 1099511627776
theorem Fit.neg {r : Rat} (h : Fit r) : Fit (-r) := ⟨by rw [Rat.neg_num, Int.natAbs_neg]; exact h.1, by rw [Rat.neg_den]; exact h.2⟩
theorem rat_zero_iff {r : Rat} : r.num = 0 ↔ r = 0 := Rat.num_eq_zero
theorem rat_inv (r : Rat) : mkRat (sg (decide (r.num < 0)) r.den) r.num.natAbs = r⁻¹ := by
  by_cases h0 : r.num = 0
  · have : r = 0 := rat_zero_iff.1 h0
    subst this
    rw [Rat.inv_zero]
    rfl
  · rw [Rat.inv_def, divInt_sg h0]
    congr 2
    have : ¬ ((r.den : Int) < 0) := by omega
    simp [this]
theorem Fit.inv {r : Rat} (h : Fit r) : Fit r⁻¹ := by
  by_cases h0 : r.num = 0
  · have : r = 0 := rat_zero_iff.1 h0
    subst this
    rw [Rat.inv_zero]
    exact h
  · have h1 := mkRat_num (b := decide (r.num < 0)) (N := r.den) (M := r.num.natAbs) (by omega) (by rw [Nat.gcd_comm]; exact r.reduced)
    rw [rat_inv] at h1
    exact ⟨by rw [h1.1, sg_natAbs]; exact h.2, by rw [h1.2]; exact h.1⟩
theorem rat_add (a b : Rat) : mkRat (a.num * (b.den : Int) + b.num * (a.den : Int)) (a.den * b.den) = a + b := by
  rw [← Rat.mkRat_add_mkRat _ _ a.den_nz b.den_nz, Rat.mkRat_self, Rat.mkRat_self]
theorem rat_mul (a b : Rat) : mkRat (a.num * b.num) (a.den * b.den) = a * b := by
  rw [← Rat.mkRat_mul_mkRat, Rat.mkRat_self, Rat.mkRat_self]
theorem divInt_nat (n : Int) (a b : Nat) : Rat.divInt n ((a : Int) * (b : Int)) = mkRat n (a * b) := by
  rw [show (a : Int) * (b : Int) = ((a * b : Nat) : Int) by simp, Rat.divInt_ofNat]
theorem sg_mulN (b : Bool) (N k : Nat) : sg b (N * k) = sg b N * (k : Int) := by cases b <;> simp [sg, Int.neg_mul]
theorem sg_abs (r : Rat) (k : Nat) : sg (decide (r.num < 0)) (r.num.natAbs * k) = r.num * (k : Int) := by rw [sg_mulN, sg_num]
theorem sg_add (b : Bool) (U V : Nat) : sg b (U + V) = sg b U + sg b V := by cases b <;> simp [sg] <;> omega
theorem sg_sub {b c : Bool} {U V : Nat} (h : V ≤ U) (hbc : b ≠ c) : sg b (U - V) = sg b U + sg c V := by cases b <;> cases c <;> simp [sg] at * <;> omega
theorem sg_mul (b c : Bool) (U V : Nat) : sg (b != c) (U * V) = sg b U * sg c V := by cases b <;> cases c <;> simp [sg, Int.neg_mul, Int.mul_neg]
theorem mulb {a b : Int} (h1 : -2147483648 < a) (h2 : a < 2147483648) (h3 : -2147483648 < b) (h4 : b < 2147483648) : -4611686014132420609 ≤ a * b ∧ a * b ≤ 4611686014132420609 := by
  have e1 : (a * b).natAbs ≤ 2147483647 * 2147483647 := by
    rw [Int.natAbs_mul]
    exact Nat.mul_le_mul (by omega) (by omega)
  omega
theorem lenMul {g : Mem} {A : Option Addr} {n X Y a b : Nat} (h : IsNat g A n (X * Y)) (hX : X < 18446744073709551616 ^ a) (hY : Y < 18446744073709551616 ^ b) : n ≤ a + b := h.len (by
  rw [Nat.pow_add]
  exact Nat.mul_lt_mul'' hX hY)
theorem smallR.bound {r : Rat} (h : smallR r) : -2147483648 < r.num ∧ r.num < 2147483648 ∧ 0 < r.den ∧ r.den < 2147483648 := by
  have h1 := h.1
  have h2 := h.2
  have h3 := r.den_nz
  omega
theorem LowR.neg {p q : Int} {r : Rat} (h : LowR p q r) : LowR (-p) q (-r) := by
  obtain ⟨h1, h2, h3⟩ := h
  refine ⟨⟨by rw [Rat.neg_num, Int.natAbs_neg]; exact h1.1, by rw [Rat.neg_den]; exact h1.2⟩, by rw [Rat.neg_num, h2], ?_⟩
  rcases h3 with h3 | ⟨h3, h4⟩
  · exact .inl (by rw [Rat.neg_den]; exact h3)
  · subst h4; exact .inr ⟨h3, by simp⟩
theorem BigR.num0 {g : Mem} {b : Nat} {r : Rat} (h : BigR g b r) : r.num ≠ 0 := fun e => by
  have : r = 0 := rat_zero_iff.1 e
  subst this
  exact h.1 ⟨by decide, by decide⟩
theorem IsRat.neg_big {g : Mem} {bl : Nat} {r : Rat} {A B : Option Addr} {n c m d : Nat} {t : TypeId} {f : Nat × Nat} (hgn : g bl = none) (hs : ¬ smallR r) (h0 : r.num ≠ 0) (hN : IsNat g A n r.num.natAbs) (hM : IsNat g B m r.den) :
    IsRat (gput g bl (.cells [Value.bool (!decide (r.num < 0)), .slice A n c, .slice B m d].toArray t f)) 0 0 (some ⟨bl, 0, none⟩) (-r) := by
  refine .inr ⟨rfl, rfl, bl, rfl, ?_, A, n, c, B, m, d, ?_, ?_, ?_, ?_, ?_⟩
  · unfold smallR
    rw [Rat.neg_num, Rat.neg_den, Int.natAbs_neg]
    exact hs
  · rw [gcell_put, Rat.neg_num]
    show some (Value.bool _) = some (Value.bool _)
    congr 2
    by_cases h : r.num < 0
    · simp [h]; omega
    · simp [h]; omega
  · rw [gcell_put]; rfl
  · rw [gcell_put]; rfl
  · rw [Rat.neg_num, Int.natAbs_neg]; exact hN.mono (gput_le hgn)
  · rw [Rat.neg_den]; exact hM.mono (gput_le hgn)
theorem does_eql_nilD {P : Program} {S : World → Prop} {kn : Kn} {o : Oper} {t yt e : TypeId} {x y : Operand} {a : Option Addr} (ho : o.op = .binOp .eql t x y yt) (hu : P.underlying t = some (.pointer e)) (hx : kev kn x = some (.pointer a)) (hy : kev kn y = some (.pointer none)) : Does P S kn o (.bool (decide (a = none))) :=
  (does_eql_nil ho hu hx hy).cast (by cases a <;> rfl)
theorem does_neq_nilD {P : Program} {S : World → Prop} {kn : Kn} {o : Oper} {t yt e : TypeId} {x y : Operand} {a : Option Addr} (ho : o.op = .binOp .neq t x y yt) (hu : P.underlying t = some (.pointer e)) (hx : kev kn x = some (.pointer a)) (hy : kev kn y = some (.pointer none)) : Does P S kn o (.bool (decide (a ≠ none))) :=
  (does_neq_nil ho hu hx hy).cast (by cases a <;> rfl)
theorem lenAdd {g : Mem} {A : Option Addr} {n X Y a : Nat} (h : IsNat g A n (X + Y)) (hX : X < 18446744073709551616 ^ a) (hY : Y < 18446744073709551616 ^ a) : n ≤ a + 1 := h.len (by
  rw [Nat.pow_succ]
  generalize 18446744073709551616 ^ a = p at *
  omega)
theorem lenAdd2 {g : Mem} {A : Option Addr} {n X Y a b : Nat} (h : IsNat g A n (X + Y)) (hX : X < 18446744073709551616 ^ (a + b)) (hY : Y < 18446744073709551616 ^ (a + b)) : n ≤ a + b + 1 := lenAdd h hX hY
theorem lenSub2 {g : Mem} {A : Option Addr} {n X Y a b : Nat} (h : IsNat g A n (X - Y)) (hX : X < 18446744073709551616 ^ (a + b)) : n ≤ a + b := h.len (Nat.lt_of_le_of_lt (Nat.sub_le _ _) hX)
theorem prodLt {X Y a b : Nat} (hX : X < 18446744073709551616 ^ a) (hY : Y < 18446744073709551616 ^ b) : X * Y < 18446744073709551616 ^ (a + b) := by
  rw [Nat.pow_add]
  exact Nat.mul_lt_mul'' hX hY
theorem lenAddK {g : Mem} {A : Option Addr} {n X Y U V k : Nat} (h : IsNat g A n (X * Y + U * V)) (hX : X < 18446744073709551616 ^ k) (hY : Y < 18446744073709551616 ^ k) (hU : U < 18446744073709551616 ^ k) (hV : V < 18446744073709551616 ^ k) : n ≤ k + k + 1 := lenAdd2 h (prodLt hX hY) (prodLt hU hV)
theorem lenSubK {g : Mem} {A : Option Addr} {n X Y k Z : Nat} (h : IsNat g A n (X * Y - Z)) (hX : X < 18446744073709551616 ^ k) (hY : Y < 18446744073709551616 ^ k) : n ≤ k + k := lenSub2 h (prodLt hX hY)
theorem floor_pos {r : Rat} {q : Nat} (h : ¬ r.num < 0) (hq : q = r.num.natAbs / r.den) : sg false q = r.floor := by
  rw [Rat.floor_def, hq]
  have e : r.num = ((r.num.natAbs : Nat) : Int) := by omega
  conv => rhs; rw [e]
  rfl
theorem floor_neg {r : Rat} {q : Nat} (h : r.num < 0) (hq : q = if r.num.natAbs % r.den = 0 then r.num.natAbs / r.den else r.num.natAbs / r.den + 1) : sg true q = r.floor := by
  rw [Rat.floor_def]
  have hd : 0 < r.den := Nat.pos_of_ne_zero r.den_nz
  have e : r.num = -((r.num.natAbs : Nat) : Int) := by omega
  have h1 := Nat.div_add_mod r.num.natAbs r.den
  have h2 := Nat.mod_lt r.num.natAbs hd
  generalize r.num.natAbs = N at *
  generalize r.den = D at *
  rw [e]
  show -(q : Int) = _
  have hD : (0 : Int) < (D : Int) := by omega
  have h1i : (D : Int) * ((N / D : Nat) : Int) + ((N % D : Nat) : Int) = (N : Int) := by exact_mod_cast h1
  by_cases h0 : N % D = 0
  · rw [if_pos h0] at hq
    rw [h0] at h1i
    refine ((Int.ediv_emod_unique (a := -(N : Int)) (b := (D : Int)) (r := 0) (q := -(q : Int)) hD).2 ⟨?_, Int.le_refl _, hD⟩).1.symm
    rw [hq, Int.mul_neg]
    generalize ((N / D : Nat) : Int) = k at *
    omega
  · rw [if_neg h0] at hq
    have h2i : ((N % D : Nat) : Int) < (D : Int) := by exact_mod_cast h2
    have h3i : 0 < ((N % D : Nat) : Int) := by exact_mod_cast (Nat.pos_of_ne_zero h0)
    refine ((Int.ediv_emod_unique (a := -(N : Int)) (b := (D : Int)) (r := (D : Int) - ((N % D : Nat) : Int)) (q := -(q : Int)) hD).2 ⟨?_, by omega, by omega⟩).1.symm
    have e2 : (q : Int) = ((N / D : Nat) : Int) + 1 := by rw [hq]; rfl
    rw [e2, Int.mul_neg, Int.mul_add, Int.mul_one]
    generalize (D : Int) * ((N / D : Nat) : Int) = k at *
    generalize ((N % D : Nat) : Int) = m at *
    omega
theorem mkRat_one (n : Int) : mkRat n 1 = (n : Rat) := by rw [Rat.mkRat_one]
theorem LowR.int {n : Int} (h1 : -2147483648 < n) (h2 : n < 2147483648) : LowR n 1 (n : Rat) := ⟨⟨by rw [Rat.num_intCast]; omega, by rw [Rat.den_intCast]; decide⟩, (Rat.num_intCast n).symm, .inl (by rw [Rat.den_intCast]; rfl)⟩
theorem sg_int (n : Int) : sg (decide (n < 0)) n.natAbs = n := by
  unfold sg
  by_cases h : n < 0
  · rw [if_pos (by simpa using h)]; omega
  · rw [if_neg (by simpa using h)]; omega
end Go.Proofs.Vc
