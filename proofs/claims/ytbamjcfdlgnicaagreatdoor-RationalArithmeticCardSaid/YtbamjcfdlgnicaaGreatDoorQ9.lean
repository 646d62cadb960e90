/- The walks of functions, printed by a program of this session out of its specs. -/
import Derived.Test.YtbamjcfdlgnicaaGreatDoorQ6
import Derived.Test.YtbamjcfdlgnicaaGreatDoorQA
import Derived.Test.YtbamjcfdlgnicaaGreatDoorQ8
import Derived.Test.YtbamjcfdlgnicaaGreatDoorQ3
import Derived.Test.YtbamjcfdlgnicaaGreatDoorProg
namespace Go.Proofs.YtbamjcfdlgnicaaGreatDoor
open Go Go.RowKit Go.Proofs.Vc
set_option linter.unusedVariables false
set_option linter.unusedSimpArgs false

set_option maxHeartbeats 1000000 in
theorem keep_Short {g : Mem} {w : World} (hag : Agree g w) {bl : Nat} {ss : List ByteArray} (hc : ∀ (j : Nat) s, ss[j]? = some s → gcell g bl j = some (.string s)) (hl : ss.length ≤ 1000000) {n : Nat} :
    CallTo Tryz.prog 52 #[.int .i64 (n : Int), .slice (some ⟨bl, 0, none⟩) ss.length ss.length] w (Ret w g fun v g => v = .bool (decide (∀ s ∈ ss, s.size ≤ n))) := by
  refine CallTo.enter (vs := [.int .i64 (n : Int), .slice (some ⟨bl, 0, none⟩) ss.length ss.length]) (by kernel_rfl : Tryz.prog.funcs[52]? = some Tryz.f52) (by kernel_rfl) rfl rfl rfl ?_
  have hst := St.init hag
  refine cp_seq ?_
  refine cp_region ?_
  refine stepK_d rfl rfl rfl hst (does_assign rfl rfl) ?_
  refine wpK_nil ?_
  refine cp_then ?_
  refine cp_seq ?_
  refine cp_seq ?_
  refine cp_region ?_
  refine stepK_d rfl rfl rfl hst (does_assign rfl rfl) ?_
  refine wpK_nil ?_
  refine cp_then ?_
  refine cp_block ?_
  refine cp_loop (ι := Nat) (fun k => [(0, .int .i64 (n : Int)), (1, .slice (some ⟨bl, 0, none⟩) ss.length ss.length), (5, .int .i64 (k : Int))]) (fun k w1 => St w [] g g [] w1 ∧ k ≤ ss.length ∧ ∀ s ∈ ss.take k, s.size ≤ n) (fun k => ss.length - k) 0 ?k1 ?i1 ?r1
  case k1 => exact ⟨rfl, rfl, rfl, trivial⟩
  case i1 =>
    exact ⟨hst, Nat.zero_le _, by simp⟩
  case r1 =>
    clear hst
    rintro k w1 ⟨hst, hk, hd⟩
    refine cp_seq ?_
    refine cp_seq ?_
    refine cp_region ?_
    refine stepK_d rfl rfl rfl hst (does_move rfl rfl) ?_
    refine stepK_d rfl rfl rfl hst (does_move rfl rfl) ?_
    refine stepK_d rfl rfl rfl hst (does_len_slice rfl (by kernel_rfl : Program.underlying Tryz.prog 52 = some (.slice 9)) rfl) ?_
    refine stepK_d rfl rfl rfl hst (does_lss rfl rfl rfl) ?_
    refine wpK_nil ?_
    refine cp_then ?_
    refine cp_if rfl ?_ ?_
    · intro c9
      refine cp_skip ?_
      refine cp_then ?_
      refine cp_seq ?_
      refine cp_block ?_
      refine cp_seq ?_
      obtain ⟨x, hx⟩ : ∃ x, ss[k]? = some x := ⟨_, List.getElem?_eq_getElem (by omega)⟩
      refine cp_region ?_
      refine stepK_d rfl rfl rfl hst (does_move rfl rfl) ?_
      refine stepK_d rfl rfl rfl hst (does_move rfl rfl) ?_
      refine stepK_d rfl rfl rfl hst (does_indexAddr1 rfl (by kernel_rfl : Program.underlying Tryz.prog 52 = some (.slice 9)) (by kernel_rfl) rfl rfl rfl (by omega)) ?_
      refine stepK_d rfl rfl rfl hst (does_load_g1 rfl (by kernel_rfl) rfl (by rw [Nat.zero_add]; exact hc _ _ hx)) ?_
      refine stepK_d rfl rfl rfl hst (does_len_string rfl (by kernel_rfl) rfl) ?_
      refine stepK_d rfl rfl rfl hst (does_move rfl rfl) ?_
      refine stepK_d rfl rfl rfl hst (does_gtr rfl rfl rfl) ?_
      refine wpK_nil ?_
      refine cp_then ?_
      refine cp_if rfl ?_ ?_
      · intro c18
        refine cp_seq ?_
        refine cp_region ?_
        refine stepK_d rfl rfl rfl hst (does_assign rfl rfl) ?_
        refine wpK_nil ?_
        refine cp_then ?_
        refine cp_ret ?_
        refine at_block_ret ?_
        refine at_then_ret ?_
        refine at_then_ret ?_
        refine at_block_ret ?_
        refine at_then_ret ?_
        refine ret1 rfl rfl hst ?_
        rw [decide_eq_false (fun h => by have := h x (List.mem_of_getElem? hx); omega)]
      · intro c18
        refine cp_skip ?_
        refine at_block_normal ?_
        refine cp_then ?_
        refine cp_region ?_
        refine stepK_d rfl rfl rfl hst (does_move rfl rfl) ?_
        refine stepK_d rfl rfl rfl hst (Does.int (does_add rfl rfl rfl) (wrap_i64 (by omega) (by omega))) ?_
        refine stepK_d rfl rfl rfl hst (does_assign rfl rfl) ?_
        refine wpK_nil ?_
        refine round_end (k + 1) ?_ ?_ ?_
        · exact ⟨rfl, rfl, rfl, trivial⟩
        · refine ⟨hst, by omega, fun y hy => ?_⟩
          rw [List.take_add_one, hx] at hy
          rcases List.mem_append.1 hy with hy | hy
          · exact hd y hy
          · have : y = x := by simpa using hy
            subst this
            omega
        · omega
    · intro c9
      refine cp_exit ?_
      refine at_then_exit ?_
      refine at_then_exit ?_
      refine cp_exit_here ?_
      refine cp_then ?_
      refine cp_seq ?_
      refine cp_region ?_
      refine stepK_d rfl rfl rfl hst (does_assign rfl rfl) ?_
      refine wpK_nil ?_
      refine cp_then ?_
      refine cp_ret ?_
      refine ret1 rfl rfl hst ?_
      rw [decide_eq_true]
      intro s hs
      exact hd s (by rw [List.take_of_length_le (by omega)]; exact hs)

set_option maxHeartbeats 4000000 in
theorem RationalArithmetic_walk {g : Mem} {w : World} (hag : Agree g w) (hT : TabG Tryz.prog g) {a b : ByteArray} :
    CallTo Tryz.prog 11 #[.string a, .string b] w (Ret w g fun v g => v = .bool true) := by
  refine CallTo.enter (vs := [.string a, .string b]) (by kernel_rfl : Tryz.prog.funcs[11]? = some Tryz.f11) (by kernel_rfl) rfl rfl rfl ?_
  have hst := St.init hag
  refine cp_seq ?_
  refine cp_region ?_
  refine stepK_d rfl rfl rfl hst (does_assign rfl rfl) ?_
  refine wpK_nil ?_
  refine cp_then ?_
  refine cp_seq ?_
  refine cp_seq ?_
  refine cp_region ?_
  refine stepK_d rfl rfl rfl hst (does_move rfl rfl) ?_
  refine stepK_d rfl rfl rfl hst (does_move rfl rfl) ?_
  refine stepK_buildSlice rfl rfl rfl rfl (by kernel_rfl : Program.underlying Tryz.prog 52 = some (.slice 9)) (by kernel_rfl : elemInfo Tryz.prog 9 = some ((.string ByteArray.empty), 1, 16)) rfl rfl (by decide) (by decide) (by decide) rfl rfl hst ?_
  clear hst
  intro bs w1 hst
  obtain ⟨hst, hleS⟩ := hst.publish 0 rfl
  replace hT := hT.mono hleS
  refine stepK_call rfl rfl rfl rfl rfl hst (keep_Short (ss := [a, b]) (n := 200) hst.agree (fun j s hj => by rw [gcell_put]; match j, hj with | 0, hj => simpa using hj | 1, hj => simpa using hj) (by simp)) ?_
  clear hst
  intro v2 g2 w2 hst hle2 hcs2 hp2
  replace hT := hT.mono hle2
  obtain rfl := hp2
  refine stepK_d rfl rfl rfl hst (does_not rfl rfl) ?_
  refine wpK_nil ?_
  refine cp_then ?_
  refine cp_cond rfl ?_ ?_
  · intro c13
    refine cp_seq ?_
    refine cp_region ?_
    refine stepK_call rfl rfl rfl rfl rfl hst (law01_awake hst.agree hT) ?_
    clear hst
    intro v3 g3 w3 hst hle3 hcs3 hp3
    replace hT := hT.mono hle3
    obtain rfl := hp3
    refine stepK_d rfl rfl rfl hst (does_assign rfl rfl) ?_
    refine wpK_nil ?_
    refine cp_then ?_
    refine cp_ret ?_
    refine at_then_ret ?_
    refine ret1 rfl rfl hst ?_
    first
    | rfl
    | simp_all
  · intro c13
    have hsh : ∀ s ∈ [a, b], s.size ≤ 200 := dec_of c13
    have ha : a.size ≤ 200 := hsh a (by simp)
    have hb : b.size ≤ 200 := hsh b (by simp)
    have sx := (getR_sz a).mono (m := 201) (by omega)
    have sy := (getR_sz b).mono (m := 201) (by omega)
    have fx := sx.fitH (by decide)
    have fy := sy.fitH (by decide)
    refine cp_skip ?_
    refine cp_then ?_
    refine cp_seq ?_
    refine cp_region ?_
    refine stepK_d rfl rfl rfl hst (does_move rfl rfl) ?_
    refine stepK_call rfl rfl rfl rfl rfl hst (snum_Num hst.agree (by omega)) ?_
    clear hst
    intro v4 g4 w4 hst hle4 hcs4 hp4
    replace hT := hT.mono hle4
    obtain ⟨na, A, n, c, nb, B, m, d, rfl, hx⟩ := hp4
    refine stepK_d rfl rfl rfl hst (does_move rfl rfl) ?_
    refine stepK_call rfl rfl rfl rfl rfl hst (snum_Num hst.agree (by omega)) ?_
    clear hst
    intro v5 g5 w5 hst hle5 hcs5 hp5
    replace hT := hT.mono hle5
    replace hx := hx.mono hle5
    obtain ⟨na2, A2, n2, c2, nb2, B2, m2, d2, rfl, hy⟩ := hp5
    refine stepK_alloc rfl rfl rfl rfl (by kernel_rfl : zeroOf Tryz.prog 30 = some (.agg #[.bool false, .slice none 0 0, .bool false, .slice none 0 0])) rfl hst ?_
    clear hst
    intro b6 w6 hst
    refine stepK_alloc rfl rfl rfl rfl (by kernel_rfl : zeroOf Tryz.prog 30 = some (.agg #[.bool false, .slice none 0 0, .bool false, .slice none 0 0])) rfl hst ?_
    clear hst
    intro b7 w7 hst
    refine stepK_store 0 rfl rfl rfl rfl rfl rfl (by kernel_rfl : sizeB Tryz.prog 30 = some 4) rfl rfl hst rfl (by first | (simp [uN_length]; omega) | simp) ?_
    clear hst
    intro w8 hst
    simp only [List.nil_append, List.cons_append, List.set_cons_zero, List.set_cons_succ, splice, List.toList_toArray, List.take_zero, List.take_succ_cons, List.take_nil, List.drop_zero, List.drop_succ_cons, List.drop_nil, List.length_cons, List.length_nil, Nat.zero_add, Nat.add_zero, Nat.reduceAdd, List.append_nil] at hst
    refine stepK_store 1 rfl rfl rfl rfl rfl rfl (by kernel_rfl : sizeB Tryz.prog 30 = some 4) rfl rfl hst rfl (by first | (simp [uN_length]; omega) | simp) ?_
    clear hst
    intro w9 hst
    simp only [List.nil_append, List.cons_append, List.set_cons_zero, List.set_cons_succ, splice, List.toList_toArray, List.take_zero, List.take_succ_cons, List.take_nil, List.drop_zero, List.drop_succ_cons, List.drop_nil, List.length_cons, List.length_nil, Nat.zero_add, Nat.add_zero, Nat.reduceAdd, List.append_nil] at hst
    refine wpK_nil ?_
    refine cp_then ?_
    refine cp_seq ?_
    refine cp_region ?_
    refine stepK_d rfl rfl rfl hst (does_move rfl rfl) ?_
    refine stepK_d rfl rfl rfl hst (does_move rfl rfl) ?_
    refine stepK_call rfl rfl rfl rfl rfl hst (rational_Div hst.agree hT (a := a) (b := b) (by omega) (by omega)) ?_
    clear hst
    intro v10 g10 w10 hst hle10 hcs10 hp10
    replace hT := hT.mono hle10
    replace hx := hx.mono hle10
    replace hy := hy.mono hle10
    obtain rfl := hp10
    refine stepK_d rfl rfl rfl hst (does_move rfl rfl) ?_
    refine stepK_d rfl rfl rfl hst (does_extract rfl rfl rfl) ?_
    refine stepK_d rfl rfl rfl hst (does_extract rfl rfl rfl) ?_
    refine stepK_d rfl rfl rfl hst (does_assign rfl rfl) ?_
    refine stepK_d rfl rfl rfl hst (does_assign rfl rfl) ?_
    refine wpK_nil ?_
    refine cp_then ?_
    refine cp_seq ?_
    refine cp_seq ?_
    refine cp_region ?_
    refine stepK_d rfl rfl rfl hst (does_move rfl rfl) ?_
    refine stepK_d rfl rfl rfl hst (does_load_ownN 1 rfl (by kernel_rfl) (by kernel_rfl : sizeB Tryz.prog 30 = some 4) rfl rfl rfl) ?_
    refine stepK_call rfl rfl rfl rfl rfl hst (snum_RSign hst.agree hy) ?_
    clear hst
    intro v11 g11 w11 hst hle11 hcs11 hp11
    replace hT := hT.mono hle11
    replace hx := hx.mono hle11
    replace hy := hy.mono hle11
    obtain rfl := hp11
    refine stepK_d rfl rfl rfl hst (does_neq rfl rfl rfl) ?_
    refine stepK_d rfl rfl rfl hst (Does.bfalse' (does_neq_bool rfl (by kernel_rfl) rfl rfl) (same_dec sign_ne)) ?_
    refine stepK_d rfl rfl rfl hst (does_move rfl rfl) ?_
    refine stepK_guard rfl rfl rfl rfl rfl rfl hst (does_move rfl rfl) ?_
    refine stepK_guard rfl rfl rfl rfl rfl rfl hst (does_move rfl rfl) ?_
    refine wpK_splitb (t := 32) rfl ?_ ?_
    · intro s32
      have hy0 : getR b ≠ 0 := of_decide_eq_true s32
      rw [if_neg hy0]
      refine stepK_guard rfl rfl rfl rfl rfl rfl hst (does_move rfl rfl) ?_
      refine stepK_guard rfl rfl rfl rfl rfl rfl hst (does_load_ownN 0 rfl (by kernel_rfl) (by kernel_rfl : sizeB Tryz.prog 30 = some 4) rfl rfl rfl) ?_
      refine stepK_guard rfl rfl rfl rfl rfl rfl hst (does_load_ownN 1 rfl (by kernel_rfl) (by kernel_rfl : sizeB Tryz.prog 30 = some 4) rfl rfl rfl) ?_
      refine stepK_call_guard rfl rfl rfl rfl rfl rfl rfl rfl hst (snum_RDiv hst.agree hx hy fx fy) ?_
      clear hst
      intro v12 g12 w12 hst hle12 hcs12 hp12
      replace hT := hT.mono hle12
      replace hx := hx.mono hle12
      replace hy := hy.mono hle12
      obtain ⟨_, _, _, _, _, _, _, _, rfl, hq⟩ := hp12
      refine stepK_call_guard rfl rfl rfl rfl rfl rfl rfl rfl hst (snum_Text hst.agree hq ((sx.div sy).fitH (by decide))) ?_
      clear hst
      intro v13 g13 w13 hst hle13 hcs13 hp13
      replace hT := hT.mono hle13
      replace hx := hx.mono hle13
      replace hy := hy.mono hle13
      replace hq := hq.mono hle13
      obtain rfl := hp13
      refine stepK_guard rfl rfl rfl rfl rfl rfl hst (Does.no (does_neq_string rfl rfl rfl) (fun h => h rfl)) ?_
      refine stepK_guard rfl rfl rfl rfl rfl rfl hst (does_pick_true rfl rfl rfl) ?_
      refine stepK_d rfl rfl rfl hst (does_pick_false rfl rfl rfl) ?_
      refine stepK_d rfl rfl rfl hst (does_move rfl rfl) ?_
      refine stepK_guard rfl rfl rfl rfl rfl rfl hst (does_move rfl rfl) ?_
      refine stepK_guard rfl rfl rfl rfl rfl rfl hst (does_not rfl rfl) ?_
      refine stepK_guard rfl rfl rfl rfl rfl rfl hst (does_move rfl rfl) ?_
      refine wpK_splitb (t := 44) rfl ?_ ?_
      · intro s44
        exact absurd hy0 (dec_no s44)
      · intro s44
        refine stepK_pass rfl rfl rfl rfl rfl rfl rfl ?_
        refine stepK_pass rfl rfl rfl rfl rfl rfl rfl ?_
        refine stepK_guard rfl rfl rfl rfl rfl rfl hst (does_pick_false rfl rfl rfl) ?_
        refine stepK_d rfl rfl rfl hst (does_pick_false rfl rfl rfl) ?_
        refine wpK_nil ?_
        refine cp_then ?_
        refine cp_cond_false rfl ?_
        refine cp_skip ?_
        refine cp_then ?_
        refine cp_seq ?_
        refine cp_drawn (by kernel_rfl) 32 [(0, true), (1, true), (3, true), (4, true), (2, false), (5, false), (6, false), (7, true), (8, true), (9, true), (10, true), (12, true), (13, true), (11, false), (14, false), (15, false), (16, true), (17, true), (18, true), (19, true), (20, true), (22, true), (23, true), (21, false), (24, false), (25, false), (26, true), (27, true), (28, true), (29, false), (30, true), (31, true)] _ rfl (by kernel_rfl) (by kernel_rfl) (by kernel_rfl) (fun _ _ _ _ _ h => h) _ (hst.drew) ?_
        have hst0 := hst.drew
        clear hst
        have hst := hst0
        refine stepD_d rfl rfl rfl rfl (does_move rfl rfl) ?_
        refine stepD_d rfl rfl rfl rfl (does_move rfl rfl) ?_
        refine stepD_d rfl rfl rfl rfl (does_load_ownN 0 rfl (by kernel_rfl) (by kernel_rfl : sizeB Tryz.prog 30 = some 4) rfl rfl rfl) ?_
        refine stepD_d rfl rfl rfl rfl (does_load_ownN 1 rfl (by kernel_rfl) (by kernel_rfl : sizeB Tryz.prog 30 = some 4) rfl rfl rfl) ?_
        refine stepD_call rfl rfl rfl rfl rfl rfl hst (rational_Add hst.agree hT (a := a) (b := b) (by omega) (by omega)) (fun _ _ h hle => St.older h hle (by simp) hst0.ext hst0.le) ?_
        clear hst
        intro v14 g14 w14 hst hle14 hcs14 hp14
        have hlesum := hle14
        replace hT := hT.mono hle14
        replace hx := hx.mono hle14
        replace hy := hy.mono hle14
        replace hq := hq.mono hle14
        obtain rfl := hp14
        refine stepD_call rfl rfl rfl rfl rfl rfl hst (snum_RAdd hst.agree hx hy fx fy) (fun _ _ h hle => St.older h (Mem.le.trans hlesum hle) (by simp) hst0.ext hst0.le) ?_
        clear hst
        intro v15 g15 w15 hst hle15 hcs15 hp15
        replace hlesum := Mem.le.trans hlesum hle15
        replace hT := hT.mono hle15
        replace hx := hx.mono hle15
        replace hy := hy.mono hle15
        replace hq := hq.mono hle15
        obtain ⟨_, _, _, _, _, _, _, _, rfl, hq1⟩ := hp15
        refine stepD_call rfl rfl rfl rfl rfl rfl hst (snum_Text hst.agree hq1 ((sx.add sy).fitH (by decide))) (fun _ _ h hle => St.older h (Mem.le.trans hlesum hle) (by simp) hst0.ext hst0.le) ?_
        clear hst
        intro v16 g16 w16 hst hle16 hcs16 hp16
        replace hlesum := Mem.le.trans hlesum hle16
        replace hT := hT.mono hle16
        replace hx := hx.mono hle16
        replace hy := hy.mono hle16
        replace hq := hq.mono hle16
        replace hq1 := hq1.mono hle16
        obtain rfl := hp16
        refine stepD_d rfl rfl rfl rfl (Does.yes (does_eql_string rfl rfl rfl) rfl) ?_
        refine stepD_d rfl rfl rfl rfl (does_move rfl rfl) ?_
        refine stepD_guard rfl rfl rfl rfl rfl rfl rfl (does_move rfl rfl) ?_
        refine stepD_guard rfl rfl rfl rfl rfl rfl rfl (does_move rfl rfl) ?_
        refine stepD_guard rfl rfl rfl rfl rfl rfl rfl (does_load_ownN 0 rfl (by kernel_rfl) (by kernel_rfl : sizeB Tryz.prog 30 = some 4) rfl rfl rfl) ?_
        refine stepD_guard rfl rfl rfl rfl rfl rfl rfl (does_load_ownN 1 rfl (by kernel_rfl) (by kernel_rfl : sizeB Tryz.prog 30 = some 4) rfl rfl rfl) ?_
        refine stepD_call_guard rfl rfl rfl rfl rfl rfl rfl rfl rfl hst (rational_Sub hst.agree hT (a := a) (b := b) (by omega) (by omega)) (fun _ _ h hle => St.older h (Mem.le.trans hlesum hle) (by simp) hst0.ext hst0.le) ?_
        clear hst
        intro v17 g17 w17 hst hle17 hcs17 hp17
        replace hlesum := Mem.le.trans hlesum hle17
        replace hT := hT.mono hle17
        replace hx := hx.mono hle17
        replace hy := hy.mono hle17
        replace hq := hq.mono hle17
        replace hq1 := hq1.mono hle17
        obtain rfl := hp17
        refine stepD_call_guard rfl rfl rfl rfl rfl rfl rfl rfl rfl hst (snum_RSub hst.agree hx hy fx fy) (fun _ _ h hle => St.older h (Mem.le.trans hlesum hle) (by simp) hst0.ext hst0.le) ?_
        clear hst
        intro v18 g18 w18 hst hle18 hcs18 hp18
        replace hlesum := Mem.le.trans hlesum hle18
        replace hT := hT.mono hle18
        replace hx := hx.mono hle18
        replace hy := hy.mono hle18
        replace hq := hq.mono hle18
        replace hq1 := hq1.mono hle18
        obtain ⟨_, _, _, _, _, _, _, _, rfl, hq2⟩ := hp18
        refine stepD_call_guard rfl rfl rfl rfl rfl rfl rfl rfl rfl hst (snum_Text hst.agree hq2 ((sx.sub sy).fitH (by decide))) (fun _ _ h hle => St.older h (Mem.le.trans hlesum hle) (by simp) hst0.ext hst0.le) ?_
        clear hst
        intro v19 g19 w19 hst hle19 hcs19 hp19
        replace hlesum := Mem.le.trans hlesum hle19
        replace hT := hT.mono hle19
        replace hx := hx.mono hle19
        replace hy := hy.mono hle19
        replace hq := hq.mono hle19
        replace hq1 := hq1.mono hle19
        replace hq2 := hq2.mono hle19
        obtain rfl := hp19
        refine stepD_guard rfl rfl rfl rfl rfl rfl rfl (Does.yes (does_eql_string rfl rfl rfl) rfl) ?_
        refine stepD_d rfl rfl rfl rfl (does_pick_true rfl rfl rfl) ?_
        refine stepD_d rfl rfl rfl rfl (does_move rfl rfl) ?_
        refine stepD_guard rfl rfl rfl rfl rfl rfl rfl (does_move rfl rfl) ?_
        refine stepD_guard rfl rfl rfl rfl rfl rfl rfl (does_move rfl rfl) ?_
        refine stepD_guard rfl rfl rfl rfl rfl rfl rfl (does_load_ownN 0 rfl (by kernel_rfl) (by kernel_rfl : sizeB Tryz.prog 30 = some 4) rfl rfl rfl) ?_
        refine stepD_guard rfl rfl rfl rfl rfl rfl rfl (does_load_ownN 1 rfl (by kernel_rfl) (by kernel_rfl : sizeB Tryz.prog 30 = some 4) rfl rfl rfl) ?_
        refine stepD_call_guard rfl rfl rfl rfl rfl rfl rfl rfl rfl hst (rational_Mul hst.agree hT (a := a) (b := b) (by omega) (by omega)) (fun _ _ h hle => St.older h (Mem.le.trans hlesum hle) (by simp) hst0.ext hst0.le) ?_
        clear hst
        intro v20 g20 w20 hst hle20 hcs20 hp20
        replace hlesum := Mem.le.trans hlesum hle20
        replace hT := hT.mono hle20
        replace hx := hx.mono hle20
        replace hy := hy.mono hle20
        replace hq := hq.mono hle20
        replace hq1 := hq1.mono hle20
        replace hq2 := hq2.mono hle20
        obtain rfl := hp20
        refine stepD_call_guard rfl rfl rfl rfl rfl rfl rfl rfl rfl hst (snum_RMul hst.agree hx hy fx fy) (fun _ _ h hle => St.older h (Mem.le.trans hlesum hle) (by simp) hst0.ext hst0.le) ?_
        clear hst
        intro v21 g21 w21 hst hle21 hcs21 hp21
        replace hlesum := Mem.le.trans hlesum hle21
        replace hT := hT.mono hle21
        replace hx := hx.mono hle21
        replace hy := hy.mono hle21
        replace hq := hq.mono hle21
        replace hq1 := hq1.mono hle21
        replace hq2 := hq2.mono hle21
        obtain ⟨_, _, _, _, _, _, _, _, rfl, hq3⟩ := hp21
        refine stepD_call_guard rfl rfl rfl rfl rfl rfl rfl rfl rfl hst (snum_Text hst.agree hq3 ((sx.mul sy).fitH (by decide))) (fun _ _ h hle => St.older h (Mem.le.trans hlesum hle) (by simp) hst0.ext hst0.le) ?_
        clear hst
        intro v22 g22 w22 hst hle22 hcs22 hp22
        replace hlesum := Mem.le.trans hlesum hle22
        replace hT := hT.mono hle22
        replace hx := hx.mono hle22
        replace hy := hy.mono hle22
        replace hq := hq.mono hle22
        replace hq1 := hq1.mono hle22
        replace hq2 := hq2.mono hle22
        replace hq3 := hq3.mono hle22
        obtain rfl := hp22
        refine stepD_guard rfl rfl rfl rfl rfl rfl rfl (Does.yes (does_eql_string rfl rfl rfl) rfl) ?_
        refine stepD_d rfl rfl rfl rfl (does_pick_true rfl rfl rfl) ?_
        refine stepD_d rfl rfl rfl rfl (does_move rfl rfl) ?_
        refine stepD_call_guard rfl rfl rfl rfl rfl rfl rfl rfl rfl hst (law01_awake hst.agree hT) (fun _ _ h hle => St.older h (Mem.le.trans hlesum hle) (by simp) hst0.ext hst0.le) ?_
        clear hst
        intro v23 g23 w23 hst hle23 hcs23 hp23
        replace hlesum := Mem.le.trans hlesum hle23
        replace hT := hT.mono hle23
        replace hx := hx.mono hle23
        replace hy := hy.mono hle23
        replace hq := hq.mono hle23
        replace hq1 := hq1.mono hle23
        replace hq2 := hq2.mono hle23
        replace hq3 := hq3.mono hle23
        obtain rfl := hp23
        refine stepD_d rfl rfl rfl rfl (does_pick_true rfl rfl rfl) ?_
        refine stepD_d rfl rfl rfl rfl (does_assign rfl rfl) ?_
        refine stepD_tail ?_
        refine wpK_nil ?_
        refine cp_then ?_
        refine cp_ret ?_
        refine ret1 rfl rfl hst ?_
        first
        | rfl
        | simp_all
    · intro s32
      have hy0 : getR b = 0 := Decidable.not_not.1 (of_decide_eq_false s32)
      rw [if_pos hy0]
      refine stepK_pass rfl rfl rfl rfl rfl rfl rfl ?_
      refine stepK_pass rfl rfl rfl rfl rfl rfl rfl ?_
      refine stepK_pass rfl rfl rfl rfl rfl rfl rfl ?_
      refine stepK_pass rfl rfl rfl rfl rfl rfl rfl ?_
      refine stepK_pass rfl rfl rfl rfl rfl rfl rfl ?_
      refine stepK_pass rfl rfl rfl rfl rfl rfl rfl ?_
      refine stepK_guard rfl rfl rfl rfl rfl rfl hst (does_pick_false rfl rfl rfl) ?_
      refine stepK_d rfl rfl rfl hst (does_pick_false rfl rfl rfl) ?_
      refine stepK_d rfl rfl rfl hst (does_move rfl rfl) ?_
      refine stepK_guard rfl rfl rfl rfl rfl rfl hst (does_move rfl rfl) ?_
      refine stepK_guard rfl rfl rfl rfl rfl rfl hst (does_not rfl rfl) ?_
      refine stepK_guard rfl rfl rfl rfl rfl rfl hst (does_move rfl rfl) ?_
      refine wpK_splitb (t := 44) rfl ?_ ?_
      · intro s44
        refine stepK_guard rfl rfl rfl rfl rfl rfl hst (does_move rfl rfl) ?_
        refine stepK_guard rfl rfl rfl rfl rfl rfl hst (Does.no (does_neq_string rfl rfl rfl) (fun h => h rfl)) ?_
        refine stepK_guard rfl rfl rfl rfl rfl rfl hst (does_pick_true rfl rfl rfl) ?_
        refine stepK_d rfl rfl rfl hst (does_pick_false rfl rfl rfl) ?_
        refine wpK_nil ?_
        refine cp_then ?_
        refine cp_cond_false rfl ?_
        refine cp_skip ?_
        refine cp_then ?_
        refine cp_seq ?_
        refine cp_drawn (by kernel_rfl) 32 [(0, true), (1, true), (3, true), (4, true), (2, false), (5, false), (6, false), (7, true), (8, true), (9, true), (10, true), (12, true), (13, true), (11, false), (14, false), (15, false), (16, true), (17, true), (18, true), (19, true), (20, true), (22, true), (23, true), (21, false), (24, false), (25, false), (26, true), (27, true), (28, true), (29, false), (30, true), (31, true)] _ rfl (by kernel_rfl) (by kernel_rfl) (by kernel_rfl) (fun _ _ _ _ _ h => h) _ (hst.drew) ?_
        have hst0 := hst.drew
        clear hst
        have hst := hst0
        refine stepD_d rfl rfl rfl rfl (does_move rfl rfl) ?_
        refine stepD_d rfl rfl rfl rfl (does_move rfl rfl) ?_
        refine stepD_d rfl rfl rfl rfl (does_load_ownN 0 rfl (by kernel_rfl) (by kernel_rfl : sizeB Tryz.prog 30 = some 4) rfl rfl rfl) ?_
        refine stepD_d rfl rfl rfl rfl (does_load_ownN 1 rfl (by kernel_rfl) (by kernel_rfl : sizeB Tryz.prog 30 = some 4) rfl rfl rfl) ?_
        refine stepD_call rfl rfl rfl rfl rfl rfl hst (rational_Add hst.agree hT (a := a) (b := b) (by omega) (by omega)) (fun _ _ h hle => St.older h hle (by simp) hst0.ext hst0.le) ?_
        clear hst
        intro v24 g24 w24 hst hle24 hcs24 hp24
        have hlesum := hle24
        replace hT := hT.mono hle24
        replace hx := hx.mono hle24
        replace hy := hy.mono hle24
        obtain rfl := hp24
        refine stepD_call rfl rfl rfl rfl rfl rfl hst (snum_RAdd hst.agree hx hy fx fy) (fun _ _ h hle => St.older h (Mem.le.trans hlesum hle) (by simp) hst0.ext hst0.le) ?_
        clear hst
        intro v25 g25 w25 hst hle25 hcs25 hp25
        replace hlesum := Mem.le.trans hlesum hle25
        replace hT := hT.mono hle25
        replace hx := hx.mono hle25
        replace hy := hy.mono hle25
        obtain ⟨_, _, _, _, _, _, _, _, rfl, hq1⟩ := hp25
        refine stepD_call rfl rfl rfl rfl rfl rfl hst (snum_Text hst.agree hq1 ((sx.add sy).fitH (by decide))) (fun _ _ h hle => St.older h (Mem.le.trans hlesum hle) (by simp) hst0.ext hst0.le) ?_
        clear hst
        intro v26 g26 w26 hst hle26 hcs26 hp26
        replace hlesum := Mem.le.trans hlesum hle26
        replace hT := hT.mono hle26
        replace hx := hx.mono hle26
        replace hy := hy.mono hle26
        replace hq1 := hq1.mono hle26
        obtain rfl := hp26
        refine stepD_d rfl rfl rfl rfl (Does.yes (does_eql_string rfl rfl rfl) rfl) ?_
        refine stepD_d rfl rfl rfl rfl (does_move rfl rfl) ?_
        refine stepD_guard rfl rfl rfl rfl rfl rfl rfl (does_move rfl rfl) ?_
        refine stepD_guard rfl rfl rfl rfl rfl rfl rfl (does_move rfl rfl) ?_
        refine stepD_guard rfl rfl rfl rfl rfl rfl rfl (does_load_ownN 0 rfl (by kernel_rfl) (by kernel_rfl : sizeB Tryz.prog 30 = some 4) rfl rfl rfl) ?_
        refine stepD_guard rfl rfl rfl rfl rfl rfl rfl (does_load_ownN 1 rfl (by kernel_rfl) (by kernel_rfl : sizeB Tryz.prog 30 = some 4) rfl rfl rfl) ?_
        refine stepD_call_guard rfl rfl rfl rfl rfl rfl rfl rfl rfl hst (rational_Sub hst.agree hT (a := a) (b := b) (by omega) (by omega)) (fun _ _ h hle => St.older h (Mem.le.trans hlesum hle) (by simp) hst0.ext hst0.le) ?_
        clear hst
        intro v27 g27 w27 hst hle27 hcs27 hp27
        replace hlesum := Mem.le.trans hlesum hle27
        replace hT := hT.mono hle27
        replace hx := hx.mono hle27
        replace hy := hy.mono hle27
        replace hq1 := hq1.mono hle27
        obtain rfl := hp27
        refine stepD_call_guard rfl rfl rfl rfl rfl rfl rfl rfl rfl hst (snum_RSub hst.agree hx hy fx fy) (fun _ _ h hle => St.older h (Mem.le.trans hlesum hle) (by simp) hst0.ext hst0.le) ?_
        clear hst
        intro v28 g28 w28 hst hle28 hcs28 hp28
        replace hlesum := Mem.le.trans hlesum hle28
        replace hT := hT.mono hle28
        replace hx := hx.mono hle28
        replace hy := hy.mono hle28
        replace hq1 := hq1.mono hle28
        obtain ⟨_, _, _, _, _, _, _, _, rfl, hq2⟩ := hp28
        refine stepD_call_guard rfl rfl rfl rfl rfl rfl rfl rfl rfl hst (snum_Text hst.agree hq2 ((sx.sub sy).fitH (by decide))) (fun _ _ h hle => St.older h (Mem.le.trans hlesum hle) (by simp) hst0.ext hst0.le) ?_
        clear hst
        intro v29 g29 w29 hst hle29 hcs29 hp29
        replace hlesum := Mem.le.trans hlesum hle29
        replace hT := hT.mono hle29
        replace hx := hx.mono hle29
        replace hy := hy.mono hle29
        replace hq1 := hq1.mono hle29
        replace hq2 := hq2.mono hle29
        obtain rfl := hp29
        refine stepD_guard rfl rfl rfl rfl rfl rfl rfl (Does.yes (does_eql_string rfl rfl rfl) rfl) ?_
        refine stepD_d rfl rfl rfl rfl (does_pick_true rfl rfl rfl) ?_
        refine stepD_d rfl rfl rfl rfl (does_move rfl rfl) ?_
        refine stepD_guard rfl rfl rfl rfl rfl rfl rfl (does_move rfl rfl) ?_
        refine stepD_guard rfl rfl rfl rfl rfl rfl rfl (does_move rfl rfl) ?_
        refine stepD_guard rfl rfl rfl rfl rfl rfl rfl (does_load_ownN 0 rfl (by kernel_rfl) (by kernel_rfl : sizeB Tryz.prog 30 = some 4) rfl rfl rfl) ?_
        refine stepD_guard rfl rfl rfl rfl rfl rfl rfl (does_load_ownN 1 rfl (by kernel_rfl) (by kernel_rfl : sizeB Tryz.prog 30 = some 4) rfl rfl rfl) ?_
        refine stepD_call_guard rfl rfl rfl rfl rfl rfl rfl rfl rfl hst (rational_Mul hst.agree hT (a := a) (b := b) (by omega) (by omega)) (fun _ _ h hle => St.older h (Mem.le.trans hlesum hle) (by simp) hst0.ext hst0.le) ?_
        clear hst
        intro v30 g30 w30 hst hle30 hcs30 hp30
        replace hlesum := Mem.le.trans hlesum hle30
        replace hT := hT.mono hle30
        replace hx := hx.mono hle30
        replace hy := hy.mono hle30
        replace hq1 := hq1.mono hle30
        replace hq2 := hq2.mono hle30
        obtain rfl := hp30
        refine stepD_call_guard rfl rfl rfl rfl rfl rfl rfl rfl rfl hst (snum_RMul hst.agree hx hy fx fy) (fun _ _ h hle => St.older h (Mem.le.trans hlesum hle) (by simp) hst0.ext hst0.le) ?_
        clear hst
        intro v31 g31 w31 hst hle31 hcs31 hp31
        replace hlesum := Mem.le.trans hlesum hle31
        replace hT := hT.mono hle31
        replace hx := hx.mono hle31
        replace hy := hy.mono hle31
        replace hq1 := hq1.mono hle31
        replace hq2 := hq2.mono hle31
        obtain ⟨_, _, _, _, _, _, _, _, rfl, hq3⟩ := hp31
        refine stepD_call_guard rfl rfl rfl rfl rfl rfl rfl rfl rfl hst (snum_Text hst.agree hq3 ((sx.mul sy).fitH (by decide))) (fun _ _ h hle => St.older h (Mem.le.trans hlesum hle) (by simp) hst0.ext hst0.le) ?_
        clear hst
        intro v32 g32 w32 hst hle32 hcs32 hp32
        replace hlesum := Mem.le.trans hlesum hle32
        replace hT := hT.mono hle32
        replace hx := hx.mono hle32
        replace hy := hy.mono hle32
        replace hq1 := hq1.mono hle32
        replace hq2 := hq2.mono hle32
        replace hq3 := hq3.mono hle32
        obtain rfl := hp32
        refine stepD_guard rfl rfl rfl rfl rfl rfl rfl (Does.yes (does_eql_string rfl rfl rfl) rfl) ?_
        refine stepD_d rfl rfl rfl rfl (does_pick_true rfl rfl rfl) ?_
        refine stepD_d rfl rfl rfl rfl (does_move rfl rfl) ?_
        refine stepD_call_guard rfl rfl rfl rfl rfl rfl rfl rfl rfl hst (law01_awake hst.agree hT) (fun _ _ h hle => St.older h (Mem.le.trans hlesum hle) (by simp) hst0.ext hst0.le) ?_
        clear hst
        intro v33 g33 w33 hst hle33 hcs33 hp33
        replace hlesum := Mem.le.trans hlesum hle33
        replace hT := hT.mono hle33
        replace hx := hx.mono hle33
        replace hy := hy.mono hle33
        replace hq1 := hq1.mono hle33
        replace hq2 := hq2.mono hle33
        replace hq3 := hq3.mono hle33
        obtain rfl := hp33
        refine stepD_d rfl rfl rfl rfl (does_pick_true rfl rfl rfl) ?_
        refine stepD_d rfl rfl rfl rfl (does_assign rfl rfl) ?_
        refine stepD_tail ?_
        refine wpK_nil ?_
        refine cp_then ?_
        refine cp_ret ?_
        refine ret1 rfl rfl hst ?_
        first
        | rfl
        | simp_all
      · intro s44
        exact absurd hy0 (dec_of s44)

end Go.Proofs.YtbamjcfdlgnicaaGreatDoor
