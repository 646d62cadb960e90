/- A helper of the claim: general lemmas and walks of functions, printed by a program of this session. Conditions: none. -/
import Derived.Test.YtbamjcfdlgnicaaDoorK2
import Derived.Lib.IndexAny
import Derived.Test.YtbamjcfdlgnicaaDoorK6
import Derived.Test.YtbamjcfdlgnicaaDoorK3
import Derived.Test.YtbamjcfdlgnicaaDoorProg
import Derived.Test.YtbamjcfdlgnicaaDoorK1
namespace Go.Proofs.Vc
open Go Go.Lib
theorem bt_list {s : ByteArray} {j : Nat} {b : UInt8} (h : s.data.toList[j]? = some b) : bt s j = b.toNat ∧ j < s.size := by
  have hj : j < s.data.toList.length := (List.getElem?_eq_some_iff.1 h).1
  have hs : j < s.size := by simpa using hj
  have he := (List.getElem?_eq_some_iff.1 h).2
  refine ⟨?_, hs⟩
  unfold bt
  rw [dif_pos hs]
  have : s[j]'hs = b := by rw [← he]; rfl
  rw [this]
theorem dig_ascii {s : ByteArray} (hd : AllDig s) : ∀ (j : Nat) b, s.data.toList[j]? = some b → b.toNat < 128 := fun j b h => by
  obtain ⟨h1, h2⟩ := bt_list h
  have := hd j h2
  omega
theorem dig_any {s : ByteArray} (hd : AllDig s) : Lib.indexAny s.data.toList [47, 46] = -1 :=
  indexAny_none fun j b _ h => by
    obtain ⟨h1, h2⟩ := bt_list h
    have h3 := hd j h2
    have h4 : b ≠ 47 := fun e => by rw [e] at h1; have h5 : (47 : UInt8).toNat = 47 := rfl; omega
    have h5 : b ≠ 46 := fun e => by rw [e] at h1; have h5 : (46 : UInt8).toNat = 46 := rfl; omega
    simp [h4, h5]
theorem ratS_natE (N : Nat) : ratS ((N : Nat) : Rat) = ⟨(decDigits N).toArray⟩ := by
  unfold ratS ratL
  rw [show ((N : Nat) : Rat) = ((N : Int) : Rat) from rfl, Rat.num_intCast, Rat.den_intCast, if_pos rfl, List.append_nil]
  have h := itoa_sg false N (fun e => by cases e)
  rw [show sg false N = (N : Int) from rfl] at h
  rw [h]
  rfl
theorem text_plain {s : ByteArray} (h : PlainL (Lb s)) : ratS ((dvL (Lb s) : Nat) : Rat) = s := by
  rw [ratS_natE, ← plainL_eq _ h]
  rfl
/-- one digit, n times -/
def sameT (n d : Nat) : ByteArray := ⟨((List.replicate n (48 + d)).map UInt8.ofNat).toArray⟩
theorem sameT_size (n d : Nat) : (sameT n d).size = n := by simp [sameT, ByteArray.size]
theorem sameT_bt {n d j : Nat} (hd : d < 10) (hj : j < n) : bt (sameT n d) j = 48 + d := by
  have h : (sameT n d).data.toList[j]? = some (UInt8.ofNat (48 + d)) := by simp [sameT, hj]
  rw [(bt_list h).1, UInt8.toNat_ofNat']
  omega
theorem sameT_dig {n d : Nat} (hd : d < 10) : AllDig (sameT n d) := fun i hi => by
  rw [sameT_size] at hi
  rw [sameT_bt hd hi]
  omega
theorem sameT_plain {n d : Nat} (hd : d < 10) (h0 : 0 < d) (hn : 0 < n) : ratS ((dvL (Lb (sameT n d)) : Nat) : Rat) = sameT n d :=
  text_plain (plain_of (by rw [sameT_size]; exact hn) (fun h => by rw [sameT_bt hd hn] at h; omega) (sameT_dig hd))
theorem sameT_zero (n : Nat) : dvL (Lb (sameT n 0)) = 0 := by
  have h : ∀ n, dvL (List.replicate n (48 : UInt8)) = 0 := by
    intro n
    induction n with
    | zero => rfl
    | succ n ih => rw [List.replicate_succ, dvL_cons, ih, show (48 : UInt8).toNat - 48 = 0 from rfl, Nat.zero_mul]
  have e : Lb (sameT n 0) = List.replicate n (48 : UInt8) := by simp [Lb, sameT]
  rw [e]
  exact h n
end Go.Proofs.Vc

namespace Go.Proofs.YtbamjcfdlgnicaaDoor
open Go Go.RowKit Go.Proofs.Vc
set_option linter.unusedVariables false
set_option linter.unusedSimpArgs false


theorem IndexAny_dig {g : Mem} {w : World} (hag : Agree g w) {s : ByteArray} (hd : AllDig s) (hs : s.size ≤ 8192) : CallTo Tryd.prog 20 #[.string s, .string ⟨#[47, 46]⟩] w (Ret w g fun v g' => v = .int .i64 (-1)) :=
  .inl ⟨enters (by kernel_rfl : Tryd.prog.funcs[20]? = some Tryd.f20) (by kernel_rfl) rfl _ _, (Tryd.strings_IndexAny_laid s ⟨#[47, 46]⟩ w (by omega) (by decide) (dig_ascii hd) (fun j b h => (by decide : ∀ b ∈ ([47, 46] : List UInt8), b.toNat < 128) b (List.mem_of_getElem? h))).mono fun e w' ⟨he, hb⟩ => ⟨_, g, he, St.of_below hag hb, congrArg (Value.int .i64) (dig_any hd)⟩⟩

set_option maxHeartbeats 1000000 in
theorem Parse_dig {g : Mem} {w : World} (hag : Agree g w) (hT : TabG Tryd.prog g) {s : ByteArray} (hd : AllDig s) (hs : s.size ≤ 1000000) :
    CallTo Tryd.prog 7 #[.string s] w (Ret w g fun v g => v = .tuple #[.string (if 8192 < s.size ∨ s.size = 0 then ⟨#[]⟩ else ratS ((dvL (Lb s) : Nat) : Rat)), .int .i64 (if 8192 < s.size then 2 else if s.size = 0 then 6 else 0)]) := by
  refine CallTo.enter (vs := [.string s]) (by kernel_rfl : Tryd.prog.funcs[7]? = some Tryd.f7) (by kernel_rfl) rfl rfl rfl ?_
  have hst := St.init hag
  refine cp_seq ?_
  refine cp_region ?_
  refine stepK_d rfl rfl rfl hst (does_assign rfl rfl) ?_
  refine stepK_d rfl rfl rfl hst (does_assign rfl rfl) ?_
  refine wpK_nil ?_
  refine cp_then ?_
  refine cp_seq ?_
  refine cp_seq ?_
  refine cp_region ?_
  refine stepK_d rfl rfl rfl hst (does_move rfl rfl) ?_
  refine stepK_d rfl rfl rfl hst (does_len_string rfl (by kernel_rfl) rfl) ?_
  refine stepK_d rfl rfl rfl hst (does_gtr rfl rfl rfl) ?_
  refine wpK_nil ?_
  refine cp_then ?_
  refine cp_if rfl ?_ ?_
  · intro c15
    have h9 : 8192 < s.size := by omega
    refine cp_seq ?_
    refine cp_region ?_
    refine stepK_d rfl rfl rfl hst (does_assign rfl rfl) ?_
    refine stepK_d rfl rfl rfl hst (does_assign rfl rfl) ?_
    refine wpK_nil ?_
    refine cp_then ?_
    refine cp_ret ?_
    refine at_then_ret ?_
    refine ret2 rfl rfl rfl hst ?_
    rw [if_pos (.inl h9), if_pos h9]
  · intro c15
    have hle : s.size ≤ 8192 := by omega
    refine cp_skip ?_
    refine cp_then ?_
    refine cp_seq ?_
    refine cp_region ?_
    refine stepK_d rfl rfl rfl hst (does_move rfl rfl) ?_
    refine stepK_call rfl rfl rfl rfl rfl hst (CutPrefix1 hst.agree (c := 45) (by omega)) ?_
    clear hst
    intro v1 g1 w1 hst hle1 hcs1 hp1
    replace hT := hT.mono hle1
    obtain ⟨t, ok, rfl, hc⟩ := hp1
    obtain ⟨rfl, ht⟩ : ok = false ∧ t = s := by
      rcases hc with ⟨_, h2, _⟩ | ⟨h1, _, h2⟩
      · have h3 := hd 0 h2.1
        have h4 := h2.2
        have h5 : (45 : UInt8).toNat = 45 := rfl
        omega
      · exact ⟨h1, h2⟩
    rw [ht]
    clear hc ht
    refine stepK_d rfl rfl rfl hst (does_move rfl rfl) ?_
    refine stepK_d rfl rfl rfl hst (does_extract rfl rfl rfl) ?_
    refine stepK_d rfl rfl rfl hst (does_extract rfl rfl rfl) ?_
    refine stepK_d rfl rfl rfl hst (does_assign rfl rfl) ?_
    refine stepK_d rfl rfl rfl hst (does_assign rfl rfl) ?_
    refine wpK_nil ?_
    refine cp_then ?_
    refine cp_seq ?_
    refine cp_region ?_
    refine stepK_d rfl rfl rfl hst (does_move rfl rfl) ?_
    refine stepK_call rfl rfl rfl rfl rfl hst (IndexAny_dig hst.agree hd hle) ?_
    clear hst
    intro v2 g2 w2 hst hle2 hcs2 hp2
    replace hT := hT.mono hle2
    obtain rfl := hp2
    refine stepK_d rfl rfl rfl hst (does_assign rfl rfl) ?_
    refine wpK_nil ?_
    refine cp_then ?_
    refine cp_seq ?_
    refine cp_seq ?_
    refine cp_region ?_
    refine stepK_d rfl rfl rfl hst (does_move rfl rfl) ?_
    refine stepK_d rfl rfl rfl hst (does_lss rfl rfl rfl) ?_
    refine wpK_nil ?_
    refine cp_then ?_
    refine cp_if rfl ?_ ?_
    · intro c24
      refine cp_seq ?_
      refine cp_region ?_
      refine stepK_d rfl rfl rfl hst (does_move rfl rfl) ?_
      refine stepK_call rfl rfl rfl rfl rfl hst (num_Digits hst.agree (by omega)) ?_
      clear hst
      intro v3 g3 w3 hst hle3 hcs3 hp3
      replace hT := hT.mono hle3
      obtain ⟨p1, q1, a1, rfl, h1⟩ := hp3
      refine stepK_d rfl rfl rfl hst (does_move rfl rfl) ?_
      refine stepK_d rfl rfl rfl hst (does_extract rfl rfl rfl) ?_
      refine stepK_d rfl rfl rfl hst (does_extract rfl rfl rfl) ?_
      refine stepK_alloc rfl rfl rfl rfl (by kernel_rfl : zeroOf Tryd.prog 41 = some (.agg #[.int .i64 0, .int .i64 0, .pointer none])) rfl hst ?_
      clear hst
      intro b4 w4 hst
      refine stepK_store 0 rfl rfl rfl rfl rfl rfl (by kernel_rfl : sizeB Tryd.prog 41 = some 3) rfl rfl hst rfl (by first | (simp [uN_length]; omega) | simp) ?_
      clear hst
      intro w5 hst
      simp only [List.nil_append, List.cons_append, List.set_cons_zero, List.set_cons_succ, splice, List.toList_toArray, List.take_zero, List.take_succ_cons, List.take_nil, List.drop_zero, List.drop_succ_cons, List.drop_nil, List.length_cons, List.length_nil, Nat.zero_add, Nat.add_zero, Nat.reduceAdd, List.append_nil] at hst
      refine stepK_d rfl rfl rfl hst (does_assign rfl rfl) ?_
      refine wpK_nil ?_
      refine cp_then ?_
      refine cp_seq ?_
      refine cp_seq ?_
      refine cp_region ?_
      refine stepK_d rfl rfl rfl hst (does_move rfl rfl) ?_
      refine stepK_d rfl rfl rfl hst (does_not rfl rfl) ?_
      refine wpK_nil ?_
      refine cp_then ?_
      refine cp_cond rfl ?_ ?_
      · intro c31
        have h0 : s.size = 0 := Decidable.byContradiction fun h => dec_no c31 ⟨by omega, hd⟩
        refine cp_seq ?_
        refine cp_region ?_
        refine stepK_d rfl rfl rfl hst (does_assign rfl rfl) ?_
        refine stepK_d rfl rfl rfl hst (does_assign rfl rfl) ?_
        refine wpK_nil ?_
        refine cp_then ?_
        refine cp_ret ?_
        refine at_then_ret ?_
        refine at_then_ret ?_
        refine ret2 rfl rfl rfl hst ?_
        rw [if_pos (.inr h0), if_neg (by omega), if_pos h0]
      · intro c31
        have hgood := dec_of c31
        rw [if_pos hgood] at h1
        obtain ⟨K, hK⟩ : ∃ K, K = 8193 := ⟨_, rfl⟩
        have hsz : Sz K (((dvL (Lb s) : Nat) : Int) : Rat) := intR_sz (by rw [Int.natAbs_natCast]; exact dvL_size hd (by omega)) (by omega)
        have hfit : Fit ((dvL (Lb s) : Nat) : Rat) := hsz.fit (by omega)
        have h0 := hgood.1
        refine cp_skip ?_
        refine cp_then ?_
        refine cp_seq ?_
        refine cp_region ?_
        refine stepK_d rfl rfl rfl hst (does_load_ownN 0 rfl (by kernel_rfl) (by kernel_rfl : sizeB Tryd.prog 41 = some 3) rfl rfl rfl) ?_
        refine stepK_d rfl rfl rfl hst (does_move rfl rfl) ?_
        refine stepK_call rfl rfl rfl rfl rfl hst (rational_signed hst.agree hT h1 hfit) ?_
        clear hst
        intro v6 g6 w6 hst hle6 hcs6 hp6
        replace hT := hT.mono hle6
        replace h1 := h1.mono hle6
        obtain rfl := hp6
        refine stepK_d rfl rfl rfl hst (does_assign rfl rfl) ?_
        refine stepK_d rfl rfl rfl hst (does_assign rfl rfl) ?_
        refine wpK_nil ?_
        refine cp_then ?_
        refine cp_ret ?_
        refine at_then_ret ?_
        refine ret2 rfl rfl rfl hst ?_
        show Value.tuple #[.string (ratS ((dvL (Lb s) : Nat) : Rat)), .int .i64 0] = _
        rw [if_neg (by omega), if_neg (by omega), if_neg (by omega)]
    · intro c24
      exact absurd (by decide) c24

end Go.Proofs.YtbamjcfdlgnicaaDoor

namespace Go.Proofs.YtbamjcfdlgnicaaDoor
open Go Go.RowKit Go.Proofs.Vc
set_option linter.unusedVariables false
set_option linter.unusedSimpArgs false

set_option maxHeartbeats 1000000 in
theorem keep_Mod {g : Mem} {w : World} (hag : Agree g w) {a : Int} {b : Nat} (h1 : -9223372036854775808 ≤ a) (h2 : a ≤ 9223372036854775807) (hb : 0 < b) (hb2 : b ≤ 1000000000) :
    CallTo Tryd.prog 6 #[.int .i64 a, .int .i64 (b : Int)] w (Ret w g fun v g => v = .int .i64 (a % (b : Int))) := by
  refine CallTo.enter (vs := [.int .i64 a, .int .i64 (b : Int)]) (by kernel_rfl : Tryd.prog.funcs[6]? = some Tryd.f6) (by kernel_rfl) rfl rfl rfl ?_
  have hst := St.init hag
  have h5 := Int.emod_nonneg a (show (b : Int) ≠ 0 by omega)
  have h6 := Int.emod_lt_of_pos a (show (0 : Int) < b by omega)
  have ht : (a.tmod (b : Int) = a % (b : Int) ∧ 0 ≤ a.tmod b) ∨ (a.tmod (b : Int) = a % (b : Int) - b ∧ a.tmod b < 0) := by
    rw [Int.tmod_eq_emod]
    split
    · exact .inl ⟨by omega, by omega⟩
    · exact .inr ⟨by omega, by omega⟩
  refine cp_seq ?_
  refine cp_region ?_
  refine stepK_d rfl rfl rfl hst (does_assign rfl rfl) ?_
  refine wpK_nil ?_
  refine cp_then ?_
  refine cp_seq ?_
  refine cp_region ?_
  refine stepK_d rfl rfl rfl hst (does_move rfl rfl) ?_
  refine stepK_d rfl rfl rfl hst (does_move rfl rfl) ?_
  refine stepK_d rfl rfl rfl hst (Does.int (b := a.tmod (b : Int)) (does_rem rfl rfl rfl (by omega)) (by rfl)) ?_
  refine stepK_d rfl rfl rfl hst (does_assign rfl rfl) ?_
  refine wpK_nil ?_
  refine cp_then ?_
  refine cp_seq ?_
  refine cp_seq ?_
  refine cp_region ?_
  refine stepK_d rfl rfl rfl hst (does_move rfl rfl) ?_
  refine stepK_d rfl rfl rfl hst (does_lss rfl rfl rfl) ?_
  refine wpK_nil ?_
  refine cp_then ?_
  refine cp_if rfl ?_ ?_
  · intro c10
    refine cp_region ?_
    refine stepK_d rfl rfl rfl hst (does_move rfl rfl) ?_
    refine stepK_d rfl rfl rfl hst (does_move rfl rfl) ?_
    refine stepK_d rfl rfl rfl hst (Does.int (does_add rfl rfl rfl) (wrap_i64 (by omega) (by omega))) ?_
    refine stepK_d rfl rfl rfl hst (does_assign rfl rfl) ?_
    refine wpK_nil ?_
    refine cp_then ?_
    refine cp_seq ?_
    refine cp_region ?_
    refine stepK_d rfl rfl rfl hst (does_move rfl rfl) ?_
    refine stepK_d rfl rfl rfl hst (does_assign rfl rfl) ?_
    refine wpK_nil ?_
    refine cp_then ?_
    refine cp_ret ?_
    refine ret1 rfl rfl hst ?_
    congr 1
    omega
  · intro c10
    refine cp_skip ?_
    refine cp_then ?_
    refine cp_seq ?_
    refine cp_region ?_
    refine stepK_d rfl rfl rfl hst (does_move rfl rfl) ?_
    refine stepK_d rfl rfl rfl hst (does_assign rfl rfl) ?_
    refine wpK_nil ?_
    refine cp_then ?_
    refine cp_ret ?_
    refine ret1 rfl rfl hst ?_
    congr 1
    omega

end Go.Proofs.YtbamjcfdlgnicaaDoor

namespace Go.Proofs.YtbamjcfdlgnicaaDoor
open Go Go.RowKit Go.Proofs.Vc
set_option linter.unusedVariables false
set_option linter.unusedSimpArgs false

set_option maxHeartbeats 4000000 in
theorem RationalLong_walk {g : Mem} {w : World} (hag : Agree g w) (hT : TabG Tryd.prog g) {n y : Int} (h1 : -9223372036854775808 ≤ n) (h2 : n ≤ 9223372036854775807) (h3 : 0 ≤ y) (h4 : y ≤ 255) :
    CallTo Tryd.prog 3 #[.int .i64 n, .int .u8 y] w (Ret w g fun v g => v = .bool true) := by
  refine CallTo.enter (vs := [.int .i64 n, .int .u8 y]) (by kernel_rfl : Tryd.prog.funcs[3]? = some Tryd.f3) (by kernel_rfl) rfl rfl rfl ?_
  have hst := St.init hag
  obtain ⟨x, rfl⟩ : ∃ x : Nat, y = (x : Int) := ⟨y.toNat, by omega⟩
  have hdx : x % 10 < 10 := Nat.mod_lt _ (by decide)
  refine cp_seq ?_
  refine cp_region ?_
  refine stepK_d rfl rfl rfl hst (does_assign rfl rfl) ?_
  refine wpK_nil ?_
  refine cp_then ?_
  refine cp_seq ?_
  refine cp_region ?_
  refine stepK_d rfl rfl rfl hst (does_move rfl rfl) ?_
  refine stepK_call rfl rfl rfl rfl rfl hst (keep_Mod hst.agree (b := 8232) h1 h2 (by decide) (by decide)) ?_
  clear hst
  intro v1 g1 w1 hst hle1 hcs1 hp1
  replace hT := hT.mono hle1
  obtain rfl := hp1
  have h5 := Int.emod_nonneg n (show ((8232 : Nat) : Int) ≠ 0 by decide)
  have h6 := Int.emod_lt_of_pos n (show (0 : Int) < ((8232 : Nat) : Int) by decide)
  obtain ⟨m, hm⟩ : ∃ m : Nat, n % ((8232 : Nat) : Int) = (m : Int) := ⟨(n % ((8232 : Nat) : Int)).toNat, by omega⟩
  rw [hm]
  have hml : m < 8232 := by omega
  refine stepK_d rfl rfl rfl hst (does_assign rfl rfl) ?_
  refine wpK_nil ?_
  refine cp_then ?_
  refine cp_join (ι := Nat) (fun m2 => [(0, .int .i64 (m2 : Int)), (1, .int .u8 (x : Int))]) (fun m2 w2 => ∃ g2, St w [] g g2 [] w2 ∧ TabG Tryd.prog g2 ∧ m2 < 8232) ?c2 ?d2
  case c2 =>
    refine cp_seq ?_
    refine cp_region ?_
    refine stepK_d rfl rfl rfl hst (does_move rfl rfl) ?_
    refine stepK_d rfl rfl rfl hst (does_gtr rfl rfl rfl) ?_
    refine stepK_d rfl rfl rfl hst (does_move rfl rfl) ?_
    refine wpK_split (t := 13) rfl ?_ ?_
    · intro s13
      refine stepK_guard rfl rfl rfl rfl rfl rfl hst (does_move rfl rfl) ?_
      refine stepK_guard rfl rfl rfl rfl rfl rfl hst (does_lss rfl rfl rfl) ?_
      refine stepK_d rfl rfl rfl hst (does_pick_true rfl rfl rfl) ?_
      refine wpK_nil ?_
      refine cp_then ?_
      refine cp_if rfl ?_ ?_
      · intro c16
        refine cp_region ?_
        refine stepK_d rfl rfl rfl hst (does_assign rfl rfl) ?_
        refine wpK_nil ?_
        refine join_end (300) ?_ ?_
        · exact ⟨kint rfl, rfl, trivial⟩
        · exact ⟨_, hst, hT, by decide⟩
      · intro c16
        refine cp_skip ?_
        refine join_end (m) ?_ ?_
        · exact ⟨rfl, rfl, trivial⟩
        · exact ⟨_, hst, hT, hml⟩
    · intro s13
      refine stepK_pass rfl rfl rfl rfl rfl rfl rfl ?_
      refine stepK_pass rfl rfl rfl rfl rfl rfl rfl ?_
      refine stepK_d rfl rfl rfl hst (does_pick_false rfl rfl rfl) ?_
      refine wpK_nil ?_
      refine cp_then ?_
      refine cp_cond_false rfl ?_
      refine cp_skip ?_
      refine join_end (m) ?_ ?_
      · exact ⟨rfl, rfl, trivial⟩
      · exact ⟨_, hst, hT, hml⟩
  case d2 =>
    clear hst
    clear hT
    rintro m2 w2 ⟨g2, hst, hT, hm2⟩
    refine cp_seq ?_
    refine cp_region ?_
    refine stepK_d rfl rfl rfl hst (does_move rfl rfl) ?_
    refine stepK_make rfl rfl rfl (l := m2) (c := m2) rfl (by kernel_rfl : Program.underlying Tryd.prog 23 = some (.slice 5)) (by kernel_rfl : elemInfo Tryd.prog 5 = some ((.int .u8 0), 1, 1)) rfl rfl rfl rfl rfl rfl (by omega) (by omega) (by omega) hst ?_
    clear hst
    intro bs w3 hst
    rw [uN_rep] at hst
    refine stepK_d rfl rfl rfl hst (does_assign rfl rfl) ?_
    refine wpK_nil ?_
    refine cp_then ?_
    refine cp_seq ?_
    refine cp_seq ?_
    refine cp_region ?_
    refine stepK_d rfl rfl rfl hst (does_assign rfl rfl) ?_
    refine wpK_nil ?_
    refine cp_then ?_
    refine cp_block ?_
    refine cp_loop (ι := Nat × List Nat) (fun (k, ws) => [(0, .int .i64 (m2 : Int)), (1, .int .u8 (x : Int)), (5, .slice (some ⟨bs, 0, none⟩) m2 m2), (6, .int .i64 (k : Int))]) (fun (k, ws) w1 => ∃ g1, St w [] g g1 [(bs, .cells (uN .u8 ws).toArray 5 (0, 0))] w1 ∧ TabG Tryd.prog g1 ∧ k ≤ m2 ∧ ws.length = m2 ∧ ∀ j, j < k → ws[j]? = some (48 + x % 10)) (fun (k, ws) => m2 - k) (0, List.replicate m2 0) ?k4 ?i4 ?r4
    case k4 => exact ⟨rfl, rfl, rfl, rfl, trivial⟩
    case i4 =>
      exact ⟨_, hst, hT, Nat.zero_le _, by simp, fun j h => absurd h (Nat.not_lt_zero _)⟩
    case r4 =>
      clear hst
      clear hT
      rintro ⟨k, ws⟩ w1 ⟨g1, hst, hT, hk, hwl, hws⟩
      refine cp_seq ?_
      refine cp_seq ?_
      refine cp_region ?_
      refine stepK_d rfl rfl rfl hst (does_move rfl rfl) ?_
      refine stepK_d rfl rfl rfl hst (does_move rfl rfl) ?_
      refine stepK_d rfl rfl rfl hst (does_lss rfl rfl rfl) ?_
      refine wpK_nil ?_
      refine cp_then ?_
      refine cp_if rfl ?_ ?_
      · intro c21
        refine cp_skip ?_
        refine cp_then ?_
        refine cp_seq ?_
        refine cp_block ?_
        refine cp_region ?_
        refine stepK_d rfl rfl rfl hst (does_move rfl rfl) ?_
        refine stepK_d rfl rfl rfl hst (does_move rfl rfl) ?_
        refine stepK_d rfl rfl rfl hst (does_move rfl rfl) ?_
        refine stepK_d rfl rfl rfl hst (Does.nat (b := x % 10) (does_rem_n (b := 10) rfl rfl rfl (by decide)) rfl) ?_
        refine stepK_d rfl rfl rfl hst (Does.nat (b := 48 + x % 10) (does_add rfl rfl rfl) (by rw [IntKind.wrap_u8]; omega)) ?_
        refine stepK_d rfl rfl rfl hst (does_indexAddr1 (j := k) rfl (by kernel_rfl : Program.underlying Tryd.prog 23 = some (.slice 5)) (by kernel_rfl) rfl rfl (by omega) (by omega)) ?_
        refine stepK_store 0 rfl rfl rfl rfl rfl rfl (by kernel_rfl : sizeB Tryd.prog 5 = some 1) rfl rfl hst rfl (by first | (simp [uN_length]; omega) | simp) ?_
        clear hst
        intro w5 hst
        rw [Nat.zero_add, splice_uN _ _ _ _ (by omega)] at hst
        simp only [List.set_cons_zero] at hst
        refine wpK_nil ?_
        refine at_block_normal ?_
        refine cp_then ?_
        refine cp_region ?_
        refine stepK_d rfl rfl rfl hst (does_move rfl rfl) ?_
        refine stepK_d rfl rfl rfl hst (Does.int (does_add rfl rfl rfl) (wrap_i64 (by omega) (by omega))) ?_
        refine stepK_d rfl rfl rfl hst (does_assign rfl rfl) ?_
        refine wpK_nil ?_
        refine round_end ((k + 1, ws.set k (48 + x % 10))) ?_ ?_ ?_
        · exact ⟨rfl, rfl, rfl, rfl, trivial⟩
        · refine ⟨_, hst, hT, by omega, by simp [hwl], fun j hj => ?_⟩
          rcases Nat.lt_or_ge j k with h9 | h9
          · rw [List.getElem?_set_ne (by omega)]
            exact hws j h9
          · obtain rfl : j = k := by omega
            rw [List.getElem?_set_self (by omega)]
        · show m2 - (k + 1) < m2 - k
          omega
      · intro c21
        refine cp_exit ?_
        refine at_then_exit ?_
        refine at_then_exit ?_
        refine cp_exit_here ?_
        refine cp_then ?_
        refine cp_seq ?_
        obtain rfl : k = m2 := by omega
        obtain rfl : ws = List.replicate k (48 + x % 10) := List.ext_getElem? fun j => by
          rcases Nat.lt_or_ge j k with h9 | h9
          · rw [hws j h9, List.getElem?_replicate, if_pos h9]
          · rw [List.getElem?_eq_none (by omega), List.getElem?_eq_none (by simp; omega)]
        refine cp_region ?_
        refine stepK_d rfl rfl rfl hst (does_move rfl rfl) ?_
        refine stepK_d rfl rfl rfl hst (Does.str (b := sameT k (x % 10)) (does_conv_bytes (e := 5) 0 rfl (by kernel_rfl) (by kernel_rfl) (by kernel_rfl) rfl rfl (by simp)) rfl) ?_
        refine stepK_call rfl rfl rfl rfl rfl hst (Parse_dig hst.agree hT (sameT_dig hdx) (by rw [sameT_size]; omega)) ?_
        clear hst
        intro v6 g6 w6 hst hle6 hcs6 hp6
        replace hT := hT.mono hle6
        obtain rfl := hp6
        rw [sameT_size]
        refine stepK_d rfl rfl rfl hst (does_move rfl rfl) ?_
        refine stepK_d rfl rfl rfl hst (does_extract rfl rfl rfl) ?_
        refine stepK_d rfl rfl rfl hst (does_extract rfl rfl rfl) ?_
        refine stepK_d rfl rfl rfl hst (does_assign rfl rfl) ?_
        refine stepK_d rfl rfl rfl hst (does_assign rfl rfl) ?_
        refine wpK_nil ?_
        refine cp_then ?_
        refine cp_seq ?_
        refine cp_block ?_
        refine cp_seq ?_
        refine cp_region ?_
        refine stepK_d rfl rfl rfl hst (does_move rfl rfl) ?_
        refine stepK_d rfl rfl rfl hst (does_gtr rfl rfl rfl) ?_
        refine stepK_d rfl rfl rfl hst (does_assign rfl rfl) ?_
        refine wpK_nil ?_
        refine cp_then ?_
        refine cp_if rfl ?_ ?_
        · intro c36
          refine cp_seq ?_
          refine cp_region ?_
          refine stepK_d rfl rfl rfl hst (does_move rfl rfl) ?_
          refine stepK_d rfl rfl rfl hst (Does.yes (does_eql_string rfl rfl rfl) (by rw [if_pos (.inl (by omega))])) ?_
          refine stepK_d rfl rfl rfl hst (does_move rfl rfl) ?_
          refine stepK_guard rfl rfl rfl rfl rfl rfl hst (does_move rfl rfl) ?_
          refine stepK_guard rfl rfl rfl rfl rfl rfl hst (Does.yes (does_eql rfl rfl rfl) (by rw [if_pos (by omega)])) ?_
          refine stepK_d rfl rfl rfl hst (does_pick_true rfl rfl rfl) ?_
          refine stepK_d rfl rfl rfl hst (does_move rfl rfl) ?_
          refine stepK_call_guard rfl rfl rfl rfl rfl rfl rfl rfl hst (law01_awake hst.agree hT) ?_
          clear hst
          intro v7 g7 w7 hst hle7 hcs7 hp7
          replace hT := hT.mono hle7
          obtain rfl := hp7
          refine stepK_d rfl rfl rfl hst (does_pick_true rfl rfl rfl) ?_
          refine stepK_d rfl rfl rfl hst (does_assign rfl rfl) ?_
          refine wpK_nil ?_
          refine cp_then ?_
          refine cp_ret ?_
          refine at_block_ret ?_
          refine at_then_ret ?_
          refine ret1 rfl rfl hst ?_
          first
          | rfl
          | contradiction
          | simp_all
        · intro c36
          refine cp_seq ?_
          refine cp_region ?_
          refine stepK_d rfl rfl rfl hst (does_move rfl rfl) ?_
          refine stepK_d rfl rfl rfl hst (does_eql rfl rfl rfl) ?_
          refine stepK_d rfl rfl rfl hst (does_assign rfl rfl) ?_
          refine wpK_nil ?_
          refine cp_then ?_
          refine cp_if rfl ?_ ?_
          · intro c48
            refine cp_seq ?_
            refine cp_region ?_
            refine stepK_d rfl rfl rfl hst (does_move rfl rfl) ?_
            refine stepK_d rfl rfl rfl hst (Does.yes (does_eql_string rfl rfl rfl) (by rw [if_pos (.inr (by omega))])) ?_
            refine stepK_d rfl rfl rfl hst (does_move rfl rfl) ?_
            refine stepK_guard rfl rfl rfl rfl rfl rfl hst (does_move rfl rfl) ?_
            refine stepK_guard rfl rfl rfl rfl rfl rfl hst (Does.yes (does_eql rfl rfl rfl) (by rw [if_neg (by omega), if_pos (by omega)])) ?_
            refine stepK_d rfl rfl rfl hst (does_pick_true rfl rfl rfl) ?_
            refine stepK_d rfl rfl rfl hst (does_move rfl rfl) ?_
            refine stepK_call_guard rfl rfl rfl rfl rfl rfl rfl rfl hst (law01_awake hst.agree hT) ?_
            clear hst
            intro v8 g8 w8 hst hle8 hcs8 hp8
            replace hT := hT.mono hle8
            obtain rfl := hp8
            refine stepK_d rfl rfl rfl hst (does_pick_true rfl rfl rfl) ?_
            refine stepK_d rfl rfl rfl hst (does_assign rfl rfl) ?_
            refine wpK_nil ?_
            refine cp_then ?_
            refine cp_ret ?_
            refine at_block_ret ?_
            refine at_then_ret ?_
            refine ret1 rfl rfl hst ?_
            first
            | rfl
            | contradiction
            | simp_all
          · intro c48
            refine cp_seq ?_
            refine cp_region ?_
            refine stepK_d rfl rfl rfl hst (does_move rfl rfl) ?_
            refine stepK_d rfl rfl rfl hst (Does.nat (b := x % 10) (does_rem_n (b := 10) rfl rfl rfl (by decide)) rfl) ?_
            refine stepK_d rfl rfl rfl hst (does_eql_n (b := 0) rfl rfl rfl) ?_
            refine stepK_d rfl rfl rfl hst (does_assign rfl rfl) ?_
            refine wpK_nil ?_
            refine cp_then ?_
            refine cp_if rfl ?_ ?_
            · intro c60
              have hx0 : x % 10 = 0 := by omega
              have hz : dvL (Lb (sameT k (x % 10))) = 0 := by rw [hx0]; exact sameT_zero k
              refine cp_seq ?_
              refine cp_region ?_
              refine stepK_d rfl rfl rfl hst (does_move rfl rfl) ?_
              refine stepK_d rfl rfl rfl hst (Does.yes (does_eql_string rfl rfl rfl) (by rw [if_neg (by omega), hz]; exact t0)) ?_
              refine stepK_d rfl rfl rfl hst (does_move rfl rfl) ?_
              refine stepK_guard rfl rfl rfl rfl rfl rfl hst (does_move rfl rfl) ?_
              refine stepK_guard rfl rfl rfl rfl rfl rfl hst (Does.yes (does_eql rfl rfl rfl) (by rw [if_neg (by omega), if_neg (by omega)])) ?_
              refine stepK_d rfl rfl rfl hst (does_pick_true rfl rfl rfl) ?_
              refine stepK_d rfl rfl rfl hst (does_move rfl rfl) ?_
              refine stepK_call_guard rfl rfl rfl rfl rfl rfl rfl rfl hst (law01_awake hst.agree hT) ?_
              clear hst
              intro v9 g9 w9 hst hle9 hcs9 hp9
              replace hT := hT.mono hle9
              obtain rfl := hp9
              refine stepK_d rfl rfl rfl hst (does_pick_true rfl rfl rfl) ?_
              refine stepK_d rfl rfl rfl hst (does_assign rfl rfl) ?_
              refine wpK_nil ?_
              refine cp_then ?_
              refine cp_ret ?_
              refine at_block_ret ?_
              refine at_then_ret ?_
              refine ret1 rfl rfl hst ?_
              first
              | rfl
              | contradiction
              | simp_all
            · intro c60
              refine cp_skip ?_
              refine at_block_normal ?_
              refine cp_then ?_
              refine cp_seq ?_
              refine cp_region ?_
              refine stepK_d rfl rfl rfl hst (does_move rfl rfl) ?_
              refine stepK_d rfl rfl rfl hst (does_move rfl rfl) ?_
              refine stepK_d rfl rfl rfl hst (Does.str (b := sameT k (x % 10)) (does_conv_bytes (e := 5) 0 rfl (by kernel_rfl) (by kernel_rfl) (by kernel_rfl) rfl rfl (by simp)) rfl) ?_
              refine stepK_d rfl rfl rfl hst (Does.yes (does_eql_string rfl rfl rfl) (by rw [if_neg (by omega)]; exact sameT_plain hdx (by omega) (by omega))) ?_
              refine stepK_d rfl rfl rfl hst (does_move rfl rfl) ?_
              refine stepK_guard rfl rfl rfl rfl rfl rfl hst (does_move rfl rfl) ?_
              refine stepK_guard rfl rfl rfl rfl rfl rfl hst (Does.yes (does_eql rfl rfl rfl) (by rw [if_neg (by omega), if_neg (by omega)])) ?_
              refine stepK_d rfl rfl rfl hst (does_pick_true rfl rfl rfl) ?_
              refine stepK_d rfl rfl rfl hst (does_move rfl rfl) ?_
              refine stepK_call_guard rfl rfl rfl rfl rfl rfl rfl rfl hst (law01_awake hst.agree hT) ?_
              clear hst
              intro v10 g10 w10 hst hle10 hcs10 hp10
              replace hT := hT.mono hle10
              obtain rfl := hp10
              refine stepK_d rfl rfl rfl hst (does_pick_true rfl rfl rfl) ?_
              refine stepK_d rfl rfl rfl hst (does_assign rfl rfl) ?_
              refine wpK_nil ?_
              refine cp_then ?_
              refine cp_ret ?_
              refine ret1 rfl rfl hst ?_
              first
              | rfl
              | contradiction
              | simp_all

end Go.Proofs.YtbamjcfdlgnicaaDoor
