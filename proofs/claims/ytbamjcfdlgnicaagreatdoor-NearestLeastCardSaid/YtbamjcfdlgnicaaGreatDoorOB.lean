/- The walks of functions, printed by a program of this session out of its specs. -/
import Derived.Test.YtbamjcfdlgnicaaGreatDoorFN
import Derived.Test.YtbamjcfdlgnicaaGreatDoorFP
import Derived.Test.YtbamjcfdlgnicaaGreatDoorFA
import Derived.Test.YtbamjcfdlgnicaaGreatDoorF9
import Derived.Test.YtbamjcfdlgnicaaGreatDoorFB
import Derived.Test.YtbamjcfdlgnicaaGreatDoorXO
import Derived.Test.YtbamjcfdlgnicaaGreatDoorPF
import Derived.Test.YtbamjcfdlgnicaaGreatDoorProg
import Derived.Test.YtbamjcfdlgnicaaGreatDoorF0
namespace Go.Proofs.YtbamjcfdlgnicaaGreatDoor
open Go Go.RowKit Go.Proofs.Vc
set_option linter.unusedVariables false
set_option linter.unusedSimpArgs false

set_option maxHeartbeats 8000000 in
theorem NearestLeast_walk {g : Mem} {w : World} (hag : Agree g w) (hT : TabG Tryz.prog g) {n c : Nat} {A : Option Addr} (hs : IntS g A n) (hc : n ≤ c) (hn : n ≤ 9223372036854775807) :
    CallTo Tryz.prog 4 #[.slice A n c] w (Ret w g fun v g => v = .bool true) := by
  refine CallTo.enter (vs := [.slice A n c]) (by kernel_rfl : Tryz.prog.funcs[4]? = some Tryz.f4) (by kernel_rfl) rfl rfl rfl ?_
  have hst := St.init hag
  refine zsr ?_
  refine zA rfl hst rfl ?_
  refine zn4 ?_
  refine zM rfl hst rfl ?_
  refine stepK_callO rfl rfl rfl rfl rfl hst (scene_New hst.agree hs hc hn) ?_
  clear hst
  intro v1 g1 ow1 w1 hst hle1 hp1
  replace hT := hT.mono hle1
  replace hs := hs.mono hle1
  obtain ⟨bT, nT, cT, rfl, rfl, hS, hnT⟩ := hp1
  try simp only [List.cons_append, List.nil_append] at hst
  refine zA rfl hst rfl ?_
  refine zn4 ?_
  refine zM rfl hst rfl ?_
  refine stepK_callM 0 rfl rfl rfl rfl rfl hst rfl (tape_Next (A := A) (n := nT) (c := cT) (i := 0) (m := 4001) hst.agree hS (hst.owns _ (List.mem_cons_self ..)).1 (hst.owns _ (List.mem_cons_self ..)).2.1 (by omega) (by omega) (by decide) (by decide)) ?_
  clear hst
  intro v2 g2 o2 w2 hst hle2 hp2
  simp only [List.cons_append, List.nil_append, List.set_cons_zero, List.set_cons_succ] at hst
  replace hT := hT.mono hle2
  replace hs := hs.mono hle2
  replace hS := hS.mono hle2
  obtain ⟨z1, k1, rfl, hz1, rfl, hk1⟩ := hp2
  refine stepK_d rfl rfl rfl hst (Does.int (does_sub rfl rfl rfl) (wrap_i64 (by omega) (by omega))) ?_
  refine stepK_call rfl rfl rfl rfl rfl hst (snum_FromInt hst.agree (x := (z1 : Int) - 2000) (by omega) (by omega)) ?_
  clear hst
  intro v3 g3 w3 hst hle3 hcs3 hp3
  replace hT := hT.mono hle3
  replace hs := hs.mono hle3
  replace hS := hS.mono hle3
  obtain ⟨_, _, l1, _, rfl, hX⟩ := hp3
  have l1b := hX.len (k := 1) (by omega)
  refine zM rfl hst rfl ?_
  refine stepK_callM 0 rfl rfl rfl rfl rfl hst rfl (tape_Next (A := A) (n := nT) (c := cT) (i := k1) (m := 300) hst.agree hS (hst.owns _ (List.mem_cons_self ..)).1 (hst.owns _ (List.mem_cons_self ..)).2.1 (by omega) (by omega) (by decide) (by decide)) ?_
  clear hst
  intro v4 g4 o4 w4 hst hle4 hp4
  simp only [List.cons_append, List.nil_append, List.set_cons_zero, List.set_cons_succ] at hst
  replace hT := hT.mono hle4
  replace hs := hs.mono hle4
  replace hS := hS.mono hle4
  replace hX := hX.mono hle4
  obtain ⟨z2, k2, rfl, hz2, rfl, hk2⟩ := hp4
  refine stepK_d rfl rfl rfl hst (Does.nat (b := 1 + z2) (does_add rfl rfl rfl) (by rw [wrap_i64 (by omega) (by omega)]; omega)) ?_
  refine stepK_call rfl rfl rfl rfl rfl hst (snum_FromInt hst.agree (x := ((1 + z2 : Nat) : Int)) (by omega) (by omega)) ?_
  clear hst
  intro v5 g5 w5 hst hle5 hcs5 hp5
  replace hT := hT.mono hle5
  replace hs := hs.mono hle5
  replace hS := hS.mono hle5
  replace hX := hX.mono hle5
  obtain ⟨_, _, l2, _, rfl, hY⟩ := hp5
  have l2b := hY.len (k := 1) (by omega)
  refine stepK_call rfl rfl rfl rfl rfl hst (snum_Frac hst.agree hX hY (by omega) (by omega) (by omega)) ?_
  clear hst
  intro v6 g6 w6 hst hle6 hcs6 hp6
  replace hT := hT.mono hle6
  replace hs := hs.mono hle6
  replace hS := hS.mono hle6
  replace hX := hX.mono hle6
  replace hY := hY.mono hle6
  obtain ⟨na4, A4, n4, c4, nb4, B4, m4, d4, rfl, hlo⟩ := hp6
  have slo := divInt_sz (x := (z1 : Int) - 2000) (D := 1 + z2) (k := 8) (by omega) (by omega) (by omega)
  obtain ⟨lo, hloe⟩ : ∃ lo, lo = Rat.divInt ((z1 : Int) - 2000) ((1 + z2 : Nat) : Int) := ⟨_, rfl⟩
  rw [← hloe] at hlo slo
  have flo := slo.fitH (by decide)
  refine stepK_alloc rfl rfl rfl rfl zf121 rfl hst ?_
  clear hst
  intro b4 w7 hst
  refine stepK_store 1 rfl rfl rfl rfl rfl rfl zf119 rfl rfl hst rfl (by first | (simp [uN_length]; omega) | simp) ?_
  clear hst
  intro w8 hst
  simp only [zL, splice, Nat.reduceAdd] at hst
  refine znt ?_
  refine cp_join (ι := (Bool × Option Addr × Nat × Nat × Bool × Option Addr × Nat × Nat) × Rat × Nat × Nat) (fun ((na5, A5, n5, c5, nb5, B5, m5, d5), hi, b5, k5) => [(4, .pointer (some ⟨b4, 0, none⟩)), (5, .pointer (some ⟨b5, 0, none⟩))]) (fun ((na5, A5, n5, c5, nb5, B5, m5, d5), hi, b5, k5) w2 => ∃ g2, St w [] g g2 [(b4, .cells #[.bool na4, .slice A4 n4 c4, .bool nb4, .slice B4 m4 d4] 30 (0, 0)), (b5, .cells #[.bool na5, .slice A5 n5 c5, .bool nb5, .slice B5 m5 d5] 30 (0, 0))] w2 ∧ TabG Tryz.prog g2 ∧ IsQ g2 na4 A4 n4 nb4 B4 m4 (lo) ∧ IsQ g2 na5 A5 n5 nb5 B5 m5 (hi) ∧ lo ≤ hi ∧ Sz 20 hi) ?c9 ?d9
  case c9 =>
    refine cp_drawnT (by kernel_rfl) 11 (.d 0 (.d 1 (.d 4 (.e 2 (.e 3 (.e 5 (.d 6 (.e 7 (.e 8 (.e 9 (.e 10 .fin .no) (.e 10 (.e 9 .fin .no) .no)) (.e 10 (.e 8 (.e 9 .fin .no) .no) .no)) (.e 10 (.e 7 (.e 8 (.e 9 .fin .no) .no) .no) .no))) (.e 10 (.e 5 (.d 6 (.e 7 (.e 8 (.e 9 .fin .no) .no) .no)) .no) .no)) (.e 10 (.e 3 (.e 5 (.d 6 (.e 7 (.e 8 (.e 9 .fin .no) .no) .no)) .no) .no) .no)) (.e 10 (.e 2 (.e 3 (.e 5 (.d 6 (.e 7 (.e 8 (.e 9 .fin .no) .no) .no)) .no) .no) .no) .no))))) _ rfl (by kernel_rfl) (by kernel_rfl) (by kernel_rfl) (fun _ _ _ _ _ h => h) _ (hst.drew.without 0) ?_
    have hst0 := (hst.drew.without 0)
    have hst9 := hst.drew
    clear hst
    have hst := hst9
    clear hst9
    refine stepT_d rfl rfl rfl rfl (does_load_ownN 0 rfl (by kernel_rfl) zf119 rfl rfl rfl) ?_
    refine stepT_d rfl rfl rfl rfl (does_move rfl rfl) ?_
    refine stepT_d rfl rfl rfl rfl (does_move rfl rfl) ?_
    refine stepT_callM 0 rfl rfl rfl rfl rfl rfl hst0 hst rfl (Mem.le.refl _) (fun _ => (by repeat (first | exact zR _ | apply zC | apply zD))) (tape_Next (A := A) (n := nT) (c := cT) (i := k2) (m := 20) hst.agree hS (hst.owns _ (List.mem_cons_self ..)).1 (hst.owns _ (List.mem_cons_self ..)).2.1 (by omega) (by omega) (by decide) (by decide)) ?_ ?_
    clear hst
    intro v10 g10 o10 w10 hst hle10 hp10
    simp only [List.cons_append, List.nil_append, List.set_cons_zero, List.set_cons_succ] at hst
    have hlesum := hle10
    replace hT := hT.mono hle10
    replace hs := hs.mono hle10
    replace hS := hS.mono hle10
    replace hX := hX.mono hle10
    replace hY := hY.mono hle10
    replace hlo := hlo.mono hle10
    obtain ⟨z3, k3, rfl, hz3, rfl, hk3⟩ := hp10
    refine stepT_call rfl rfl rfl rfl rfl rfl hst0 hst hlesum (by repeat (first | exact zR _ | apply zC | apply zD)) (snum_FromInt hst.agree (x := (z3 : Int)) (by omega) (by omega)) ?_ ?_
    clear hst
    intro v11 g11 w11 hst hle11 hcs11 hp11
    replace hlesum := Mem.le.trans hlesum hle11
    replace hT := hT.mono hle11
    replace hs := hs.mono hle11
    replace hS := hS.mono hle11
    replace hX := hX.mono hle11
    replace hY := hY.mono hle11
    replace hlo := hlo.mono hle11
    obtain ⟨_, _, l3, _, rfl, hX3⟩ := hp11
    have l3b := hX3.len (k := 1) (by omega)
    refine stepT_callM 0 rfl rfl rfl rfl rfl rfl hst0 hst rfl hlesum (fun _ => (by repeat (first | exact zR _ | apply zC | apply zD))) (tape_Next (A := A) (n := nT) (c := cT) (i := k3) (m := 300) hst.agree hS (hst.owns _ (List.mem_cons_self ..)).1 (hst.owns _ (List.mem_cons_self ..)).2.1 (by omega) (by omega) (by decide) (by decide)) ?_ ?_
    clear hst
    intro v12 g12 o12 w12 hst hle12 hp12
    simp only [List.cons_append, List.nil_append, List.set_cons_zero, List.set_cons_succ] at hst
    replace hlesum := Mem.le.trans hlesum hle12
    replace hT := hT.mono hle12
    replace hs := hs.mono hle12
    replace hS := hS.mono hle12
    replace hX := hX.mono hle12
    replace hY := hY.mono hle12
    replace hlo := hlo.mono hle12
    replace hX3 := hX3.mono hle12
    obtain ⟨z4, k4, rfl, hz4, rfl, hk4⟩ := hp12
    refine stepT_d rfl rfl rfl rfl (Does.nat (b := 1 + z4) (does_add rfl rfl rfl) (by rw [wrap_i64 (by omega) (by omega)]; omega)) ?_
    refine stepT_call rfl rfl rfl rfl rfl rfl hst0 hst hlesum (by repeat (first | exact zR _ | apply zC | apply zD)) (snum_FromInt hst.agree (x := ((1 + z4 : Nat) : Int)) (by omega) (by omega)) ?_ ?_
    clear hst
    intro v13 g13 w13 hst hle13 hcs13 hp13
    replace hlesum := Mem.le.trans hlesum hle13
    replace hT := hT.mono hle13
    replace hs := hs.mono hle13
    replace hS := hS.mono hle13
    replace hX := hX.mono hle13
    replace hY := hY.mono hle13
    replace hlo := hlo.mono hle13
    replace hX3 := hX3.mono hle13
    obtain ⟨_, _, l4, _, rfl, hY4⟩ := hp13
    have l4b := hY4.len (k := 1) (by omega)
    refine stepT_call rfl rfl rfl rfl rfl rfl hst0 hst hlesum (by repeat (first | exact zR _ | apply zC | apply zD)) (snum_Frac hst.agree hX3 hY4 (by omega) (by omega) (by omega)) ?_ ?_
    clear hst
    intro v14 g14 w14 hst hle14 hcs14 hp14
    replace hlesum := Mem.le.trans hlesum hle14
    replace hT := hT.mono hle14
    replace hs := hs.mono hle14
    replace hS := hS.mono hle14
    replace hX := hX.mono hle14
    replace hY := hY.mono hle14
    replace hlo := hlo.mono hle14
    replace hX3 := hX3.mono hle14
    replace hY4 := hY4.mono hle14
    obtain ⟨_, _, _, _, _, _, _, _, rfl, hd⟩ := hp14
    have sd := divInt_sz (x := (z3 : Int)) (D := 1 + z4) (k := 8) (by omega) (by omega) (by omega)
    refine stepT_call rfl rfl rfl rfl rfl rfl hst0 hst hlesum (by repeat (first | exact zR _ | apply zC | apply zD)) (snum_RAdd hst.agree hlo hd flo (sd.fitH (by decide))) ?_ ?_
    clear hst
    intro v15 g15 w15 hst hle15 hcs15 hp15
    replace hlesum := Mem.le.trans hlesum hle15
    replace hT := hT.mono hle15
    replace hs := hs.mono hle15
    replace hS := hS.mono hle15
    replace hX := hX.mono hle15
    replace hY := hY.mono hle15
    replace hlo := hlo.mono hle15
    replace hX3 := hX3.mono hle15
    replace hY4 := hY4.mono hle15
    replace hd := hd.mono hle15
    obtain ⟨na5, A5, n5, c5, nb5, B5, m5, d5, rfl, hhi⟩ := hp15
    refine stepT_alloc rfl rfl rfl rfl rfl zf121 rfl hst0 hst hlesum (by repeat (first | exact zR _ | apply zC | apply zD)) ?_ ?_
    clear hst
    intro b5 w16 hst
    refine stepT_tail ?_
    refine stepK_store 2 rfl rfl rfl rfl rfl rfl zf119 rfl rfl hst rfl (by first | (simp [uN_length]; omega) | simp) ?_
    clear hst
    intro w17 hst
    simp only [zL, splice, Nat.reduceAdd] at hst
    refine wpK_nil ?_
    refine join_end (((na5, A5, n5, c5, nb5, B5, m5, d5), lo + Rat.divInt (z3 : Int) ((1 + z4 : Nat) : Int), b5, 0)) ?_ ?_
    exact ⟨rfl, rfl, trivial⟩
    exact ⟨_, hst.weaken _ (List.sublist_cons_self _ _), hT, hlo, hhi, le_add_pos divInt_nonneg', (slo.add sd).mono (by decide)⟩
    exact stepT_no
    refine stepT_alloc rfl rfl rfl rfl rfl zf121 rfl hst0 hst hlesum (by repeat (first | exact zR _ | apply zC | apply zD)) ?_ ?_
    clear hst
    intro b5 w18 hst
    refine stepT_call rfl rfl rfl rfl rfl rfl hst0 hst hlesum (by repeat (first | exact zR _ | apply zC | apply zD)) (snum_RAdd hst.agree hlo hd flo (sd.fitH (by decide))) ?_ ?_
    clear hst
    intro v19 g19 w19 hst hle19 hcs19 hp19
    replace hlesum := Mem.le.trans hlesum hle19
    replace hT := hT.mono hle19
    replace hs := hs.mono hle19
    replace hS := hS.mono hle19
    replace hX := hX.mono hle19
    replace hY := hY.mono hle19
    replace hlo := hlo.mono hle19
    replace hX3 := hX3.mono hle19
    replace hY4 := hY4.mono hle19
    replace hd := hd.mono hle19
    obtain ⟨na5, A5, n5, c5, nb5, B5, m5, d5, rfl, hhi⟩ := hp19
    refine stepT_tail ?_
    refine stepK_store 2 rfl rfl rfl rfl rfl rfl zf119 rfl rfl hst rfl (by first | (simp [uN_length]; omega) | simp) ?_
    clear hst
    intro w20 hst
    simp only [zL, splice, Nat.reduceAdd] at hst
    refine wpK_nil ?_
    refine join_end (((na5, A5, n5, c5, nb5, B5, m5, d5), lo + Rat.divInt (z3 : Int) ((1 + z4 : Nat) : Int), b5, 0)) ?_ ?_
    exact ⟨rfl, rfl, trivial⟩
    exact ⟨_, hst.weaken _ (List.sublist_cons_self _ _), hT, hlo, hhi, le_add_pos divInt_nonneg', (slo.add sd).mono (by decide)⟩
    exact stepT_no
    exact stepT_no
    refine stepT_alloc rfl rfl rfl rfl rfl zf121 rfl hst0 hst hlesum (by repeat (first | exact zR _ | apply zC | apply zD)) ?_ ?_
    clear hst
    intro b5 w21 hst
    refine stepT_call rfl rfl rfl rfl rfl rfl hst0 hst hlesum (by repeat (first | exact zR _ | apply zC | apply zD)) (snum_Frac hst.agree hX3 hY4 (by omega) (by omega) (by omega)) ?_ ?_
    clear hst
    intro v22 g22 w22 hst hle22 hcs22 hp22
    replace hlesum := Mem.le.trans hlesum hle22
    replace hT := hT.mono hle22
    replace hs := hs.mono hle22
    replace hS := hS.mono hle22
    replace hX := hX.mono hle22
    replace hY := hY.mono hle22
    replace hlo := hlo.mono hle22
    replace hX3 := hX3.mono hle22
    replace hY4 := hY4.mono hle22
    obtain ⟨_, _, _, _, _, _, _, _, rfl, hd⟩ := hp22
    have sd := divInt_sz (x := (z3 : Int)) (D := 1 + z4) (k := 8) (by omega) (by omega) (by omega)
    refine stepT_call rfl rfl rfl rfl rfl rfl hst0 hst hlesum (by repeat (first | exact zR _ | apply zC | apply zD)) (snum_RAdd hst.agree hlo hd flo (sd.fitH (by decide))) ?_ ?_
    clear hst
    intro v23 g23 w23 hst hle23 hcs23 hp23
    replace hlesum := Mem.le.trans hlesum hle23
    replace hT := hT.mono hle23
    replace hs := hs.mono hle23
    replace hS := hS.mono hle23
    replace hX := hX.mono hle23
    replace hY := hY.mono hle23
    replace hlo := hlo.mono hle23
    replace hX3 := hX3.mono hle23
    replace hY4 := hY4.mono hle23
    replace hd := hd.mono hle23
    obtain ⟨na5, A5, n5, c5, nb5, B5, m5, d5, rfl, hhi⟩ := hp23
    refine stepT_tail ?_
    refine stepK_store 2 rfl rfl rfl rfl rfl rfl zf119 rfl rfl hst rfl (by first | (simp [uN_length]; omega) | simp) ?_
    clear hst
    intro w24 hst
    simp only [zL, splice, Nat.reduceAdd] at hst
    refine wpK_nil ?_
    refine join_end (((na5, A5, n5, c5, nb5, B5, m5, d5), lo + Rat.divInt (z3 : Int) ((1 + z4 : Nat) : Int), b5, 0)) ?_ ?_
    exact ⟨rfl, rfl, trivial⟩
    exact ⟨_, hst.weaken _ (List.sublist_cons_self _ _), hT, hlo, hhi, le_add_pos divInt_nonneg', (slo.add sd).mono (by decide)⟩
    exact stepT_no
    exact stepT_no
    exact stepT_no
    refine stepT_alloc rfl rfl rfl rfl rfl zf121 rfl hst0 hst hlesum (by repeat (first | exact zR _ | apply zC | apply zD)) ?_ ?_
    clear hst
    intro b5 w25 hst
    refine stepT_call rfl rfl rfl rfl rfl rfl hst0 hst hlesum (by repeat (first | exact zR _ | apply zC | apply zD)) (snum_FromInt hst.agree (x := ((1 + z4 : Nat) : Int)) (by omega) (by omega)) ?_ ?_
    clear hst
    intro v26 g26 w26 hst hle26 hcs26 hp26
    replace hlesum := Mem.le.trans hlesum hle26
    replace hT := hT.mono hle26
    replace hs := hs.mono hle26
    replace hS := hS.mono hle26
    replace hX := hX.mono hle26
    replace hY := hY.mono hle26
    replace hlo := hlo.mono hle26
    replace hX3 := hX3.mono hle26
    obtain ⟨_, _, l4, _, rfl, hY4⟩ := hp26
    have l4b := hY4.len (k := 1) (by omega)
    refine stepT_call rfl rfl rfl rfl rfl rfl hst0 hst hlesum (by repeat (first | exact zR _ | apply zC | apply zD)) (snum_Frac hst.agree hX3 hY4 (by omega) (by omega) (by omega)) ?_ ?_
    clear hst
    intro v27 g27 w27 hst hle27 hcs27 hp27
    replace hlesum := Mem.le.trans hlesum hle27
    replace hT := hT.mono hle27
    replace hs := hs.mono hle27
    replace hS := hS.mono hle27
    replace hX := hX.mono hle27
    replace hY := hY.mono hle27
    replace hlo := hlo.mono hle27
    replace hX3 := hX3.mono hle27
    replace hY4 := hY4.mono hle27
    obtain ⟨_, _, _, _, _, _, _, _, rfl, hd⟩ := hp27
    have sd := divInt_sz (x := (z3 : Int)) (D := 1 + z4) (k := 8) (by omega) (by omega) (by omega)
    refine stepT_call rfl rfl rfl rfl rfl rfl hst0 hst hlesum (by repeat (first | exact zR _ | apply zC | apply zD)) (snum_RAdd hst.agree hlo hd flo (sd.fitH (by decide))) ?_ ?_
    clear hst
    intro v28 g28 w28 hst hle28 hcs28 hp28
    replace hlesum := Mem.le.trans hlesum hle28
    replace hT := hT.mono hle28
    replace hs := hs.mono hle28
    replace hS := hS.mono hle28
    replace hX := hX.mono hle28
    replace hY := hY.mono hle28
    replace hlo := hlo.mono hle28
    replace hX3 := hX3.mono hle28
    replace hY4 := hY4.mono hle28
    replace hd := hd.mono hle28
    obtain ⟨na5, A5, n5, c5, nb5, B5, m5, d5, rfl, hhi⟩ := hp28
    refine stepT_tail ?_
    refine stepK_store 2 rfl rfl rfl rfl rfl rfl zf119 rfl rfl hst rfl (by first | (simp [uN_length]; omega) | simp) ?_
    clear hst
    intro w29 hst
    simp only [zL, splice, Nat.reduceAdd] at hst
    refine wpK_nil ?_
    refine join_end (((na5, A5, n5, c5, nb5, B5, m5, d5), lo + Rat.divInt (z3 : Int) ((1 + z4 : Nat) : Int), b5, 0)) ?_ ?_
    exact ⟨rfl, rfl, trivial⟩
    exact ⟨_, hst.weaken _ (List.sublist_cons_self _ _), hT, hlo, hhi, le_add_pos divInt_nonneg', (slo.add sd).mono (by decide)⟩
    exact stepT_no
    exact stepT_no
    exact stepT_no
    exact stepT_no
    refine stepT_alloc rfl rfl rfl rfl rfl zf121 rfl hst0 hst hlesum (by repeat (first | exact zR _ | apply zC | apply zD)) ?_ ?_
    clear hst
    intro b5 w30 hst
    refine stepT_callM 0 rfl rfl rfl rfl rfl rfl hst0 hst rfl hlesum (fun _ => (by repeat (first | exact zR _ | apply zC | apply zD))) (tape_Next (A := A) (n := nT) (c := cT) (i := k3) (m := 300) hst.agree hS (hst.owns _ (List.mem_cons_self ..)).1 (hst.owns _ (List.mem_cons_self ..)).2.1 (by omega) (by omega) (by decide) (by decide)) ?_ ?_
    clear hst
    intro v31 g31 o31 w31 hst hle31 hp31
    simp only [List.cons_append, List.nil_append, List.set_cons_zero, List.set_cons_succ] at hst
    replace hlesum := Mem.le.trans hlesum hle31
    replace hT := hT.mono hle31
    replace hs := hs.mono hle31
    replace hS := hS.mono hle31
    replace hX := hX.mono hle31
    replace hY := hY.mono hle31
    replace hlo := hlo.mono hle31
    replace hX3 := hX3.mono hle31
    obtain ⟨z4, k4, rfl, hz4, rfl, hk4⟩ := hp31
    refine stepT_d rfl rfl rfl rfl (Does.nat (b := 1 + z4) (does_add rfl rfl rfl) (by rw [wrap_i64 (by omega) (by omega)]; omega)) ?_
    refine stepT_call rfl rfl rfl rfl rfl rfl hst0 hst hlesum (by repeat (first | exact zR _ | apply zC | apply zD)) (snum_FromInt hst.agree (x := ((1 + z4 : Nat) : Int)) (by omega) (by omega)) ?_ ?_
    clear hst
    intro v32 g32 w32 hst hle32 hcs32 hp32
    replace hlesum := Mem.le.trans hlesum hle32
    replace hT := hT.mono hle32
    replace hs := hs.mono hle32
    replace hS := hS.mono hle32
    replace hX := hX.mono hle32
    replace hY := hY.mono hle32
    replace hlo := hlo.mono hle32
    replace hX3 := hX3.mono hle32
    obtain ⟨_, _, l4, _, rfl, hY4⟩ := hp32
    have l4b := hY4.len (k := 1) (by omega)
    refine stepT_call rfl rfl rfl rfl rfl rfl hst0 hst hlesum (by repeat (first | exact zR _ | apply zC | apply zD)) (snum_Frac hst.agree hX3 hY4 (by omega) (by omega) (by omega)) ?_ ?_
    clear hst
    intro v33 g33 w33 hst hle33 hcs33 hp33
    replace hlesum := Mem.le.trans hlesum hle33
    replace hT := hT.mono hle33
    replace hs := hs.mono hle33
    replace hS := hS.mono hle33
    replace hX := hX.mono hle33
    replace hY := hY.mono hle33
    replace hlo := hlo.mono hle33
    replace hX3 := hX3.mono hle33
    replace hY4 := hY4.mono hle33
    obtain ⟨_, _, _, _, _, _, _, _, rfl, hd⟩ := hp33
    have sd := divInt_sz (x := (z3 : Int)) (D := 1 + z4) (k := 8) (by omega) (by omega) (by omega)
    refine stepT_call rfl rfl rfl rfl rfl rfl hst0 hst hlesum (by repeat (first | exact zR _ | apply zC | apply zD)) (snum_RAdd hst.agree hlo hd flo (sd.fitH (by decide))) ?_ ?_
    clear hst
    intro v34 g34 w34 hst hle34 hcs34 hp34
    replace hlesum := Mem.le.trans hlesum hle34
    replace hT := hT.mono hle34
    replace hs := hs.mono hle34
    replace hS := hS.mono hle34
    replace hX := hX.mono hle34
    replace hY := hY.mono hle34
    replace hlo := hlo.mono hle34
    replace hX3 := hX3.mono hle34
    replace hY4 := hY4.mono hle34
    replace hd := hd.mono hle34
    obtain ⟨na5, A5, n5, c5, nb5, B5, m5, d5, rfl, hhi⟩ := hp34
    refine stepT_tail ?_
    refine stepK_store 2 rfl rfl rfl rfl rfl rfl zf119 rfl rfl hst rfl (by first | (simp [uN_length]; omega) | simp) ?_
    clear hst
    intro w35 hst
    simp only [zL, splice, Nat.reduceAdd] at hst
    refine wpK_nil ?_
    refine join_end (((na5, A5, n5, c5, nb5, B5, m5, d5), lo + Rat.divInt (z3 : Int) ((1 + z4 : Nat) : Int), b5, 0)) ?_ ?_
    exact ⟨rfl, rfl, trivial⟩
    exact ⟨_, hst.weaken _ (List.sublist_cons_self _ _), hT, hlo, hhi, le_add_pos divInt_nonneg', (slo.add sd).mono (by decide)⟩
    exact stepT_no
    exact stepT_no
    exact stepT_no
    exact stepT_no
    exact stepT_no
    refine stepT_alloc rfl rfl rfl rfl rfl zf121 rfl hst0 hst hlesum (by repeat (first | exact zR _ | apply zC | apply zD)) ?_ ?_
    clear hst
    intro b5 w36 hst
    refine stepT_call rfl rfl rfl rfl rfl rfl hst0 hst hlesum (by repeat (first | exact zR _ | apply zC | apply zD)) (snum_FromInt hst.agree (x := (z3 : Int)) (by omega) (by omega)) ?_ ?_
    clear hst
    intro v37 g37 w37 hst hle37 hcs37 hp37
    replace hlesum := Mem.le.trans hlesum hle37
    replace hT := hT.mono hle37
    replace hs := hs.mono hle37
    replace hS := hS.mono hle37
    replace hX := hX.mono hle37
    replace hY := hY.mono hle37
    replace hlo := hlo.mono hle37
    obtain ⟨_, _, l3, _, rfl, hX3⟩ := hp37
    have l3b := hX3.len (k := 1) (by omega)
    refine stepT_callM 0 rfl rfl rfl rfl rfl rfl hst0 hst rfl hlesum (fun _ => (by repeat (first | exact zR _ | apply zC | apply zD))) (tape_Next (A := A) (n := nT) (c := cT) (i := k3) (m := 300) hst.agree hS (hst.owns _ (List.mem_cons_self ..)).1 (hst.owns _ (List.mem_cons_self ..)).2.1 (by omega) (by omega) (by decide) (by decide)) ?_ ?_
    clear hst
    intro v38 g38 o38 w38 hst hle38 hp38
    simp only [List.cons_append, List.nil_append, List.set_cons_zero, List.set_cons_succ] at hst
    replace hlesum := Mem.le.trans hlesum hle38
    replace hT := hT.mono hle38
    replace hs := hs.mono hle38
    replace hS := hS.mono hle38
    replace hX := hX.mono hle38
    replace hY := hY.mono hle38
    replace hlo := hlo.mono hle38
    replace hX3 := hX3.mono hle38
    obtain ⟨z4, k4, rfl, hz4, rfl, hk4⟩ := hp38
    refine stepT_d rfl rfl rfl rfl (Does.nat (b := 1 + z4) (does_add rfl rfl rfl) (by rw [wrap_i64 (by omega) (by omega)]; omega)) ?_
    refine stepT_call rfl rfl rfl rfl rfl rfl hst0 hst hlesum (by repeat (first | exact zR _ | apply zC | apply zD)) (snum_FromInt hst.agree (x := ((1 + z4 : Nat) : Int)) (by omega) (by omega)) ?_ ?_
    clear hst
    intro v39 g39 w39 hst hle39 hcs39 hp39
    replace hlesum := Mem.le.trans hlesum hle39
    replace hT := hT.mono hle39
    replace hs := hs.mono hle39
    replace hS := hS.mono hle39
    replace hX := hX.mono hle39
    replace hY := hY.mono hle39
    replace hlo := hlo.mono hle39
    replace hX3 := hX3.mono hle39
    obtain ⟨_, _, l4, _, rfl, hY4⟩ := hp39
    have l4b := hY4.len (k := 1) (by omega)
    refine stepT_call rfl rfl rfl rfl rfl rfl hst0 hst hlesum (by repeat (first | exact zR _ | apply zC | apply zD)) (snum_Frac hst.agree hX3 hY4 (by omega) (by omega) (by omega)) ?_ ?_
    clear hst
    intro v40 g40 w40 hst hle40 hcs40 hp40
    replace hlesum := Mem.le.trans hlesum hle40
    replace hT := hT.mono hle40
    replace hs := hs.mono hle40
    replace hS := hS.mono hle40
    replace hX := hX.mono hle40
    replace hY := hY.mono hle40
    replace hlo := hlo.mono hle40
    replace hX3 := hX3.mono hle40
    replace hY4 := hY4.mono hle40
    obtain ⟨_, _, _, _, _, _, _, _, rfl, hd⟩ := hp40
    have sd := divInt_sz (x := (z3 : Int)) (D := 1 + z4) (k := 8) (by omega) (by omega) (by omega)
    refine stepT_call rfl rfl rfl rfl rfl rfl hst0 hst hlesum (by repeat (first | exact zR _ | apply zC | apply zD)) (snum_RAdd hst.agree hlo hd flo (sd.fitH (by decide))) ?_ ?_
    clear hst
    intro v41 g41 w41 hst hle41 hcs41 hp41
    replace hlesum := Mem.le.trans hlesum hle41
    replace hT := hT.mono hle41
    replace hs := hs.mono hle41
    replace hS := hS.mono hle41
    replace hX := hX.mono hle41
    replace hY := hY.mono hle41
    replace hlo := hlo.mono hle41
    replace hX3 := hX3.mono hle41
    replace hY4 := hY4.mono hle41
    replace hd := hd.mono hle41
    obtain ⟨na5, A5, n5, c5, nb5, B5, m5, d5, rfl, hhi⟩ := hp41
    refine stepT_tail ?_
    refine stepK_store 2 rfl rfl rfl rfl rfl rfl zf119 rfl rfl hst rfl (by first | (simp [uN_length]; omega) | simp) ?_
    clear hst
    intro w42 hst
    simp only [zL, splice, Nat.reduceAdd] at hst
    refine wpK_nil ?_
    refine join_end (((na5, A5, n5, c5, nb5, B5, m5, d5), lo + Rat.divInt (z3 : Int) ((1 + z4 : Nat) : Int), b5, 0)) ?_ ?_
    exact ⟨rfl, rfl, trivial⟩
    exact ⟨_, hst.weaken _ (List.sublist_cons_self _ _), hT, hlo, hhi, le_add_pos divInt_nonneg', (slo.add sd).mono (by decide)⟩
    exact stepT_no
    exact stepT_no
    exact stepT_no
    exact stepT_no
    exact stepT_no
    exact stepT_no
    refine stepT_alloc rfl rfl rfl rfl rfl zf121 rfl hst0 hst (Mem.le.refl _) (by repeat (first | exact zR _ | apply zC | apply zD)) ?_ ?_
    clear hst
    intro b5 w43 hst
    refine stepT_callM 0 rfl rfl rfl rfl rfl rfl hst0 hst rfl (Mem.le.refl _) (fun _ => (by repeat (first | exact zR _ | apply zC | apply zD))) (tape_Next (A := A) (n := nT) (c := cT) (i := k2) (m := 20) hst.agree hS (hst.owns _ (List.mem_cons_self ..)).1 (hst.owns _ (List.mem_cons_self ..)).2.1 (by omega) (by omega) (by decide) (by decide)) ?_ ?_
    clear hst
    intro v44 g44 o44 w44 hst hle44 hp44
    simp only [List.cons_append, List.nil_append, List.set_cons_zero, List.set_cons_succ] at hst
    have hlesum := hle44
    replace hT := hT.mono hle44
    replace hs := hs.mono hle44
    replace hS := hS.mono hle44
    replace hX := hX.mono hle44
    replace hY := hY.mono hle44
    replace hlo := hlo.mono hle44
    obtain ⟨z3, k3, rfl, hz3, rfl, hk3⟩ := hp44
    refine stepT_call rfl rfl rfl rfl rfl rfl hst0 hst hlesum (by repeat (first | exact zR _ | apply zC | apply zD)) (snum_FromInt hst.agree (x := (z3 : Int)) (by omega) (by omega)) ?_ ?_
    clear hst
    intro v45 g45 w45 hst hle45 hcs45 hp45
    replace hlesum := Mem.le.trans hlesum hle45
    replace hT := hT.mono hle45
    replace hs := hs.mono hle45
    replace hS := hS.mono hle45
    replace hX := hX.mono hle45
    replace hY := hY.mono hle45
    replace hlo := hlo.mono hle45
    obtain ⟨_, _, l3, _, rfl, hX3⟩ := hp45
    have l3b := hX3.len (k := 1) (by omega)
    refine stepT_callM 0 rfl rfl rfl rfl rfl rfl hst0 hst rfl hlesum (fun _ => (by repeat (first | exact zR _ | apply zC | apply zD))) (tape_Next (A := A) (n := nT) (c := cT) (i := k3) (m := 300) hst.agree hS (hst.owns _ (List.mem_cons_self ..)).1 (hst.owns _ (List.mem_cons_self ..)).2.1 (by omega) (by omega) (by decide) (by decide)) ?_ ?_
    clear hst
    intro v46 g46 o46 w46 hst hle46 hp46
    simp only [List.cons_append, List.nil_append, List.set_cons_zero, List.set_cons_succ] at hst
    replace hlesum := Mem.le.trans hlesum hle46
    replace hT := hT.mono hle46
    replace hs := hs.mono hle46
    replace hS := hS.mono hle46
    replace hX := hX.mono hle46
    replace hY := hY.mono hle46
    replace hlo := hlo.mono hle46
    replace hX3 := hX3.mono hle46
    obtain ⟨z4, k4, rfl, hz4, rfl, hk4⟩ := hp46
    refine stepT_d rfl rfl rfl rfl (Does.nat (b := 1 + z4) (does_add rfl rfl rfl) (by rw [wrap_i64 (by omega) (by omega)]; omega)) ?_
    refine stepT_call rfl rfl rfl rfl rfl rfl hst0 hst hlesum (by repeat (first | exact zR _ | apply zC | apply zD)) (snum_FromInt hst.agree (x := ((1 + z4 : Nat) : Int)) (by omega) (by omega)) ?_ ?_
    clear hst
    intro v47 g47 w47 hst hle47 hcs47 hp47
    replace hlesum := Mem.le.trans hlesum hle47
    replace hT := hT.mono hle47
    replace hs := hs.mono hle47
    replace hS := hS.mono hle47
    replace hX := hX.mono hle47
    replace hY := hY.mono hle47
    replace hlo := hlo.mono hle47
    replace hX3 := hX3.mono hle47
    obtain ⟨_, _, l4, _, rfl, hY4⟩ := hp47
    have l4b := hY4.len (k := 1) (by omega)
    refine stepT_call rfl rfl rfl rfl rfl rfl hst0 hst hlesum (by repeat (first | exact zR _ | apply zC | apply zD)) (snum_Frac hst.agree hX3 hY4 (by omega) (by omega) (by omega)) ?_ ?_
    clear hst
    intro v48 g48 w48 hst hle48 hcs48 hp48
    replace hlesum := Mem.le.trans hlesum hle48
    replace hT := hT.mono hle48
    replace hs := hs.mono hle48
    replace hS := hS.mono hle48
    replace hX := hX.mono hle48
    replace hY := hY.mono hle48
    replace hlo := hlo.mono hle48
    replace hX3 := hX3.mono hle48
    replace hY4 := hY4.mono hle48
    obtain ⟨_, _, _, _, _, _, _, _, rfl, hd⟩ := hp48
    have sd := divInt_sz (x := (z3 : Int)) (D := 1 + z4) (k := 8) (by omega) (by omega) (by omega)
    refine stepT_call rfl rfl rfl rfl rfl rfl hst0 hst hlesum (by repeat (first | exact zR _ | apply zC | apply zD)) (snum_RAdd hst.agree hlo hd flo (sd.fitH (by decide))) ?_ ?_
    clear hst
    intro v49 g49 w49 hst hle49 hcs49 hp49
    replace hlesum := Mem.le.trans hlesum hle49
    replace hT := hT.mono hle49
    replace hs := hs.mono hle49
    replace hS := hS.mono hle49
    replace hX := hX.mono hle49
    replace hY := hY.mono hle49
    replace hlo := hlo.mono hle49
    replace hX3 := hX3.mono hle49
    replace hY4 := hY4.mono hle49
    replace hd := hd.mono hle49
    obtain ⟨na5, A5, n5, c5, nb5, B5, m5, d5, rfl, hhi⟩ := hp49
    refine stepT_tail ?_
    refine stepK_store 2 rfl rfl rfl rfl rfl rfl zf119 rfl rfl hst rfl (by first | (simp [uN_length]; omega) | simp) ?_
    clear hst
    intro w50 hst
    simp only [zL, splice, Nat.reduceAdd] at hst
    refine wpK_nil ?_
    refine join_end (((na5, A5, n5, c5, nb5, B5, m5, d5), lo + Rat.divInt (z3 : Int) ((1 + z4 : Nat) : Int), b5, 0)) ?_ ?_
    exact ⟨rfl, rfl, trivial⟩
    exact ⟨_, hst.weaken _ (List.sublist_cons_self _ _), hT, hlo, hhi, le_add_pos divInt_nonneg', (slo.add sd).mono (by decide)⟩
    exact stepT_no
    exact stepT_no
    exact stepT_no
    exact stepT_no
    exact stepT_no
    exact stepT_no
    exact stepT_no
  case d9 =>
    clear hst
    clear hT hlo hS hs
    rintro ⟨⟨na5, A5, n5, c5, nb5, B5, m5, d5⟩, hi, b5, k5⟩ w2 ⟨g2, hst, hT, hlo, hhi, hle, shi⟩
    simp only
    have slo2 := slo.mono (m := 20) (by decide)
    have fhi := shi.fitH (by decide)
    have z9 := ratS_size slo2
    have z8 := ratS_size shi
    have hmem := simpZ_mem hle
    have ss := simpZ_sz hle slo2 shi
    have fs := ss.fitH (by decide)
    have z7 := ratS_size ss
    refine cp_seq ?_
    refine cp_drawn (by kernel_rfl) 10 [(0, true), (2, true), (1, false), (3, false), (4, false), (5, true), (6, true), (7, true), (8, true), (9, true)] _ rfl (by kernel_rfl) (by kernel_rfl) (by kernel_rfl) (fun _ _ _ _ _ h => h) _ (hst.drew) ?_
    have hst0 := hst.drew
    clear hst
    have hst := hst0
    refine stepD_d rfl rfl rfl rfl (does_load_ownN 0 rfl (by kernel_rfl) zf119 rfl rfl rfl) ?_
    refine stepD_d rfl rfl rfl rfl (does_load_ownN 1 rfl (by kernel_rfl) zf119 rfl rfl rfl) ?_
    refine stepD_call rfl rfl rfl rfl rfl rfl hst (snum_Text hst.agree hlo flo) (fun _ _ h hle => St.older h hle (by simp) hst0.ext hst0.le) ?_
    clear hst
    intro v51 g51 w51 hst hle51 hcs51 hp51
    have hlesum := hle51
    replace hT := hT.mono hle51
    replace hlo := hlo.mono hle51
    replace hhi := hhi.mono hle51
    obtain rfl := hp51
    refine stepD_call rfl rfl rfl rfl rfl rfl hst (snum_Text hst.agree hhi fhi) (fun _ _ h hle => St.older h (Mem.le.trans hlesum hle) (by simp) hst0.ext hst0.le) ?_
    clear hst
    intro v52 g52 w52 hst hle52 hcs52 hp52
    replace hlesum := Mem.le.trans hlesum hle52
    replace hT := hT.mono hle52
    replace hlo := hlo.mono hle52
    replace hhi := hhi.mono hle52
    obtain rfl := hp52
    refine stepD_call rfl rfl rfl rfl rfl rfl hst (nearest_Simplest hst.agree hT (a := ratS lo) (b := ratS hi) (by omega) (by omega)) (fun _ _ h hle => St.older h (Mem.le.trans hlesum hle) (by simp) hst0.ext hst0.le) ?_
    clear hst
    intro v53 g53 w53 hst hle53 hcs53 hp53
    replace hlesum := Mem.le.trans hlesum hle53
    replace hT := hT.mono hle53
    replace hlo := hlo.mono hle53
    replace hhi := hhi.mono hle53
    obtain rfl := hp53
    rw [readR_text, readR_text, getR_text, getR_text, if_pos ⟨rfl, rfl, hle⟩, if_pos ⟨rfl, rfl⟩, if_pos hle]
    refine stepD_d rfl rfl rfl rfl (does_move rfl rfl) ?_
    refine stepD_d rfl rfl rfl rfl (does_extract rfl rfl rfl) ?_
    refine stepD_d rfl rfl rfl rfl (does_extract rfl rfl rfl) ?_
    refine stepD_d rfl rfl rfl rfl (does_assign rfl rfl) ?_
    refine stepD_d rfl rfl rfl rfl (does_assign rfl rfl) ?_
    refine stepD_tail ?_
    refine zn4 ?_
    refine zM rfl hst rfl ?_
    refine stepK_call rfl rfl rfl rfl rfl hst (snum_Read hst.agree (s := ratS (simpZ lo hi)) (by omega)) ?_
    clear hst
    intro v54 g54 w54 hst hle54 hcs54 hp54
    replace hT := hT.mono hle54
    replace hlo := hlo.mono hle54
    replace hhi := hhi.mono hle54
    obtain ⟨na8, A8, n8, c8, nb8, B8, m8, d8, ok, ρ, rfl, hq, hy, hno⟩ := hp54
    obtain rfl : ok = true := by
      cases ok with
      | true => rfl
      | false => have h9 := hno rfl; rw [readR_text] at h9; cases h9
    obtain rfl : simpZ lo hi = ρ := by have h9 := hy rfl; rw [readR_text] at h9; exact Option.some.inj h9
    clear hy hno
    refine zM rfl hst rfl ?_
    refine zE rfl hst rfl rfl ?_
    refine zE rfl hst rfl rfl ?_
    refine stepK_alloc rfl rfl rfl rfl zf121 rfl hst ?_
    clear hst
    intro b8 w55 hst
    refine stepK_store 2 rfl rfl rfl rfl rfl rfl zf119 rfl rfl hst rfl (by first | (simp [uN_length]; omega) | simp) ?_
    clear hst
    intro w56 hst
    simp only [zL, splice, Nat.reduceAdd] at hst
    refine zA rfl hst rfl ?_
    refine znq ?_
    refine zsr ?_
    refine zM rfl hst rfl ?_
    refine stepK_d rfl rfl rfl hst (Does.no (does_neq rfl rfl rfl) (fun h => h rfl)) ?_
    refine zM rfl hst rfl ?_
    refine stepK_guard rfl rfl rfl rfl rfl rfl hst (does_move rfl rfl) ?_
    refine stepK_guard rfl rfl rfl rfl rfl rfl hst (Does.bfalse' (does_not rfl rfl) rfl) ?_
    refine stepK_d rfl rfl rfl hst (does_pick_false rfl rfl rfl) ?_
    refine zM rfl hst rfl ?_
    refine stepK_guard rfl rfl rfl rfl rfl rfl hst (does_load_ownN 2 rfl (by kernel_rfl) zf119 rfl rfl rfl) ?_
    refine stepK_guard rfl rfl rfl rfl rfl rfl hst (does_load_ownN 0 rfl (by kernel_rfl) zf119 rfl rfl rfl) ?_
    refine stepK_call_guard rfl rfl rfl rfl rfl rfl rfl rfl hst (snum_RCmp hst.agree hq hlo fs flo) ?_
    clear hst
    intro v57 g57 w57 hst hle57 hcs57 hp57
    replace hT := hT.mono hle57
    replace hlo := hlo.mono hle57
    replace hhi := hhi.mono hle57
    replace hq := hq.mono hle57
    obtain rfl := hp57
    refine stepK_guard rfl rfl rfl rfl rfl rfl hst (Does.no (does_lss rfl rfl rfl) (fun h => sgn_lt.1 h hmem.1)) ?_
    refine stepK_d rfl rfl rfl hst (does_pick_false rfl rfl rfl) ?_
    refine zM rfl hst rfl ?_
    refine stepK_guard rfl rfl rfl rfl rfl rfl hst (does_load_ownN 2 rfl (by kernel_rfl) zf119 rfl rfl rfl) ?_
    refine stepK_guard rfl rfl rfl rfl rfl rfl hst (does_load_ownN 1 rfl (by kernel_rfl) zf119 rfl rfl rfl) ?_
    refine stepK_call_guard rfl rfl rfl rfl rfl rfl rfl rfl hst (snum_RCmp hst.agree hq hhi fs fhi) ?_
    clear hst
    intro v58 g58 w58 hst hle58 hcs58 hp58
    replace hT := hT.mono hle58
    replace hlo := hlo.mono hle58
    replace hhi := hhi.mono hle58
    replace hq := hq.mono hle58
    obtain rfl := hp58
    refine stepK_guard rfl rfl rfl rfl rfl rfl hst (Does.no (does_gtr rfl rfl rfl) (fun h => by have := sgn_le.2 hmem.2; omega)) ?_
    refine stepK_d rfl rfl rfl hst (does_pick_false rfl rfl rfl) ?_
    refine znt ?_
    refine cp_cond_false rfl ?_
    refine cp_skip ?_
    refine cp_then ?_
    refine cp_seq ?_
    refine zsr ?_
    refine zA rfl hst rfl ?_
    refine znt ?_
    refine cp_block ?_
    refine cp_loop (ι := Nat) (fun q => [(4, .pointer (some ⟨b4, 0, none⟩)), (5, .pointer (some ⟨b5, 0, none⟩)), (8, .pointer (some ⟨b8, 0, none⟩)), (10, .int .i64 (q : Int))]) (fun q w1 => ∃ g1, St w [] g g1 [(b4, .cells #[.bool na4, .slice A4 n4 c4, .bool nb4, .slice B4 m4 d4] 30 (0, 0)), (b5, .cells #[.bool na5, .slice A5 n5 c5, .bool nb5, .slice B5 m5 d5] 30 (0, 0)), (b8, .cells #[.bool na8, .slice A8 n8 c8, .bool nb8, .slice B8 m8 d8] 30 (0, 0))] w1 ∧ TabG Tryz.prog g1 ∧ IsQ g1 na4 A4 n4 nb4 B4 m4 (lo) ∧ IsQ g1 na5 A5 n5 nb5 B5 m5 (hi) ∧ IsQ g1 na8 A8 n8 nb8 B8 m8 (simpZ lo hi) ∧ 1 ≤ q ∧ q ≤ 400) (fun q => 400 - q) 1 ?k59 ?i59 ?r59
    case k59 => exact ⟨rfl, rfl, rfl, kint rfl, trivial⟩
    case i59 =>
      exact ⟨_, hst, hT, hlo, hhi, hq, by decide, by decide⟩
    case r59 =>
      clear hst
      clear hT hlo hhi hq
      rintro q w1 ⟨g1, hst, hT, hlo, hhi, hq, hq1, hq2⟩
      have sqz : Sz 4 (((q : Int)) : Rat) := intR_sz (by rw [Int.natAbs_natCast]; omega) (by decide)
      refine cp_seq ?_
      refine cp_seq ?_
      refine cp_drawnE (by kernel_rfl) 10 [(0, true), (1, true), (2, true), (3, true), (5, true), (4, false), (6, false), (7, false), (8, true), (9, true)] _ rfl (by kernel_rfl) (by kernel_rfl) (by kernel_rfl) (fun _ _ _ _ _ h => h) _ (hst.drew) ?_
      have hst0 := hst.drew
      clear hst
      have hst := hst0
      refine stepE_d rfl rfl rfl rfl (does_move rfl rfl) ?_
      refine stepE_d rfl rfl rfl rfl (does_lss rfl rfl rfl) ?_
      refine stepE_d rfl rfl rfl rfl (does_move rfl rfl) ?_
      refine wpE_split (t := 66) rfl ?_ ?_
      intro s66
      refine stepE_guard rfl rfl rfl rfl rfl rfl rfl (does_move rfl rfl) ?_
      refine stepE_guard rfl rfl rfl rfl rfl rfl rfl (does_load_ownN 2 rfl (by kernel_rfl) zf119 rfl rfl rfl) ?_
      refine stepE_call_guard rfl rfl rfl rfl rfl rfl rfl rfl rfl hst (snum_FromInt hst.agree (x := (q : Int)) (by omega) (by omega)) (fun _ _ h hle => St.older h hle (by simp) hst0.ext hst0.le) ?_
      clear hst
      intro v60 g60 w60 hst hle60 hcs60 hp60
      have hlesum := hle60
      replace hT := hT.mono hle60
      replace hlo := hlo.mono hle60
      replace hhi := hhi.mono hle60
      replace hq := hq.mono hle60
      obtain ⟨_, _, lq, _, rfl, hQ⟩ := hp60
      have lqb := hQ.len (k := 1) (by omega)
      refine stepE_call_guard rfl rfl rfl rfl rfl rfl rfl rfl rfl hst (snum_Den hst.agree hq) (fun _ _ h hle => St.older h (Mem.le.trans hlesum hle) (by simp) hst0.ext hst0.le) ?_
      clear hst
      intro v61 g61 w61 hst hle61 hcs61 hp61
      replace hlesum := Mem.le.trans hlesum hle61
      replace hT := hT.mono hle61
      replace hlo := hlo.mono hle61
      replace hhi := hhi.mono hle61
      replace hq := hq.mono hle61
      replace hQ := hQ.mono hle61
      obtain ⟨_, _, ld, _, rfl, hD⟩ := hp61
      have ldb := hD.len fs.2
      refine stepE_call_guard rfl rfl rfl rfl rfl rfl rfl rfl rfl hst (snum_Cmp hst.agree hQ hD (by omega) (by omega)) (fun _ _ h hle => St.older h (Mem.le.trans hlesum hle) (by simp) hst0.ext hst0.le) ?_
      clear hst
      intro v62 g62 w62 hst hle62 hcs62 hp62
      replace hlesum := Mem.le.trans hlesum hle62
      replace hT := hT.mono hle62
      replace hlo := hlo.mono hle62
      replace hhi := hhi.mono hle62
      replace hq := hq.mono hle62
      replace hQ := hQ.mono hle62
      replace hD := hD.mono hle62
      obtain rfl := hp62
      refine stepE_guard rfl rfl rfl rfl rfl rfl rfl (does_lss rfl rfl rfl) ?_
      refine stepE_d rfl rfl rfl rfl (does_pick_true rfl rfl rfl) ?_
      refine stepE_tail ?_
      refine znt ?_
      refine cp_if rfl ?_ ?_
      intro c73
      have hqd : q < (simpZ lo hi).den := by have := Int.sign_neg_iff.1 c73; omega
      refine cp_skip ?_
      refine cp_then ?_
      refine cp_seq ?_
      refine cp_block ?_
      refine cp_join (ι := (Bool × Option Addr × Nat × Nat) × Nat) (fun ((nc, Ac, lc, cc), b11) => [(4, .pointer (some ⟨b4, 0, none⟩)), (5, .pointer (some ⟨b5, 0, none⟩)), (8, .pointer (some ⟨b8, 0, none⟩)), (10, .int .i64 (q : Int)), (11, .pointer (some ⟨b11, 0, none⟩))]) (fun ((nc, Ac, lc, cc), b11) w4 => ∃ g2, St w [] g g2 [(b4, .cells #[.bool na4, .slice A4 n4 c4, .bool nb4, .slice B4 m4 d4] 30 (0, 0)), (b5, .cells #[.bool na5, .slice A5 n5 c5, .bool nb5, .slice B5 m5 d5] 30 (0, 0)), (b8, .cells #[.bool na8, .slice A8 n8 c8, .bool nb8, .slice B8 m8 d8] 30 (0, 0)), (b11, .cells #[.bool nc, .slice Ac lc cc] 28 (0, 0))] w4 ∧ TabG Tryz.prog g2 ∧ IsQ g2 na4 A4 n4 nb4 B4 m4 (lo) ∧ IsQ g2 na5 A5 n5 nb5 B5 m5 (hi) ∧ IsQ g2 na8 A8 n8 nb8 B8 m8 (simpZ lo hi) ∧ IsZ g2 nc Ac lc (ceilR (lo * ((q : Int) : Rat)))) ?c63 ?d63
      case c63 =>
        refine cp_drawnT (by kernel_rfl) 8 (.d 0 (.d 1 (.e 2 (.e 3 (.e 4 (.e 5 (.e 6 (.e 7 .fin .no) (.e 7 (.e 6 .fin .no) .no)) (.e 7 (.e 5 (.e 6 .fin .no) .no) .no)) (.e 7 (.e 4 (.e 5 (.e 6 .fin .no) .no) .no) .no)) (.e 7 (.e 3 (.e 4 (.e 5 (.e 6 .fin .no) .no) .no) .no) .no)) (.e 7 (.e 2 (.e 3 (.e 4 (.e 5 (.e 6 .fin .no) .no) .no) .no) .no) .no)))) _ rfl (by kernel_rfl) (by kernel_rfl) (by kernel_rfl) (fun _ _ _ _ _ h => h) _ hst.drew ?_
        have hst0 := hst.drew
        have hst9 := hst.drew
        clear hst
        have hst := hst9
        clear hst9
        refine stepT_d rfl rfl rfl rfl (does_load_ownN 0 rfl (by kernel_rfl) zf119 rfl rfl rfl) ?_
        refine stepT_d rfl rfl rfl rfl (does_move rfl rfl) ?_
        refine stepT_call rfl rfl rfl rfl rfl rfl hst0 hst (Mem.le.refl _) (by repeat (first | exact zR _ | apply zC | apply zD)) (snum_R hst.agree (x := (q : Int)) (by omega) (by omega)) ?_ ?_
        clear hst
        intro v64 g64 w64 hst hle64 hcs64 hp64
        have hlesum := hle64
        replace hT := hT.mono hle64
        replace hlo := hlo.mono hle64
        replace hhi := hhi.mono hle64
        replace hq := hq.mono hle64
        replace hQ := hQ.mono hle64
        replace hD := hD.mono hle64
        obtain ⟨_, _, _, _, _, _, _, _, rfl, hR⟩ := hp64
        refine stepT_call rfl rfl rfl rfl rfl rfl hst0 hst hlesum (by repeat (first | exact zR _ | apply zC | apply zD)) (snum_RMul hst.agree hlo hR flo (sqz.fitH (by decide))) ?_ ?_
        clear hst
        intro v65 g65 w65 hst hle65 hcs65 hp65
        replace hlesum := Mem.le.trans hlesum hle65
        replace hT := hT.mono hle65
        replace hlo := hlo.mono hle65
        replace hhi := hhi.mono hle65
        replace hq := hq.mono hle65
        replace hQ := hQ.mono hle65
        replace hD := hD.mono hle65
        replace hR := hR.mono hle65
        obtain ⟨_, _, _, _, _, _, _, _, rfl, hM⟩ := hp65
        refine stepT_call rfl rfl rfl rfl rfl rfl hst0 hst hlesum (by repeat (first | exact zR _ | apply zC | apply zD)) (snum_RNeg hst.agree hM) ?_ ?_
        clear hst
        intro v66 g66 w66 hst hle66 hcs66 hp66
        replace hlesum := Mem.le.trans hlesum hle66
        replace hT := hT.mono hle66
        replace hlo := hlo.mono hle66
        replace hhi := hhi.mono hle66
        replace hq := hq.mono hle66
        replace hQ := hQ.mono hle66
        replace hD := hD.mono hle66
        replace hR := hR.mono hle66
        replace hM := hM.mono hle66
        obtain ⟨_, _, _, _, _, _, _, _, rfl, hN⟩ := hp66
        refine stepT_call rfl rfl rfl rfl rfl rfl hst0 hst hlesum (by repeat (first | exact zR _ | apply zC | apply zD)) (snum_Floor hst.agree hN ((slo.mul sqz).neg.fitH (by decide))) ?_ ?_
        clear hst
        intro v67 g67 w67 hst hle67 hcs67 hp67
        replace hlesum := Mem.le.trans hlesum hle67
        replace hT := hT.mono hle67
        replace hlo := hlo.mono hle67
        replace hhi := hhi.mono hle67
        replace hq := hq.mono hle67
        replace hQ := hQ.mono hle67
        replace hD := hD.mono hle67
        replace hR := hR.mono hle67
        replace hM := hM.mono hle67
        replace hN := hN.mono hle67
        obtain ⟨_, _, _, _, rfl, hF⟩ := hp67
        refine stepT_call rfl rfl rfl rfl rfl rfl hst0 hst hlesum (by repeat (first | exact zR _ | apply zC | apply zD)) (snum_Neg hst.agree hF) ?_ ?_
        clear hst
        intro v68 g68 w68 hst hle68 hcs68 hp68
        replace hlesum := Mem.le.trans hlesum hle68
        replace hT := hT.mono hle68
        replace hlo := hlo.mono hle68
        replace hhi := hhi.mono hle68
        replace hq := hq.mono hle68
        replace hQ := hQ.mono hle68
        replace hD := hD.mono hle68
        replace hR := hR.mono hle68
        replace hM := hM.mono hle68
        replace hN := hN.mono hle68
        replace hF := hF.mono hle68
        obtain ⟨nc, Ac, lc, cc, rfl, hC⟩ := hp68
        refine stepT_alloc rfl rfl rfl rfl rfl zf101 rfl hst0 hst hlesum (by repeat (first | exact zR _ | apply zC | apply zD)) ?_ ?_
        clear hst
        intro b11 w69 hst
        refine stepT_tail ?_
        refine stepK_store 3 rfl rfl rfl rfl rfl rfl zf103 rfl rfl hst rfl (by first | (simp [uN_length]; omega) | simp) ?_
        clear hst
        intro w70 hst
        simp only [zL, splice, Nat.reduceAdd] at hst
        refine wpK_nil ?_
        refine join_end (((nc, Ac, lc, cc), b11)) ?_ ?_
        exact ⟨rfl, rfl, rfl, rfl, rfl, trivial⟩
        exact ⟨_, hst, hT, hlo, hhi, hq, hC⟩
        exact stepT_no
        refine stepT_alloc rfl rfl rfl rfl rfl zf101 rfl hst0 hst hlesum (by repeat (first | exact zR _ | apply zC | apply zD)) ?_ ?_
        clear hst
        intro b11 w71 hst
        refine stepT_call rfl rfl rfl rfl rfl rfl hst0 hst hlesum (by repeat (first | exact zR _ | apply zC | apply zD)) (snum_Neg hst.agree hF) ?_ ?_
        clear hst
        intro v72 g72 w72 hst hle72 hcs72 hp72
        replace hlesum := Mem.le.trans hlesum hle72
        replace hT := hT.mono hle72
        replace hlo := hlo.mono hle72
        replace hhi := hhi.mono hle72
        replace hq := hq.mono hle72
        replace hQ := hQ.mono hle72
        replace hD := hD.mono hle72
        replace hR := hR.mono hle72
        replace hM := hM.mono hle72
        replace hN := hN.mono hle72
        replace hF := hF.mono hle72
        obtain ⟨nc, Ac, lc, cc, rfl, hC⟩ := hp72
        refine stepT_tail ?_
        refine stepK_store 3 rfl rfl rfl rfl rfl rfl zf103 rfl rfl hst rfl (by first | (simp [uN_length]; omega) | simp) ?_
        clear hst
        intro w73 hst
        simp only [zL, splice, Nat.reduceAdd] at hst
        refine wpK_nil ?_
        refine join_end (((nc, Ac, lc, cc), b11)) ?_ ?_
        exact ⟨rfl, rfl, rfl, rfl, rfl, trivial⟩
        exact ⟨_, hst, hT, hlo, hhi, hq, hC⟩
        exact stepT_no
        exact stepT_no
        refine stepT_alloc rfl rfl rfl rfl rfl zf101 rfl hst0 hst hlesum (by repeat (first | exact zR _ | apply zC | apply zD)) ?_ ?_
        clear hst
        intro b11 w74 hst
        refine stepT_call rfl rfl rfl rfl rfl rfl hst0 hst hlesum (by repeat (first | exact zR _ | apply zC | apply zD)) (snum_Floor hst.agree hN ((slo.mul sqz).neg.fitH (by decide))) ?_ ?_
        clear hst
        intro v75 g75 w75 hst hle75 hcs75 hp75
        replace hlesum := Mem.le.trans hlesum hle75
        replace hT := hT.mono hle75
        replace hlo := hlo.mono hle75
        replace hhi := hhi.mono hle75
        replace hq := hq.mono hle75
        replace hQ := hQ.mono hle75
        replace hD := hD.mono hle75
        replace hR := hR.mono hle75
        replace hM := hM.mono hle75
        replace hN := hN.mono hle75
        obtain ⟨_, _, _, _, rfl, hF⟩ := hp75
        refine stepT_call rfl rfl rfl rfl rfl rfl hst0 hst hlesum (by repeat (first | exact zR _ | apply zC | apply zD)) (snum_Neg hst.agree hF) ?_ ?_
        clear hst
        intro v76 g76 w76 hst hle76 hcs76 hp76
        replace hlesum := Mem.le.trans hlesum hle76
        replace hT := hT.mono hle76
        replace hlo := hlo.mono hle76
        replace hhi := hhi.mono hle76
        replace hq := hq.mono hle76
        replace hQ := hQ.mono hle76
        replace hD := hD.mono hle76
        replace hR := hR.mono hle76
        replace hM := hM.mono hle76
        replace hN := hN.mono hle76
        replace hF := hF.mono hle76
        obtain ⟨nc, Ac, lc, cc, rfl, hC⟩ := hp76
        refine stepT_tail ?_
        refine stepK_store 3 rfl rfl rfl rfl rfl rfl zf103 rfl rfl hst rfl (by first | (simp [uN_length]; omega) | simp) ?_
        clear hst
        intro w77 hst
        simp only [zL, splice, Nat.reduceAdd] at hst
        refine wpK_nil ?_
        refine join_end (((nc, Ac, lc, cc), b11)) ?_ ?_
        exact ⟨rfl, rfl, rfl, rfl, rfl, trivial⟩
        exact ⟨_, hst, hT, hlo, hhi, hq, hC⟩
        exact stepT_no
        exact stepT_no
        exact stepT_no
        refine stepT_alloc rfl rfl rfl rfl rfl zf101 rfl hst0 hst hlesum (by repeat (first | exact zR _ | apply zC | apply zD)) ?_ ?_
        clear hst
        intro b11 w78 hst
        refine stepT_call rfl rfl rfl rfl rfl rfl hst0 hst hlesum (by repeat (first | exact zR _ | apply zC | apply zD)) (snum_RNeg hst.agree hM) ?_ ?_
        clear hst
        intro v79 g79 w79 hst hle79 hcs79 hp79
        replace hlesum := Mem.le.trans hlesum hle79
        replace hT := hT.mono hle79
        replace hlo := hlo.mono hle79
        replace hhi := hhi.mono hle79
        replace hq := hq.mono hle79
        replace hQ := hQ.mono hle79
        replace hD := hD.mono hle79
        replace hR := hR.mono hle79
        replace hM := hM.mono hle79
        obtain ⟨_, _, _, _, _, _, _, _, rfl, hN⟩ := hp79
        refine stepT_call rfl rfl rfl rfl rfl rfl hst0 hst hlesum (by repeat (first | exact zR _ | apply zC | apply zD)) (snum_Floor hst.agree hN ((slo.mul sqz).neg.fitH (by decide))) ?_ ?_
        clear hst
        intro v80 g80 w80 hst hle80 hcs80 hp80
        replace hlesum := Mem.le.trans hlesum hle80
        replace hT := hT.mono hle80
        replace hlo := hlo.mono hle80
        replace hhi := hhi.mono hle80
        replace hq := hq.mono hle80
        replace hQ := hQ.mono hle80
        replace hD := hD.mono hle80
        replace hR := hR.mono hle80
        replace hM := hM.mono hle80
        replace hN := hN.mono hle80
        obtain ⟨_, _, _, _, rfl, hF⟩ := hp80
        refine stepT_call rfl rfl rfl rfl rfl rfl hst0 hst hlesum (by repeat (first | exact zR _ | apply zC | apply zD)) (snum_Neg hst.agree hF) ?_ ?_
        clear hst
        intro v81 g81 w81 hst hle81 hcs81 hp81
        replace hlesum := Mem.le.trans hlesum hle81
        replace hT := hT.mono hle81
        replace hlo := hlo.mono hle81
        replace hhi := hhi.mono hle81
        replace hq := hq.mono hle81
        replace hQ := hQ.mono hle81
        replace hD := hD.mono hle81
        replace hR := hR.mono hle81
        replace hM := hM.mono hle81
        replace hN := hN.mono hle81
        replace hF := hF.mono hle81
        obtain ⟨nc, Ac, lc, cc, rfl, hC⟩ := hp81
        refine stepT_tail ?_
        refine stepK_store 3 rfl rfl rfl rfl rfl rfl zf103 rfl rfl hst rfl (by first | (simp [uN_length]; omega) | simp) ?_
        clear hst
        intro w82 hst
        simp only [zL, splice, Nat.reduceAdd] at hst
        refine wpK_nil ?_
        refine join_end (((nc, Ac, lc, cc), b11)) ?_ ?_
        exact ⟨rfl, rfl, rfl, rfl, rfl, trivial⟩
        exact ⟨_, hst, hT, hlo, hhi, hq, hC⟩
        exact stepT_no
        exact stepT_no
        exact stepT_no
        exact stepT_no
        refine stepT_alloc rfl rfl rfl rfl rfl zf101 rfl hst0 hst hlesum (by repeat (first | exact zR _ | apply zC | apply zD)) ?_ ?_
        clear hst
        intro b11 w83 hst
        refine stepT_call rfl rfl rfl rfl rfl rfl hst0 hst hlesum (by repeat (first | exact zR _ | apply zC | apply zD)) (snum_RMul hst.agree hlo hR flo (sqz.fitH (by decide))) ?_ ?_
        clear hst
        intro v84 g84 w84 hst hle84 hcs84 hp84
        replace hlesum := Mem.le.trans hlesum hle84
        replace hT := hT.mono hle84
        replace hlo := hlo.mono hle84
        replace hhi := hhi.mono hle84
        replace hq := hq.mono hle84
        replace hQ := hQ.mono hle84
        replace hD := hD.mono hle84
        replace hR := hR.mono hle84
        obtain ⟨_, _, _, _, _, _, _, _, rfl, hM⟩ := hp84
        refine stepT_call rfl rfl rfl rfl rfl rfl hst0 hst hlesum (by repeat (first | exact zR _ | apply zC | apply zD)) (snum_RNeg hst.agree hM) ?_ ?_
        clear hst
        intro v85 g85 w85 hst hle85 hcs85 hp85
        replace hlesum := Mem.le.trans hlesum hle85
        replace hT := hT.mono hle85
        replace hlo := hlo.mono hle85
        replace hhi := hhi.mono hle85
        replace hq := hq.mono hle85
        replace hQ := hQ.mono hle85
        replace hD := hD.mono hle85
        replace hR := hR.mono hle85
        replace hM := hM.mono hle85
        obtain ⟨_, _, _, _, _, _, _, _, rfl, hN⟩ := hp85
        refine stepT_call rfl rfl rfl rfl rfl rfl hst0 hst hlesum (by repeat (first | exact zR _ | apply zC | apply zD)) (snum_Floor hst.agree hN ((slo.mul sqz).neg.fitH (by decide))) ?_ ?_
        clear hst
        intro v86 g86 w86 hst hle86 hcs86 hp86
        replace hlesum := Mem.le.trans hlesum hle86
        replace hT := hT.mono hle86
        replace hlo := hlo.mono hle86
        replace hhi := hhi.mono hle86
        replace hq := hq.mono hle86
        replace hQ := hQ.mono hle86
        replace hD := hD.mono hle86
        replace hR := hR.mono hle86
        replace hM := hM.mono hle86
        replace hN := hN.mono hle86
        obtain ⟨_, _, _, _, rfl, hF⟩ := hp86
        refine stepT_call rfl rfl rfl rfl rfl rfl hst0 hst hlesum (by repeat (first | exact zR _ | apply zC | apply zD)) (snum_Neg hst.agree hF) ?_ ?_
        clear hst
        intro v87 g87 w87 hst hle87 hcs87 hp87
        replace hlesum := Mem.le.trans hlesum hle87
        replace hT := hT.mono hle87
        replace hlo := hlo.mono hle87
        replace hhi := hhi.mono hle87
        replace hq := hq.mono hle87
        replace hQ := hQ.mono hle87
        replace hD := hD.mono hle87
        replace hR := hR.mono hle87
        replace hM := hM.mono hle87
        replace hN := hN.mono hle87
        replace hF := hF.mono hle87
        obtain ⟨nc, Ac, lc, cc, rfl, hC⟩ := hp87
        refine stepT_tail ?_
        refine stepK_store 3 rfl rfl rfl rfl rfl rfl zf103 rfl rfl hst rfl (by first | (simp [uN_length]; omega) | simp) ?_
        clear hst
        intro w88 hst
        simp only [zL, splice, Nat.reduceAdd] at hst
        refine wpK_nil ?_
        refine join_end (((nc, Ac, lc, cc), b11)) ?_ ?_
        exact ⟨rfl, rfl, rfl, rfl, rfl, trivial⟩
        exact ⟨_, hst, hT, hlo, hhi, hq, hC⟩
        exact stepT_no
        exact stepT_no
        exact stepT_no
        exact stepT_no
        exact stepT_no
        refine stepT_alloc rfl rfl rfl rfl rfl zf101 rfl hst0 hst (Mem.le.refl _) (by repeat (first | exact zR _ | apply zC | apply zD)) ?_ ?_
        clear hst
        intro b11 w89 hst
        refine stepT_call rfl rfl rfl rfl rfl rfl hst0 hst (Mem.le.refl _) (by repeat (first | exact zR _ | apply zC | apply zD)) (snum_R hst.agree (x := (q : Int)) (by omega) (by omega)) ?_ ?_
        clear hst
        intro v90 g90 w90 hst hle90 hcs90 hp90
        have hlesum := hle90
        replace hT := hT.mono hle90
        replace hlo := hlo.mono hle90
        replace hhi := hhi.mono hle90
        replace hq := hq.mono hle90
        replace hQ := hQ.mono hle90
        replace hD := hD.mono hle90
        obtain ⟨_, _, _, _, _, _, _, _, rfl, hR⟩ := hp90
        refine stepT_call rfl rfl rfl rfl rfl rfl hst0 hst hlesum (by repeat (first | exact zR _ | apply zC | apply zD)) (snum_RMul hst.agree hlo hR flo (sqz.fitH (by decide))) ?_ ?_
        clear hst
        intro v91 g91 w91 hst hle91 hcs91 hp91
        replace hlesum := Mem.le.trans hlesum hle91
        replace hT := hT.mono hle91
        replace hlo := hlo.mono hle91
        replace hhi := hhi.mono hle91
        replace hq := hq.mono hle91
        replace hQ := hQ.mono hle91
        replace hD := hD.mono hle91
        replace hR := hR.mono hle91
        obtain ⟨_, _, _, _, _, _, _, _, rfl, hM⟩ := hp91
        refine stepT_call rfl rfl rfl rfl rfl rfl hst0 hst hlesum (by repeat (first | exact zR _ | apply zC | apply zD)) (snum_RNeg hst.agree hM) ?_ ?_
        clear hst
        intro v92 g92 w92 hst hle92 hcs92 hp92
        replace hlesum := Mem.le.trans hlesum hle92
        replace hT := hT.mono hle92
        replace hlo := hlo.mono hle92
        replace hhi := hhi.mono hle92
        replace hq := hq.mono hle92
        replace hQ := hQ.mono hle92
        replace hD := hD.mono hle92
        replace hR := hR.mono hle92
        replace hM := hM.mono hle92
        obtain ⟨_, _, _, _, _, _, _, _, rfl, hN⟩ := hp92
        refine stepT_call rfl rfl rfl rfl rfl rfl hst0 hst hlesum (by repeat (first | exact zR _ | apply zC | apply zD)) (snum_Floor hst.agree hN ((slo.mul sqz).neg.fitH (by decide))) ?_ ?_
        clear hst
        intro v93 g93 w93 hst hle93 hcs93 hp93
        replace hlesum := Mem.le.trans hlesum hle93
        replace hT := hT.mono hle93
        replace hlo := hlo.mono hle93
        replace hhi := hhi.mono hle93
        replace hq := hq.mono hle93
        replace hQ := hQ.mono hle93
        replace hD := hD.mono hle93
        replace hR := hR.mono hle93
        replace hM := hM.mono hle93
        replace hN := hN.mono hle93
        obtain ⟨_, _, _, _, rfl, hF⟩ := hp93
        refine stepT_call rfl rfl rfl rfl rfl rfl hst0 hst hlesum (by repeat (first | exact zR _ | apply zC | apply zD)) (snum_Neg hst.agree hF) ?_ ?_
        clear hst
        intro v94 g94 w94 hst hle94 hcs94 hp94
        replace hlesum := Mem.le.trans hlesum hle94
        replace hT := hT.mono hle94
        replace hlo := hlo.mono hle94
        replace hhi := hhi.mono hle94
        replace hq := hq.mono hle94
        replace hQ := hQ.mono hle94
        replace hD := hD.mono hle94
        replace hR := hR.mono hle94
        replace hM := hM.mono hle94
        replace hN := hN.mono hle94
        replace hF := hF.mono hle94
        obtain ⟨nc, Ac, lc, cc, rfl, hC⟩ := hp94
        refine stepT_tail ?_
        refine stepK_store 3 rfl rfl rfl rfl rfl rfl zf103 rfl rfl hst rfl (by first | (simp [uN_length]; omega) | simp) ?_
        clear hst
        intro w95 hst
        simp only [zL, splice, Nat.reduceAdd] at hst
        refine wpK_nil ?_
        refine join_end (((nc, Ac, lc, cc), b11)) ?_ ?_
        exact ⟨rfl, rfl, rfl, rfl, rfl, trivial⟩
        exact ⟨_, hst, hT, hlo, hhi, hq, hC⟩
        exact stepT_no
        exact stepT_no
        exact stepT_no
        exact stepT_no
        exact stepT_no
        exact stepT_no
      case d63 =>
        clear hst
        clear hT hlo hhi hq
        rintro ⟨⟨nc, Ac, lc, cc⟩, b11⟩ w4 ⟨g2, hst, hT, hlo, hhi, hq, hC⟩
        simp only
        have sC : Sz 30 ((ceilR (lo * ((q : Int) : Rat)) : Int) : Rat) := by rw [ceilR_cast]; exact ((floor_sz (slo.mul sqz).neg).neg).mono (by decide)
        have lC := hC.len (k := 1099511627776) (by have := (sC.fitH (by decide)).1; rwa [Rat.num_intCast] at this)
        refine cp_seq ?_
        refine cp_drawn (by kernel_rfl) 7 [(0, true), (1, true), (4, true), (2, false), (3, false), (5, false), (6, true)] _ rfl (by kernel_rfl) (by kernel_rfl) (by kernel_rfl) (fun _ _ _ _ _ h => h) _ (hst.drew) ?_
        have hst0 := hst.drew
        clear hst
        have hst := hst0
        refine stepD_d rfl rfl rfl rfl (does_load_ownN 3 rfl (by kernel_rfl) zf103 rfl rfl rfl) ?_
        refine stepD_d rfl rfl rfl rfl (does_move rfl rfl) ?_
        refine stepD_d rfl rfl rfl rfl (does_load_ownN 1 rfl (by kernel_rfl) zf119 rfl rfl rfl) ?_
        refine stepD_call rfl rfl rfl rfl rfl rfl hst (snum_FromInt hst.agree (x := (q : Int)) (by omega) (by omega)) (fun _ _ h hle => St.older h hle (by simp) hst0.ext hst0.le) ?_
        clear hst
        intro v96 g96 w96 hst hle96 hcs96 hp96
        have hlesum := hle96
        replace hT := hT.mono hle96
        replace hlo := hlo.mono hle96
        replace hhi := hhi.mono hle96
        replace hq := hq.mono hle96
        replace hC := hC.mono hle96
        obtain ⟨_, _, lq2, _, rfl, hQ2⟩ := hp96
        have lq2b := hQ2.len (k := 1) (by omega)
        refine stepD_call rfl rfl rfl rfl rfl rfl hst (snum_Frac hst.agree hC hQ2 (by omega) (by omega) (by omega)) (fun _ _ h hle => St.older h (Mem.le.trans hlesum hle) (by simp) hst0.ext hst0.le) ?_
        clear hst
        intro v97 g97 w97 hst hle97 hcs97 hp97
        replace hlesum := Mem.le.trans hlesum hle97
        replace hT := hT.mono hle97
        replace hlo := hlo.mono hle97
        replace hhi := hhi.mono hle97
        replace hq := hq.mono hle97
        replace hC := hC.mono hle97
        replace hQ2 := hQ2.mono hle97
        obtain ⟨_, _, _, _, _, _, _, _, rfl, hy⟩ := hp97
        have sy : Sz 30 (Rat.divInt (ceilR (lo * ((q : Int) : Rat))) (q : Int)) := divInt_sz (by have := sC.1; rwa [Rat.num_intCast] at this) (by omega) (by omega)
        refine stepD_call rfl rfl rfl rfl rfl rfl hst (snum_RCmp hst.agree hy hhi (sy.fitH (by decide)) fhi) (fun _ _ h hle => St.older h (Mem.le.trans hlesum hle) (by simp) hst0.ext hst0.le) ?_
        clear hst
        intro v98 g98 w98 hst hle98 hcs98 hp98
        replace hlesum := Mem.le.trans hlesum hle98
        replace hT := hT.mono hle98
        replace hlo := hlo.mono hle98
        replace hhi := hhi.mono hle98
        replace hq := hq.mono hle98
        replace hC := hC.mono hle98
        replace hQ2 := hQ2.mono hle98
        replace hy := hy.mono hle98
        obtain rfl := hp98
        refine stepD_d rfl rfl rfl rfl (does_leq rfl rfl rfl) ?_
        refine stepD_tail ?_
        refine znt ?_
        refine cp_if rfl ?_ ?_
        intro c89
        exact absurd (sgn_le.1 c89) (simpZ_least (by omega) hqd)
        intro c89
        refine cp_skip ?_
        refine at_block_normal ?_
        refine cp_then ?_
        refine cp_region ?_
        refine zM rfl hst rfl ?_
        refine stepK_d rfl rfl rfl hst (Does.int (does_add rfl rfl rfl) (wrap_i64 (by omega) (by omega))) ?_
        refine zA rfl hst rfl ?_
        refine wpK_nil ?_
        refine round_end (q + 1) ?_ ?_ ?_
        exact ⟨rfl, rfl, rfl, rfl, trivial⟩
        exact ⟨_, hst.weaken _ (List.sublist_append_left [_, _, _] [_]), hT, hlo, hhi, hq, by omega, by omega⟩
        show 400 - (q + 1) < 400 - q
        omega
      intro c73
      refine cp_exit ?_
      refine at_then_exit ?_
      refine at_then_exit ?_
      refine cp_exit_here ?_
      refine cp_then ?_
      refine zsr ?_
      refine stepK_call rfl rfl rfl rfl rfl hst (law28_known hst.agree hT) ?_
      clear hst
      intro v99 g99 w99 hst hle99 hcs99 hp99
      replace hT := hT.mono hle99
      replace hlo := hlo.mono hle99
      replace hhi := hhi.mono hle99
      replace hq := hq.mono hle99
      replace hQ := hQ.mono hle99
      replace hD := hD.mono hle99
      obtain rfl := hp99
      refine zA rfl hst rfl ?_
      refine znt ?_
      refine cp_ret ?_
      refine ret1 rfl rfl hst ?_
      first
      | rfl
      | contradiction
      | simp_all
      intro s66
      refine stepE_pass rfl rfl rfl rfl rfl rfl rfl rfl ?_
      refine stepE_pass rfl rfl rfl rfl rfl rfl rfl rfl ?_
      refine stepE_skip rfl rfl rfl rfl rfl rfl rfl rfl ?_
      refine stepE_skip rfl rfl rfl rfl rfl rfl rfl rfl ?_
      refine stepE_skip rfl rfl rfl rfl rfl rfl rfl rfl ?_
      refine stepE_pass rfl rfl rfl rfl rfl rfl rfl rfl ?_
      refine stepE_d rfl rfl rfl rfl (does_pick_false rfl rfl rfl) ?_
      refine stepE_tail ?_
      refine znt ?_
      refine cp_cond_false rfl ?_
      refine cp_exit ?_
      refine at_then_exit ?_
      refine at_then_exit ?_
      refine cp_exit_here ?_
      refine cp_then ?_
      refine zsr ?_
      refine stepK_call rfl rfl rfl rfl rfl hst (law28_known hst.agree hT) ?_
      clear hst
      intro v100 g100 w100 hst hle100 hcs100 hp100
      replace hT := hT.mono hle100
      replace hlo := hlo.mono hle100
      replace hhi := hhi.mono hle100
      replace hq := hq.mono hle100
      obtain rfl := hp100
      refine zA rfl hst rfl ?_
      refine znt ?_
      refine cp_ret ?_
      refine ret1 rfl rfl hst ?_
      first
      | rfl
      | contradiction
      | simp_all

end Go.Proofs.YtbamjcfdlgnicaaGreatDoor
