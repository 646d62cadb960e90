/- The walks of functions, printed by a program of this session out of its specs. -/
import Derived.Test.YtnbcedkpkcgmkaaGreatDoorF8
import Derived.Test.YtnbcedkpkcgmkaaGreatDoorProg
import Derived.Test.YtnbcedkpkcgmkaaGreatDoorF0
namespace Go.Proofs.YtnbcedkpkcgmkaaGreatDoor
open Go Go.RowKit Go.Proofs.Vc
set_option linter.unusedVariables false
set_option linter.unusedSimpArgs false

set_option maxHeartbeats 1000000 in
theorem snum_Floor {g : Mem} {w : World} (hag : Agree g w) {na nb : Bool} {A B : Option Addr} {n c m d : Nat} {r : Rat} (ha : IsQ g na A n nb B m r) (hfa : FitH r) :
    CallTo Tryz.prog 52 #[.agg #[.bool na, .slice A n c, .bool nb, .slice B m d]] w (Ret w g fun v g => ∃ ng A n c, v = .agg #[.bool ng, .slice A n c] ∧ IsZ g ng A n (r.floor)) := by
  refine CallTo.enter (vs := [.agg #[.bool na, .slice A n c, .bool nb, .slice B m d]]) zf125 (by kernel_rfl) rfl rfl rfl ?_
  have hst := St.init hag
  have l1 := ha.1.len hfa.1
  refine zsr ?_
  refine stepK_box rfl rfl rfl rfl rfl rfl hst ?_
  clear hst
  intro bx w1 hst
  refine stepK_alloc rfl rfl rfl rfl zf87 rfl hst ?_
  clear hst
  intro bo w2 hst
  refine znt ?_
  refine cp_join (ι := (Bool × Option Addr × Nat × Nat) × (Bool × Option Addr × Nat × Nat) × Nat × Nat) (fun ((nq, Aq, qn, qc), (nr, Ar, rn, rc), (b3, b4)) => [(2, .pointer (some ⟨bo, 0, none⟩)), (3, .pointer (some ⟨b3, 0, none⟩)), (4, .pointer (some ⟨b4, 0, none⟩))]) (fun ((nq, Aq, qn, qc), (nr, Ar, rn, rc), (b3, b4)) w2 => ∃ g2, St w [] g g2 [(bx, .cells #[.bool na, .slice A n c, .bool nb, .slice B m d] 30 (0, 0)), (bo, .cells #[.bool false, .slice none 0 0] 28 (0, 0)), (b3, .cells #[.bool nq, .slice Aq qn qc] 28 (0, 0)), (b4, .cells #[.bool nr, .slice Ar rn rc] 28 (0, 0))] w2 ∧ IsZ g2 nq Aq qn (r.num.tdiv (r.den : Int)) ∧ IsZ g2 nr Ar rn (r.num.tmod (r.den : Int))) ?c3 ?d3
  case c3 =>
    refine cp_drawnT (by kernel_rfl) 11 (.d 0 (.d 1 (.d 2 (.e 3 (.e 4 (.d 5 (.d 6 (.d 7 (.e 8 (.e 9 (.e 10 .fin .no) .no) (.e 9 (.e 8 (.e 10 .fin .no) .no) .no))))) (.e 8 (.e 4 (.d 5 (.d 6 (.d 7 (.e 9 (.e 10 .fin .no) .no)))) (.e 9 (.e 4 (.d 5 (.d 6 (.d 7 (.e 10 .fin .no)))) .no) .no)) (.e 9 (.e 4 (.d 5 (.d 6 (.d 7 (.e 8 (.e 10 .fin .no) .no)))) (.e 8 (.e 4 (.d 5 (.d 6 (.d 7 (.e 10 .fin .no)))) .no) .no)) .no))) (.e 8 (.e 3 (.e 4 (.d 5 (.d 6 (.d 7 (.e 9 (.e 10 .fin .no) .no)))) (.e 9 (.e 4 (.d 5 (.d 6 (.d 7 (.e 10 .fin .no)))) .no) .no)) (.e 9 (.e 3 (.e 4 (.d 5 (.d 6 (.d 7 (.e 10 .fin .no)))) .no) .no) .no)) (.e 9 (.e 3 (.e 4 (.d 5 (.d 6 (.d 7 (.e 8 (.e 10 .fin .no) .no)))) (.e 8 (.e 4 (.d 5 (.d 6 (.d 7 (.e 10 .fin .no)))) .no) .no)) (.e 8 (.e 3 (.e 4 (.d 5 (.d 6 (.d 7 (.e 10 .fin .no)))) .no) .no) .no)) .no)))))) _ rfl (by kernel_rfl) (by kernel_rfl) (by kernel_rfl) (fun _ _ _ _ _ h => h) _ hst.drew ?_
    have hst0 := hst.drew
    have hst9 := hst.drew
    clear hst
    have hst := hst9
    clear hst9
    refine stepT_d rfl rfl rfl rfl (does_fieldAddr rfl zf110 rfl) ?_
    refine stepT_d rfl rfl rfl rfl (does_load_ownN 0 rfl (by kernel_rfl) zf89 rfl rfl rfl) ?_
    refine stepT_d rfl rfl rfl rfl (does_load_ownN 0 rfl (by kernel_rfl) zf105 rfl rfl rfl) ?_
    refine stepT_call rfl rfl rfl rfl rfl rfl hst0 hst (Mem.le.refl _) (by repeat (first | exact zR _ | apply zC | apply zD)) (snum_den hst.agree ha) ?_ ?_
    clear hst
    intro v4 g4 w4 hst hle4 hcs4 hp4
    have hlesum := hle4
    replace ha := ha.mono hle4
    obtain ⟨nd1, D1, dn1, dc1, rfl, hd1⟩ := hp4
    have l3 := hd1.len hfa.2
    refine stepT_call rfl rfl rfl rfl rfl rfl hst0 hst hlesum (by repeat (first | exact zR _ | apply zC | apply zD)) (snum_QuoRem hst.agree ha.1 hd1 (by have := r.den_nz; omega) (by omega) (by omega)) ?_ ?_
    clear hst
    intro v5 g5 w5 hst hle5 hcs5 hp5
    replace hlesum := Mem.le.trans hlesum hle5
    replace ha := ha.mono hle5
    replace hd1 := hd1.mono hle5
    obtain ⟨nq, Aq, qn, qc, nr, Ar, rn, rc, rfl, hq, hr⟩ := hp5
    refine stepT_d rfl rfl rfl rfl (does_move rfl rfl) ?_
    refine stepT_d rfl rfl rfl rfl (does_extract rfl rfl rfl) ?_
    refine stepT_d rfl rfl rfl rfl (does_extract rfl rfl rfl) ?_
    refine stepT_alloc rfl rfl rfl rfl rfl zf87 rfl hst0 hst hlesum (by repeat (first | exact zR _ | apply zC | apply zD)) ?_ ?_
    clear hst
    intro b3 w6 hst
    refine stepT_alloc rfl rfl rfl rfl rfl zf87 rfl hst0 hst hlesum (by repeat (first | exact zR _ | apply zC | apply zD)) ?_ ?_
    clear hst
    intro b4 w7 hst
    refine stepT_store 2 rfl rfl rfl rfl rfl rfl rfl zf89 rfl rfl hst0 hst rfl (by first | (simp [uN_length]; omega) | simp) hlesum (by repeat (first | exact zR _ | apply zC | apply zD)) ?_ ?_
    clear hst
    intro w8 hst
    simp only [zL, splice, Nat.reduceAdd] at hst
    refine stepT_tail ?_
    refine stepK_store 3 rfl rfl rfl rfl rfl rfl zf89 rfl rfl hst rfl (by first | (simp [uN_length]; omega) | simp) ?_
    clear hst
    intro w9 hst
    simp only [zL, splice, Nat.reduceAdd] at hst
    refine wpK_nil ?_
    refine join_end (((nq, Aq, qn, qc), (nr, Ar, rn, rc), (b3, b4))) ?_ ?_
    exact ⟨rfl, rfl, rfl, trivial⟩
    exact ⟨_, by first | exact hst | exact hst.perm (.cons _ (.cons _ (.swap ..))), hq, hr⟩
    exact stepT_no
    exact stepT_no
    refine stepT_alloc rfl rfl rfl rfl rfl zf87 rfl hst0 hst hlesum (by repeat (first | exact zR _ | apply zC | apply zD)) ?_ ?_
    clear hst
    intro b4 w10 hst
    refine stepT_alloc rfl rfl rfl rfl rfl zf87 rfl hst0 hst hlesum (by repeat (first | exact zR _ | apply zC | apply zD)) ?_ ?_
    clear hst
    intro b3 w11 hst
    refine stepT_store 3 rfl rfl rfl rfl rfl rfl rfl zf89 rfl rfl hst0 hst rfl (by first | (simp [uN_length]; omega) | simp) hlesum (by repeat (first | exact zR _ | apply zC | apply zD)) ?_ ?_
    clear hst
    intro w12 hst
    simp only [zL, splice, Nat.reduceAdd] at hst
    refine stepT_tail ?_
    refine stepK_store 2 rfl rfl rfl rfl rfl rfl zf89 rfl rfl hst rfl (by first | (simp [uN_length]; omega) | simp) ?_
    clear hst
    intro w13 hst
    simp only [zL, splice, Nat.reduceAdd] at hst
    refine wpK_nil ?_
    refine join_end (((nq, Aq, qn, qc), (nr, Ar, rn, rc), (b3, b4))) ?_ ?_
    exact ⟨rfl, rfl, rfl, trivial⟩
    exact ⟨_, by first | exact hst | exact hst.perm (.cons _ (.cons _ (.swap ..))), hq, hr⟩
    exact stepT_no
    exact stepT_no
    exact stepT_no
    refine stepT_alloc rfl rfl rfl rfl rfl zf87 rfl hst0 hst hlesum (by repeat (first | exact zR _ | apply zC | apply zD)) ?_ ?_
    clear hst
    intro b3 w14 hst
    refine stepT_call rfl rfl rfl rfl rfl rfl hst0 hst hlesum (by repeat (first | exact zR _ | apply zC | apply zD)) (snum_QuoRem hst.agree ha.1 hd1 (by have := r.den_nz; omega) (by omega) (by omega)) ?_ ?_
    clear hst
    intro v15 g15 w15 hst hle15 hcs15 hp15
    replace hlesum := Mem.le.trans hlesum hle15
    replace ha := ha.mono hle15
    replace hd1 := hd1.mono hle15
    obtain ⟨nq, Aq, qn, qc, nr, Ar, rn, rc, rfl, hq, hr⟩ := hp15
    refine stepT_d rfl rfl rfl rfl (does_move rfl rfl) ?_
    refine stepT_d rfl rfl rfl rfl (does_extract rfl rfl rfl) ?_
    refine stepT_d rfl rfl rfl rfl (does_extract rfl rfl rfl) ?_
    refine stepT_alloc rfl rfl rfl rfl rfl zf87 rfl hst0 hst hlesum (by repeat (first | exact zR _ | apply zC | apply zD)) ?_ ?_
    clear hst
    intro b4 w16 hst
    refine stepT_store 2 rfl rfl rfl rfl rfl rfl rfl zf89 rfl rfl hst0 hst rfl (by first | (simp [uN_length]; omega) | simp) hlesum (by repeat (first | exact zR _ | apply zC | apply zD)) ?_ ?_
    clear hst
    intro w17 hst
    simp only [zL, splice, Nat.reduceAdd] at hst
    refine stepT_tail ?_
    refine stepK_store 3 rfl rfl rfl rfl rfl rfl zf89 rfl rfl hst rfl (by first | (simp [uN_length]; omega) | simp) ?_
    clear hst
    intro w18 hst
    simp only [zL, splice, Nat.reduceAdd] at hst
    refine wpK_nil ?_
    refine join_end (((nq, Aq, qn, qc), (nr, Ar, rn, rc), (b3, b4))) ?_ ?_
    exact ⟨rfl, rfl, rfl, trivial⟩
    exact ⟨_, by first | exact hst | exact hst.perm (.cons _ (.cons _ (.swap ..))), hq, hr⟩
    exact stepT_no
    exact stepT_no
    refine stepT_alloc rfl rfl rfl rfl rfl zf87 rfl hst0 hst hlesum (by repeat (first | exact zR _ | apply zC | apply zD)) ?_ ?_
    clear hst
    intro b4 w19 hst
    refine stepT_call rfl rfl rfl rfl rfl rfl hst0 hst hlesum (by repeat (first | exact zR _ | apply zC | apply zD)) (snum_QuoRem hst.agree ha.1 hd1 (by have := r.den_nz; omega) (by omega) (by omega)) ?_ ?_
    clear hst
    intro v20 g20 w20 hst hle20 hcs20 hp20
    replace hlesum := Mem.le.trans hlesum hle20
    replace ha := ha.mono hle20
    replace hd1 := hd1.mono hle20
    obtain ⟨nq, Aq, qn, qc, nr, Ar, rn, rc, rfl, hq, hr⟩ := hp20
    refine stepT_d rfl rfl rfl rfl (does_move rfl rfl) ?_
    refine stepT_d rfl rfl rfl rfl (does_extract rfl rfl rfl) ?_
    refine stepT_d rfl rfl rfl rfl (does_extract rfl rfl rfl) ?_
    refine stepT_store 2 rfl rfl rfl rfl rfl rfl rfl zf89 rfl rfl hst0 hst rfl (by first | (simp [uN_length]; omega) | simp) hlesum (by repeat (first | exact zR _ | apply zC | apply zD)) ?_ ?_
    clear hst
    intro w21 hst
    simp only [zL, splice, Nat.reduceAdd] at hst
    refine stepT_tail ?_
    refine stepK_store 3 rfl rfl rfl rfl rfl rfl zf89 rfl rfl hst rfl (by first | (simp [uN_length]; omega) | simp) ?_
    clear hst
    intro w22 hst
    simp only [zL, splice, Nat.reduceAdd] at hst
    refine wpK_nil ?_
    refine join_end (((nq, Aq, qn, qc), (nr, Ar, rn, rc), (b3, b4))) ?_ ?_
    exact ⟨rfl, rfl, rfl, trivial⟩
    exact ⟨_, by first | exact hst | exact hst.perm (.cons _ (.cons _ (.swap ..))), hq, hr⟩
    exact stepT_no
    exact stepT_no
    exact stepT_no
    refine stepT_alloc rfl rfl rfl rfl rfl zf87 rfl hst0 hst hlesum (by repeat (first | exact zR _ | apply zC | apply zD)) ?_ ?_
    clear hst
    intro b4 w23 hst
    refine stepT_call rfl rfl rfl rfl rfl rfl hst0 hst hlesum (by repeat (first | exact zR _ | apply zC | apply zD)) (snum_QuoRem hst.agree ha.1 hd1 (by have := r.den_nz; omega) (by omega) (by omega)) ?_ ?_
    clear hst
    intro v24 g24 w24 hst hle24 hcs24 hp24
    replace hlesum := Mem.le.trans hlesum hle24
    replace ha := ha.mono hle24
    replace hd1 := hd1.mono hle24
    obtain ⟨nq, Aq, qn, qc, nr, Ar, rn, rc, rfl, hq, hr⟩ := hp24
    refine stepT_d rfl rfl rfl rfl (does_move rfl rfl) ?_
    refine stepT_d rfl rfl rfl rfl (does_extract rfl rfl rfl) ?_
    refine stepT_d rfl rfl rfl rfl (does_extract rfl rfl rfl) ?_
    refine stepT_alloc rfl rfl rfl rfl rfl zf87 rfl hst0 hst hlesum (by repeat (first | exact zR _ | apply zC | apply zD)) ?_ ?_
    clear hst
    intro b3 w25 hst
    refine stepT_store 3 rfl rfl rfl rfl rfl rfl rfl zf89 rfl rfl hst0 hst rfl (by first | (simp [uN_length]; omega) | simp) hlesum (by repeat (first | exact zR _ | apply zC | apply zD)) ?_ ?_
    clear hst
    intro w26 hst
    simp only [zL, splice, Nat.reduceAdd] at hst
    refine stepT_tail ?_
    refine stepK_store 2 rfl rfl rfl rfl rfl rfl zf89 rfl rfl hst rfl (by first | (simp [uN_length]; omega) | simp) ?_
    clear hst
    intro w27 hst
    simp only [zL, splice, Nat.reduceAdd] at hst
    refine wpK_nil ?_
    refine join_end (((nq, Aq, qn, qc), (nr, Ar, rn, rc), (b3, b4))) ?_ ?_
    exact ⟨rfl, rfl, rfl, trivial⟩
    exact ⟨_, by first | exact hst | exact hst.perm (.cons _ (.cons _ (.swap ..))), hq, hr⟩
    exact stepT_no
    exact stepT_no
    refine stepT_alloc rfl rfl rfl rfl rfl zf87 rfl hst0 hst hlesum (by repeat (first | exact zR _ | apply zC | apply zD)) ?_ ?_
    clear hst
    intro b3 w28 hst
    refine stepT_call rfl rfl rfl rfl rfl rfl hst0 hst hlesum (by repeat (first | exact zR _ | apply zC | apply zD)) (snum_QuoRem hst.agree ha.1 hd1 (by have := r.den_nz; omega) (by omega) (by omega)) ?_ ?_
    clear hst
    intro v29 g29 w29 hst hle29 hcs29 hp29
    replace hlesum := Mem.le.trans hlesum hle29
    replace ha := ha.mono hle29
    replace hd1 := hd1.mono hle29
    obtain ⟨nq, Aq, qn, qc, nr, Ar, rn, rc, rfl, hq, hr⟩ := hp29
    refine stepT_d rfl rfl rfl rfl (does_move rfl rfl) ?_
    refine stepT_d rfl rfl rfl rfl (does_extract rfl rfl rfl) ?_
    refine stepT_d rfl rfl rfl rfl (does_extract rfl rfl rfl) ?_
    refine stepT_store 3 rfl rfl rfl rfl rfl rfl rfl zf89 rfl rfl hst0 hst rfl (by first | (simp [uN_length]; omega) | simp) hlesum (by repeat (first | exact zR _ | apply zC | apply zD)) ?_ ?_
    clear hst
    intro w30 hst
    simp only [zL, splice, Nat.reduceAdd] at hst
    refine stepT_tail ?_
    refine stepK_store 2 rfl rfl rfl rfl rfl rfl zf89 rfl rfl hst rfl (by first | (simp [uN_length]; omega) | simp) ?_
    clear hst
    intro w31 hst
    simp only [zL, splice, Nat.reduceAdd] at hst
    refine wpK_nil ?_
    refine join_end (((nq, Aq, qn, qc), (nr, Ar, rn, rc), (b3, b4))) ?_ ?_
    exact ⟨rfl, rfl, rfl, trivial⟩
    exact ⟨_, by first | exact hst | exact hst.perm (.cons _ (.cons _ (.swap ..))), hq, hr⟩
    exact stepT_no
    exact stepT_no
    exact stepT_no
    exact stepT_no
    refine stepT_alloc rfl rfl rfl rfl rfl zf87 rfl hst0 hst (Mem.le.refl _) (by repeat (first | exact zR _ | apply zC | apply zD)) ?_ ?_
    clear hst
    intro b3 w32 hst
    refine stepT_call rfl rfl rfl rfl rfl rfl hst0 hst (Mem.le.refl _) (by repeat (first | exact zR _ | apply zC | apply zD)) (snum_den hst.agree ha) ?_ ?_
    clear hst
    intro v33 g33 w33 hst hle33 hcs33 hp33
    have hlesum := hle33
    replace ha := ha.mono hle33
    obtain ⟨nd1, D1, dn1, dc1, rfl, hd1⟩ := hp33
    have l3 := hd1.len hfa.2
    refine stepT_call rfl rfl rfl rfl rfl rfl hst0 hst hlesum (by repeat (first | exact zR _ | apply zC | apply zD)) (snum_QuoRem hst.agree ha.1 hd1 (by have := r.den_nz; omega) (by omega) (by omega)) ?_ ?_
    clear hst
    intro v34 g34 w34 hst hle34 hcs34 hp34
    replace hlesum := Mem.le.trans hlesum hle34
    replace ha := ha.mono hle34
    replace hd1 := hd1.mono hle34
    obtain ⟨nq, Aq, qn, qc, nr, Ar, rn, rc, rfl, hq, hr⟩ := hp34
    refine stepT_d rfl rfl rfl rfl (does_move rfl rfl) ?_
    refine stepT_d rfl rfl rfl rfl (does_extract rfl rfl rfl) ?_
    refine stepT_d rfl rfl rfl rfl (does_extract rfl rfl rfl) ?_
    refine stepT_alloc rfl rfl rfl rfl rfl zf87 rfl hst0 hst hlesum (by repeat (first | exact zR _ | apply zC | apply zD)) ?_ ?_
    clear hst
    intro b4 w35 hst
    refine stepT_store 2 rfl rfl rfl rfl rfl rfl rfl zf89 rfl rfl hst0 hst rfl (by first | (simp [uN_length]; omega) | simp) hlesum (by repeat (first | exact zR _ | apply zC | apply zD)) ?_ ?_
    clear hst
    intro w36 hst
    simp only [zL, splice, Nat.reduceAdd] at hst
    refine stepT_tail ?_
    refine stepK_store 3 rfl rfl rfl rfl rfl rfl zf89 rfl rfl hst rfl (by first | (simp [uN_length]; omega) | simp) ?_
    clear hst
    intro w37 hst
    simp only [zL, splice, Nat.reduceAdd] at hst
    refine wpK_nil ?_
    refine join_end (((nq, Aq, qn, qc), (nr, Ar, rn, rc), (b3, b4))) ?_ ?_
    exact ⟨rfl, rfl, rfl, trivial⟩
    exact ⟨_, by first | exact hst | exact hst.perm (.cons _ (.cons _ (.swap ..))), hq, hr⟩
    exact stepT_no
    exact stepT_no
    refine stepT_alloc rfl rfl rfl rfl rfl zf87 rfl hst0 hst hlesum (by repeat (first | exact zR _ | apply zC | apply zD)) ?_ ?_
    clear hst
    intro b4 w38 hst
    refine stepT_call rfl rfl rfl rfl rfl rfl hst0 hst hlesum (by repeat (first | exact zR _ | apply zC | apply zD)) (snum_QuoRem hst.agree ha.1 hd1 (by have := r.den_nz; omega) (by omega) (by omega)) ?_ ?_
    clear hst
    intro v39 g39 w39 hst hle39 hcs39 hp39
    replace hlesum := Mem.le.trans hlesum hle39
    replace ha := ha.mono hle39
    replace hd1 := hd1.mono hle39
    obtain ⟨nq, Aq, qn, qc, nr, Ar, rn, rc, rfl, hq, hr⟩ := hp39
    refine stepT_d rfl rfl rfl rfl (does_move rfl rfl) ?_
    refine stepT_d rfl rfl rfl rfl (does_extract rfl rfl rfl) ?_
    refine stepT_d rfl rfl rfl rfl (does_extract rfl rfl rfl) ?_
    refine stepT_store 2 rfl rfl rfl rfl rfl rfl rfl zf89 rfl rfl hst0 hst rfl (by first | (simp [uN_length]; omega) | simp) hlesum (by repeat (first | exact zR _ | apply zC | apply zD)) ?_ ?_
    clear hst
    intro w40 hst
    simp only [zL, splice, Nat.reduceAdd] at hst
    refine stepT_tail ?_
    refine stepK_store 3 rfl rfl rfl rfl rfl rfl zf89 rfl rfl hst rfl (by first | (simp [uN_length]; omega) | simp) ?_
    clear hst
    intro w41 hst
    simp only [zL, splice, Nat.reduceAdd] at hst
    refine wpK_nil ?_
    refine join_end (((nq, Aq, qn, qc), (nr, Ar, rn, rc), (b3, b4))) ?_ ?_
    exact ⟨rfl, rfl, rfl, trivial⟩
    exact ⟨_, by first | exact hst | exact hst.perm (.cons _ (.cons _ (.swap ..))), hq, hr⟩
    exact stepT_no
    exact stepT_no
    exact stepT_no
    refine stepT_alloc rfl rfl rfl rfl rfl zf87 rfl hst0 hst (Mem.le.refl _) (by repeat (first | exact zR _ | apply zC | apply zD)) ?_ ?_
    clear hst
    intro b4 w42 hst
    refine stepT_call rfl rfl rfl rfl rfl rfl hst0 hst (Mem.le.refl _) (by repeat (first | exact zR _ | apply zC | apply zD)) (snum_den hst.agree ha) ?_ ?_
    clear hst
    intro v43 g43 w43 hst hle43 hcs43 hp43
    have hlesum := hle43
    replace ha := ha.mono hle43
    obtain ⟨nd1, D1, dn1, dc1, rfl, hd1⟩ := hp43
    have l3 := hd1.len hfa.2
    refine stepT_call rfl rfl rfl rfl rfl rfl hst0 hst hlesum (by repeat (first | exact zR _ | apply zC | apply zD)) (snum_QuoRem hst.agree ha.1 hd1 (by have := r.den_nz; omega) (by omega) (by omega)) ?_ ?_
    clear hst
    intro v44 g44 w44 hst hle44 hcs44 hp44
    replace hlesum := Mem.le.trans hlesum hle44
    replace ha := ha.mono hle44
    replace hd1 := hd1.mono hle44
    obtain ⟨nq, Aq, qn, qc, nr, Ar, rn, rc, rfl, hq, hr⟩ := hp44
    refine stepT_d rfl rfl rfl rfl (does_move rfl rfl) ?_
    refine stepT_d rfl rfl rfl rfl (does_extract rfl rfl rfl) ?_
    refine stepT_d rfl rfl rfl rfl (does_extract rfl rfl rfl) ?_
    refine stepT_store 2 rfl rfl rfl rfl rfl rfl rfl zf89 rfl rfl hst0 hst rfl (by first | (simp [uN_length]; omega) | simp) hlesum (by repeat (first | exact zR _ | apply zC | apply zD)) ?_ ?_
    clear hst
    intro w45 hst
    simp only [zL, splice, Nat.reduceAdd] at hst
    refine stepT_tail ?_
    refine stepK_store 3 rfl rfl rfl rfl rfl rfl zf89 rfl rfl hst rfl (by first | (simp [uN_length]; omega) | simp) ?_
    clear hst
    intro w46 hst
    simp only [zL, splice, Nat.reduceAdd] at hst
    refine wpK_nil ?_
    refine join_end (((nq, Aq, qn, qc), (nr, Ar, rn, rc), (b3, b4))) ?_ ?_
    exact ⟨rfl, rfl, rfl, trivial⟩
    exact ⟨_, by first | exact hst | exact hst.perm (.cons _ (.cons _ (.swap ..))), hq, hr⟩
    exact stepT_no
    exact stepT_no
    exact stepT_no
    exact stepT_no
    refine stepT_alloc rfl rfl rfl rfl rfl zf87 rfl hst0 hst (Mem.le.refl _) (by repeat (first | exact zR _ | apply zC | apply zD)) ?_ ?_
    clear hst
    intro b4 w47 hst
    refine stepT_call rfl rfl rfl rfl rfl rfl hst0 hst (Mem.le.refl _) (by repeat (first | exact zR _ | apply zC | apply zD)) (snum_den hst.agree ha) ?_ ?_
    clear hst
    intro v48 g48 w48 hst hle48 hcs48 hp48
    have hlesum := hle48
    replace ha := ha.mono hle48
    obtain ⟨nd1, D1, dn1, dc1, rfl, hd1⟩ := hp48
    have l3 := hd1.len hfa.2
    refine stepT_call rfl rfl rfl rfl rfl rfl hst0 hst hlesum (by repeat (first | exact zR _ | apply zC | apply zD)) (snum_QuoRem hst.agree ha.1 hd1 (by have := r.den_nz; omega) (by omega) (by omega)) ?_ ?_
    clear hst
    intro v49 g49 w49 hst hle49 hcs49 hp49
    replace hlesum := Mem.le.trans hlesum hle49
    replace ha := ha.mono hle49
    replace hd1 := hd1.mono hle49
    obtain ⟨nq, Aq, qn, qc, nr, Ar, rn, rc, rfl, hq, hr⟩ := hp49
    refine stepT_d rfl rfl rfl rfl (does_move rfl rfl) ?_
    refine stepT_d rfl rfl rfl rfl (does_extract rfl rfl rfl) ?_
    refine stepT_d rfl rfl rfl rfl (does_extract rfl rfl rfl) ?_
    refine stepT_alloc rfl rfl rfl rfl rfl zf87 rfl hst0 hst hlesum (by repeat (first | exact zR _ | apply zC | apply zD)) ?_ ?_
    clear hst
    intro b3 w50 hst
    refine stepT_store 3 rfl rfl rfl rfl rfl rfl rfl zf89 rfl rfl hst0 hst rfl (by first | (simp [uN_length]; omega) | simp) hlesum (by repeat (first | exact zR _ | apply zC | apply zD)) ?_ ?_
    clear hst
    intro w51 hst
    simp only [zL, splice, Nat.reduceAdd] at hst
    refine stepT_tail ?_
    refine stepK_store 2 rfl rfl rfl rfl rfl rfl zf89 rfl rfl hst rfl (by first | (simp [uN_length]; omega) | simp) ?_
    clear hst
    intro w52 hst
    simp only [zL, splice, Nat.reduceAdd] at hst
    refine wpK_nil ?_
    refine join_end (((nq, Aq, qn, qc), (nr, Ar, rn, rc), (b3, b4))) ?_ ?_
    exact ⟨rfl, rfl, rfl, trivial⟩
    exact ⟨_, by first | exact hst | exact hst.perm (.cons _ (.cons _ (.swap ..))), hq, hr⟩
    exact stepT_no
    exact stepT_no
    refine stepT_alloc rfl rfl rfl rfl rfl zf87 rfl hst0 hst hlesum (by repeat (first | exact zR _ | apply zC | apply zD)) ?_ ?_
    clear hst
    intro b3 w53 hst
    refine stepT_call rfl rfl rfl rfl rfl rfl hst0 hst hlesum (by repeat (first | exact zR _ | apply zC | apply zD)) (snum_QuoRem hst.agree ha.1 hd1 (by have := r.den_nz; omega) (by omega) (by omega)) ?_ ?_
    clear hst
    intro v54 g54 w54 hst hle54 hcs54 hp54
    replace hlesum := Mem.le.trans hlesum hle54
    replace ha := ha.mono hle54
    replace hd1 := hd1.mono hle54
    obtain ⟨nq, Aq, qn, qc, nr, Ar, rn, rc, rfl, hq, hr⟩ := hp54
    refine stepT_d rfl rfl rfl rfl (does_move rfl rfl) ?_
    refine stepT_d rfl rfl rfl rfl (does_extract rfl rfl rfl) ?_
    refine stepT_d rfl rfl rfl rfl (does_extract rfl rfl rfl) ?_
    refine stepT_store 3 rfl rfl rfl rfl rfl rfl rfl zf89 rfl rfl hst0 hst rfl (by first | (simp [uN_length]; omega) | simp) hlesum (by repeat (first | exact zR _ | apply zC | apply zD)) ?_ ?_
    clear hst
    intro w55 hst
    simp only [zL, splice, Nat.reduceAdd] at hst
    refine stepT_tail ?_
    refine stepK_store 2 rfl rfl rfl rfl rfl rfl zf89 rfl rfl hst rfl (by first | (simp [uN_length]; omega) | simp) ?_
    clear hst
    intro w56 hst
    simp only [zL, splice, Nat.reduceAdd] at hst
    refine wpK_nil ?_
    refine join_end (((nq, Aq, qn, qc), (nr, Ar, rn, rc), (b3, b4))) ?_ ?_
    exact ⟨rfl, rfl, rfl, trivial⟩
    exact ⟨_, by first | exact hst | exact hst.perm (.cons _ (.cons _ (.swap ..))), hq, hr⟩
    exact stepT_no
    exact stepT_no
    exact stepT_no
    refine stepT_alloc rfl rfl rfl rfl rfl zf87 rfl hst0 hst (Mem.le.refl _) (by repeat (first | exact zR _ | apply zC | apply zD)) ?_ ?_
    clear hst
    intro b3 w57 hst
    refine stepT_call rfl rfl rfl rfl rfl rfl hst0 hst (Mem.le.refl _) (by repeat (first | exact zR _ | apply zC | apply zD)) (snum_den hst.agree ha) ?_ ?_
    clear hst
    intro v58 g58 w58 hst hle58 hcs58 hp58
    have hlesum := hle58
    replace ha := ha.mono hle58
    obtain ⟨nd1, D1, dn1, dc1, rfl, hd1⟩ := hp58
    have l3 := hd1.len hfa.2
    refine stepT_call rfl rfl rfl rfl rfl rfl hst0 hst hlesum (by repeat (first | exact zR _ | apply zC | apply zD)) (snum_QuoRem hst.agree ha.1 hd1 (by have := r.den_nz; omega) (by omega) (by omega)) ?_ ?_
    clear hst
    intro v59 g59 w59 hst hle59 hcs59 hp59
    replace hlesum := Mem.le.trans hlesum hle59
    replace ha := ha.mono hle59
    replace hd1 := hd1.mono hle59
    obtain ⟨nq, Aq, qn, qc, nr, Ar, rn, rc, rfl, hq, hr⟩ := hp59
    refine stepT_d rfl rfl rfl rfl (does_move rfl rfl) ?_
    refine stepT_d rfl rfl rfl rfl (does_extract rfl rfl rfl) ?_
    refine stepT_d rfl rfl rfl rfl (does_extract rfl rfl rfl) ?_
    refine stepT_store 3 rfl rfl rfl rfl rfl rfl rfl zf89 rfl rfl hst0 hst rfl (by first | (simp [uN_length]; omega) | simp) hlesum (by repeat (first | exact zR _ | apply zC | apply zD)) ?_ ?_
    clear hst
    intro w60 hst
    simp only [zL, splice, Nat.reduceAdd] at hst
    refine stepT_tail ?_
    refine stepK_store 2 rfl rfl rfl rfl rfl rfl zf89 rfl rfl hst rfl (by first | (simp [uN_length]; omega) | simp) ?_
    clear hst
    intro w61 hst
    simp only [zL, splice, Nat.reduceAdd] at hst
    refine wpK_nil ?_
    refine join_end (((nq, Aq, qn, qc), (nr, Ar, rn, rc), (b3, b4))) ?_ ?_
    exact ⟨rfl, rfl, rfl, trivial⟩
    exact ⟨_, by first | exact hst | exact hst.perm (.cons _ (.cons _ (.swap ..))), hq, hr⟩
    exact stepT_no
    exact stepT_no
    exact stepT_no
    exact stepT_no
    exact stepT_no
  case d3 =>
    clear hst
    rintro ⟨⟨nq, Aq, qn, qc⟩, ⟨nr, Ar, rn, rc⟩, ⟨b3, b4⟩⟩ w2 ⟨g2, hst, hq, hr⟩
    simp only
    have hql : qn ≤ n := hq.1.len (Nat.lt_of_le_of_lt (by rw [Int.natAbs_tdiv]; exact Nat.div_le_self _ _) ha.1.1.lt)
    refine cp_seq ?_
    refine zsr ?_
    refine stepK_d rfl rfl rfl hst (does_fieldAddr rfl zf92 rfl) ?_
    refine stepK_d rfl rfl rfl hst (does_load_ownL 3 rfl (by kernel_rfl) rfl rfl rfl) ?_
    refine znt ?_
    refine cp_cond rfl ?_ ?_
    intro c14
    have hneg : (r.num.tmod (r.den : Int)) < 0 := of_decide_eq_true (hr.2.symm.trans c14)
    refine cp_seq ?_
    refine cp_drawn (by kernel_rfl) 3 [(0, true), (1, false), (2, false)] _ rfl (by kernel_rfl) (by kernel_rfl) (by kernel_rfl) (fun _ _ _ _ _ h => h) _ (hst.drew) ?_
    have hst0 := hst.drew
    clear hst
    have hst := hst0
    refine stepD_d rfl rfl rfl rfl (does_load_ownN 2 rfl (by kernel_rfl) zf89 rfl rfl rfl) ?_
    refine stepD_call rfl rfl rfl rfl rfl rfl hst (snum_FromInt hst.agree (x := 1) (by decide) (by decide)) (fun _ _ h hle => St.older h hle (by simp) hst0.ext hst0.le) ?_
    clear hst
    intro v62 g62 w62 hst hle62 hcs62 hp62
    have hlesum := hle62
    replace hq := hq.mono hle62
    replace hr := hr.mono hle62
    obtain ⟨_, _, on, _, rfl, h1⟩ := hp62
    have hol : on ≤ 1 := h1.len (by decide)
    refine stepD_call rfl rfl rfl rfl rfl rfl hst (snum_Sub hst.agree hq h1 (by omega) (by omega)) (fun _ _ h hle => St.older h (Mem.le.trans hlesum hle) (by simp) hst0.ext hst0.le) ?_
    clear hst
    intro v63 g63 w63 hst hle63 hcs63 hp63
    replace hlesum := Mem.le.trans hlesum hle63
    replace hq := hq.mono hle63
    replace hr := hr.mono hle63
    replace h1 := h1.mono hle63
    obtain ⟨_, _, _, _, rfl, h9⟩ := hp63
    refine stepD_tail ?_
    refine stepK_store 1 rfl rfl rfl rfl rfl rfl zf89 rfl rfl hst rfl (by first | (simp [uN_length]; omega) | simp) ?_
    clear hst
    intro w64 hst
    simp only [zL, splice, Nat.reduceAdd] at hst
    refine zn5 ?_
    refine ret1c (k := 1) rfl rfl (by kernel_rfl) (by kernel_rfl) rfl hst rfl ?_
    exact ⟨_, _, _, _, rfl, h9.to (by rw [floor_tdiv, if_pos hneg])⟩
    intro c14
    have hneg : ¬ (r.num.tmod (r.den : Int)) < 0 := of_decide_eq_false (hr.2.symm.trans c14)
    refine zk4 ?_
    refine stepK_d rfl rfl rfl hst (does_load_ownN 2 rfl (by kernel_rfl) zf89 rfl rfl rfl) ?_
    refine stepK_store 1 rfl rfl rfl rfl rfl rfl zf89 rfl rfl hst rfl (by first | (simp [uN_length]; omega) | simp) ?_
    clear hst
    intro w65 hst
    simp only [zL, splice, Nat.reduceAdd] at hst
    refine znt ?_
    refine cp_ret ?_
    refine ret1c (k := 1) rfl rfl (by kernel_rfl) (by kernel_rfl) rfl hst rfl ?_
    exact ⟨_, _, _, _, rfl, hq.to (by rw [floor_tdiv, if_neg hneg])⟩

end Go.Proofs.YtnbcedkpkcgmkaaGreatDoor
