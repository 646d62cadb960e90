/- A helper of the claim: general lemmas and walks of functions, printed by a program of this session. Conditions: none. -/
import Derived.Test.YtbamjcfdlgnicaaGreatDoorFA
import Derived.Test.YtbamjcfdlgnicaaGreatDoorF9
import Derived.Test.YtbamjcfdlgnicaaGreatDoorPX
import Derived.Test.YtbamjcfdlgnicaaGreatDoorProg
import Derived.Test.YtbamjcfdlgnicaaGreatDoorFC
import Derived.Test.YtbamjcfdlgnicaaGreatDoorPF
import Derived.Test.YtbamjcfdlgnicaaGreatDoorF0
namespace Go.Proofs.YtbamjcfdlgnicaaGreatDoor
open Go Go.RowKit Go.Proofs.Vc
set_option linter.unusedVariables false
set_option linter.unusedSimpArgs false

set_option maxHeartbeats 1000000 in
theorem sref_Gcd {g : Mem} {w : World} (hag : Agree g w) {na nb : Bool} {A B : Option Addr} {n c m d : Nat} {r : Rat} (ha : IsQ g na A n nb B m r) {na2 nb2 : Bool} {A2 B2 : Option Addr} {n2 c2 m2 d2 : Nat} {x : Rat} (hb : IsQ g na2 A2 n2 nb2 B2 m2 x) (hfa : FitH r) (hfb : FitH x) :
    CallTo Tryz.prog 80 #[.agg #[.bool na, .slice A n c, .bool nb, .slice B m d], .agg #[.bool na2, .slice A2 n2 c2, .bool nb2, .slice B2 m2 d2]] w (Ret w g fun v g => ∃ na A n c nb B m d, v = .agg #[.bool na, .slice A n c, .bool nb, .slice B m d] ∧ IsQ g na A n nb B m (gcdR r x)) := by
  refine CallTo.enter (vs := [.agg #[.bool na, .slice A n c, .bool nb, .slice B m d], .agg #[.bool na2, .slice A2 n2 c2, .bool nb2, .slice B2 m2 d2]]) (by kernel_rfl : Tryz.prog.funcs[80]? = some Tryz.f80) (by kernel_rfl) rfl rfl rfl ?_
  have hst := St.init hag
  have l1 := ha.1.len hfa.1
  have l2 := hb.1.len hfb.1
  refine zsr ?_
  refine stepK_box rfl rfl rfl rfl rfl rfl hst ?_
  clear hst
  intro b2 w1 hst
  refine stepK_box rfl rfl rfl rfl rfl rfl hst ?_
  clear hst
  intro b3 w2 hst
  refine stepK_alloc rfl rfl rfl rfl zf121 rfl hst ?_
  clear hst
  intro b4 w3 hst
  refine znt ?_
  refine cp_join (ι := (Bool × Option Addr × Nat × Nat) × Nat) (fun ((nd5, D5, dn5, dc5), b5) => [(2, .pointer (some ⟨b2, 0, none⟩)), (3, .pointer (some ⟨b3, 0, none⟩)), (4, .pointer (some ⟨b4, 0, none⟩)), (5, .pointer (some ⟨b5, 0, none⟩))]) (fun ((nd5, D5, dn5, dc5), b5) w2 => ∃ g2, St w [] g g2 [(b2, .cells #[.bool na, .slice A n c, .bool nb, .slice B m d] 30 (0, 0)), (b3, .cells #[.bool na2, .slice A2 n2 c2, .bool nb2, .slice B2 m2 d2] 30 (0, 0)), (b4, .cells #[.bool false, .slice none 0 0, .bool false, .slice none 0 0] 30 (0, 0)), (b5, .cells #[.bool nd5, .slice D5 dn5 dc5] 28 (0, 0))] w2 ∧ IsQ g2 na A n nb B m r ∧ IsQ g2 na2 A2 n2 nb2 B2 m2 x ∧ IsZ g2 nd5 D5 dn5 ((Nat.gcd (r.num * (x.den : Int)).natAbs (x.num * (r.den : Int)).natAbs : Nat) : Int)) ?c4 ?d4
  case c4 =>
    refine cp_drawnT (by kernel_rfl) 12 (.d 0 (.d 1 (.d 2 (.d 5 (.d 6 (.d 7 (.e 3 (.e 4 (.e 8 (.e 9 (.e 10 (.e 11 .fin .no) (.e 11 (.e 10 .fin .no) .no)) (.e 11 (.e 9 (.e 10 .fin .no) .no) .no)) (.e 11 (.e 8 (.e 9 (.e 10 .fin .no) .no) .no) .no)) (.e 11 (.e 4 (.e 8 (.e 9 (.e 10 .fin .no) .no) .no) .no) .no)) (.e 11 (.e 3 (.e 4 (.e 8 (.e 9 (.e 10 .fin .no) .no) .no) .no) .no) .no)))))))) _ rfl (by kernel_rfl) (by kernel_rfl) (by kernel_rfl) (fun _ _ _ _ _ h => h) _ hst.drew ?_
    have hst0 := hst.drew
    have hst9 := hst.drew
    clear hst
    have hst := hst9
    clear hst9
    refine stepT_d rfl rfl rfl rfl (does_fieldAddr rfl zf124 rfl) ?_
    refine stepT_d rfl rfl rfl rfl (does_load_ownN 0 rfl (by kernel_rfl) zf103 rfl rfl rfl) ?_
    refine stepT_d rfl rfl rfl rfl (does_load_ownN 1 rfl (by kernel_rfl) zf119 rfl rfl rfl) ?_
    refine stepT_d rfl rfl rfl rfl (does_fieldAddr rfl zf124 rfl) ?_
    refine stepT_d rfl rfl rfl rfl (does_load_ownN 1 rfl (by kernel_rfl) zf103 rfl rfl rfl) ?_
    refine stepT_d rfl rfl rfl rfl (does_load_ownN 0 rfl (by kernel_rfl) zf119 rfl rfl rfl) ?_
    refine stepT_call rfl rfl rfl rfl rfl rfl hst0 hst (Mem.le.refl _) (by repeat (first | exact zR _ | apply zC | apply zD)) (snum_Den hst.agree hb) ?_ ?_
    clear hst
    intro v5 g5 w5 hst hle5 hcs5 hp5
    have hlesum := hle5
    replace ha := ha.mono hle5
    replace hb := hb.mono hle5
    obtain ⟨nd1, D1, dn1, dc1, rfl, hd1⟩ := hp5
    have l3 := hd1.len hfb.2
    refine stepT_call rfl rfl rfl rfl rfl rfl hst0 hst hlesum (by repeat (first | exact zR _ | apply zC | apply zD)) (snum_Mul hst.agree ha.1 hd1 (by omega) (by omega)) ?_ ?_
    clear hst
    intro v6 g6 w6 hst hle6 hcs6 hp6
    replace hlesum := Mem.le.trans hlesum hle6
    replace ha := ha.mono hle6
    replace hb := hb.mono hle6
    replace hd1 := hd1.mono hle6
    obtain ⟨nd2, D2, dn2, dc2, rfl, hd2⟩ := hp6
    have l4 := hZmul hd2 hfa.1 hfb.2
    refine stepT_call rfl rfl rfl rfl rfl rfl hst0 hst hlesum (by repeat (first | exact zR _ | apply zC | apply zD)) (snum_Den hst.agree ha) ?_ ?_
    clear hst
    intro v7 g7 w7 hst hle7 hcs7 hp7
    replace hlesum := Mem.le.trans hlesum hle7
    replace ha := ha.mono hle7
    replace hb := hb.mono hle7
    replace hd1 := hd1.mono hle7
    replace hd2 := hd2.mono hle7
    obtain ⟨nd3, D3, dn3, dc3, rfl, hd3⟩ := hp7
    have l5 := hd3.len hfa.2
    refine stepT_call rfl rfl rfl rfl rfl rfl hst0 hst hlesum (by repeat (first | exact zR _ | apply zC | apply zD)) (snum_Mul hst.agree hb.1 hd3 (by omega) (by omega)) ?_ ?_
    clear hst
    intro v8 g8 w8 hst hle8 hcs8 hp8
    replace hlesum := Mem.le.trans hlesum hle8
    replace ha := ha.mono hle8
    replace hb := hb.mono hle8
    replace hd1 := hd1.mono hle8
    replace hd2 := hd2.mono hle8
    replace hd3 := hd3.mono hle8
    obtain ⟨nd4, D4, dn4, dc4, rfl, hd4⟩ := hp8
    have l6 := hZmul hd4 hfb.1 hfa.2
    refine stepT_call rfl rfl rfl rfl rfl rfl hst0 hst hlesum (by repeat (first | exact zR _ | apply zC | apply zD)) (snum_Gcd hst.agree hd2 hd4 (by omega) (by omega)) ?_ ?_
    clear hst
    intro v9 g9 w9 hst hle9 hcs9 hp9
    replace hlesum := Mem.le.trans hlesum hle9
    replace ha := ha.mono hle9
    replace hb := hb.mono hle9
    replace hd1 := hd1.mono hle9
    replace hd2 := hd2.mono hle9
    replace hd3 := hd3.mono hle9
    replace hd4 := hd4.mono hle9
    obtain ⟨nd5, D5, dn5, dc5, rfl, hd5⟩ := hp9
    refine stepT_alloc rfl rfl rfl rfl rfl zf101 rfl hst0 hst hlesum (by repeat (first | exact zR _ | apply zC | apply zD)) ?_ ?_
    clear hst
    intro b5 w10 hst
    refine stepT_tail ?_
    refine stepK_store 3 rfl rfl rfl rfl rfl rfl zf103 rfl rfl hst rfl (by first | (simp [uN_length]; omega) | simp) ?_
    clear hst
    intro w11 hst
    simp only [zL, splice, Nat.reduceAdd] at hst
    refine wpK_nil ?_
    refine join_end (((nd5, D5, dn5, dc5), b5)) ?_ ?_
    exact ⟨rfl, rfl, rfl, rfl, trivial⟩
    exact ⟨_, hst, ha, hb, hd5⟩
    exact stepT_no
    refine stepT_alloc rfl rfl rfl rfl rfl zf101 rfl hst0 hst hlesum (by repeat (first | exact zR _ | apply zC | apply zD)) ?_ ?_
    clear hst
    intro b5 w12 hst
    refine stepT_call rfl rfl rfl rfl rfl rfl hst0 hst hlesum (by repeat (first | exact zR _ | apply zC | apply zD)) (snum_Gcd hst.agree hd2 hd4 (by omega) (by omega)) ?_ ?_
    clear hst
    intro v13 g13 w13 hst hle13 hcs13 hp13
    replace hlesum := Mem.le.trans hlesum hle13
    replace ha := ha.mono hle13
    replace hb := hb.mono hle13
    replace hd1 := hd1.mono hle13
    replace hd2 := hd2.mono hle13
    replace hd3 := hd3.mono hle13
    replace hd4 := hd4.mono hle13
    obtain ⟨nd5, D5, dn5, dc5, rfl, hd5⟩ := hp13
    refine stepT_tail ?_
    refine stepK_store 3 rfl rfl rfl rfl rfl rfl zf103 rfl rfl hst rfl (by first | (simp [uN_length]; omega) | simp) ?_
    clear hst
    intro w14 hst
    simp only [zL, splice, Nat.reduceAdd] at hst
    refine wpK_nil ?_
    refine join_end (((nd5, D5, dn5, dc5), b5)) ?_ ?_
    exact ⟨rfl, rfl, rfl, rfl, trivial⟩
    exact ⟨_, hst, ha, hb, hd5⟩
    exact stepT_no
    exact stepT_no
    refine stepT_alloc rfl rfl rfl rfl rfl zf101 rfl hst0 hst hlesum (by repeat (first | exact zR _ | apply zC | apply zD)) ?_ ?_
    clear hst
    intro b5 w15 hst
    refine stepT_call rfl rfl rfl rfl rfl rfl hst0 hst hlesum (by repeat (first | exact zR _ | apply zC | apply zD)) (snum_Mul hst.agree hb.1 hd3 (by omega) (by omega)) ?_ ?_
    clear hst
    intro v16 g16 w16 hst hle16 hcs16 hp16
    replace hlesum := Mem.le.trans hlesum hle16
    replace ha := ha.mono hle16
    replace hb := hb.mono hle16
    replace hd1 := hd1.mono hle16
    replace hd2 := hd2.mono hle16
    replace hd3 := hd3.mono hle16
    obtain ⟨nd4, D4, dn4, dc4, rfl, hd4⟩ := hp16
    have l6 := hZmul hd4 hfb.1 hfa.2
    refine stepT_call rfl rfl rfl rfl rfl rfl hst0 hst hlesum (by repeat (first | exact zR _ | apply zC | apply zD)) (snum_Gcd hst.agree hd2 hd4 (by omega) (by omega)) ?_ ?_
    clear hst
    intro v17 g17 w17 hst hle17 hcs17 hp17
    replace hlesum := Mem.le.trans hlesum hle17
    replace ha := ha.mono hle17
    replace hb := hb.mono hle17
    replace hd1 := hd1.mono hle17
    replace hd2 := hd2.mono hle17
    replace hd3 := hd3.mono hle17
    replace hd4 := hd4.mono hle17
    obtain ⟨nd5, D5, dn5, dc5, rfl, hd5⟩ := hp17
    refine stepT_tail ?_
    refine stepK_store 3 rfl rfl rfl rfl rfl rfl zf103 rfl rfl hst rfl (by first | (simp [uN_length]; omega) | simp) ?_
    clear hst
    intro w18 hst
    simp only [zL, splice, Nat.reduceAdd] at hst
    refine wpK_nil ?_
    refine join_end (((nd5, D5, dn5, dc5), b5)) ?_ ?_
    exact ⟨rfl, rfl, rfl, rfl, trivial⟩
    exact ⟨_, hst, ha, hb, hd5⟩
    exact stepT_no
    exact stepT_no
    exact stepT_no
    refine stepT_alloc rfl rfl rfl rfl rfl zf101 rfl hst0 hst hlesum (by repeat (first | exact zR _ | apply zC | apply zD)) ?_ ?_
    clear hst
    intro b5 w19 hst
    refine stepT_call rfl rfl rfl rfl rfl rfl hst0 hst hlesum (by repeat (first | exact zR _ | apply zC | apply zD)) (snum_Den hst.agree ha) ?_ ?_
    clear hst
    intro v20 g20 w20 hst hle20 hcs20 hp20
    replace hlesum := Mem.le.trans hlesum hle20
    replace ha := ha.mono hle20
    replace hb := hb.mono hle20
    replace hd1 := hd1.mono hle20
    replace hd2 := hd2.mono hle20
    obtain ⟨nd3, D3, dn3, dc3, rfl, hd3⟩ := hp20
    have l5 := hd3.len hfa.2
    refine stepT_call rfl rfl rfl rfl rfl rfl hst0 hst hlesum (by repeat (first | exact zR _ | apply zC | apply zD)) (snum_Mul hst.agree hb.1 hd3 (by omega) (by omega)) ?_ ?_
    clear hst
    intro v21 g21 w21 hst hle21 hcs21 hp21
    replace hlesum := Mem.le.trans hlesum hle21
    replace ha := ha.mono hle21
    replace hb := hb.mono hle21
    replace hd1 := hd1.mono hle21
    replace hd2 := hd2.mono hle21
    replace hd3 := hd3.mono hle21
    obtain ⟨nd4, D4, dn4, dc4, rfl, hd4⟩ := hp21
    have l6 := hZmul hd4 hfb.1 hfa.2
    refine stepT_call rfl rfl rfl rfl rfl rfl hst0 hst hlesum (by repeat (first | exact zR _ | apply zC | apply zD)) (snum_Gcd hst.agree hd2 hd4 (by omega) (by omega)) ?_ ?_
    clear hst
    intro v22 g22 w22 hst hle22 hcs22 hp22
    replace hlesum := Mem.le.trans hlesum hle22
    replace ha := ha.mono hle22
    replace hb := hb.mono hle22
    replace hd1 := hd1.mono hle22
    replace hd2 := hd2.mono hle22
    replace hd3 := hd3.mono hle22
    replace hd4 := hd4.mono hle22
    obtain ⟨nd5, D5, dn5, dc5, rfl, hd5⟩ := hp22
    refine stepT_tail ?_
    refine stepK_store 3 rfl rfl rfl rfl rfl rfl zf103 rfl rfl hst rfl (by first | (simp [uN_length]; omega) | simp) ?_
    clear hst
    intro w23 hst
    simp only [zL, splice, Nat.reduceAdd] at hst
    refine wpK_nil ?_
    refine join_end (((nd5, D5, dn5, dc5), b5)) ?_ ?_
    exact ⟨rfl, rfl, rfl, rfl, trivial⟩
    exact ⟨_, hst, ha, hb, hd5⟩
    exact stepT_no
    exact stepT_no
    exact stepT_no
    exact stepT_no
    refine stepT_alloc rfl rfl rfl rfl rfl zf101 rfl hst0 hst hlesum (by repeat (first | exact zR _ | apply zC | apply zD)) ?_ ?_
    clear hst
    intro b5 w24 hst
    refine stepT_call rfl rfl rfl rfl rfl rfl hst0 hst hlesum (by repeat (first | exact zR _ | apply zC | apply zD)) (snum_Mul hst.agree ha.1 hd1 (by omega) (by omega)) ?_ ?_
    clear hst
    intro v25 g25 w25 hst hle25 hcs25 hp25
    replace hlesum := Mem.le.trans hlesum hle25
    replace ha := ha.mono hle25
    replace hb := hb.mono hle25
    replace hd1 := hd1.mono hle25
    obtain ⟨nd2, D2, dn2, dc2, rfl, hd2⟩ := hp25
    have l4 := hZmul hd2 hfa.1 hfb.2
    refine stepT_call rfl rfl rfl rfl rfl rfl hst0 hst hlesum (by repeat (first | exact zR _ | apply zC | apply zD)) (snum_Den hst.agree ha) ?_ ?_
    clear hst
    intro v26 g26 w26 hst hle26 hcs26 hp26
    replace hlesum := Mem.le.trans hlesum hle26
    replace ha := ha.mono hle26
    replace hb := hb.mono hle26
    replace hd1 := hd1.mono hle26
    replace hd2 := hd2.mono hle26
    obtain ⟨nd3, D3, dn3, dc3, rfl, hd3⟩ := hp26
    have l5 := hd3.len hfa.2
    refine stepT_call rfl rfl rfl rfl rfl rfl hst0 hst hlesum (by repeat (first | exact zR _ | apply zC | apply zD)) (snum_Mul hst.agree hb.1 hd3 (by omega) (by omega)) ?_ ?_
    clear hst
    intro v27 g27 w27 hst hle27 hcs27 hp27
    replace hlesum := Mem.le.trans hlesum hle27
    replace ha := ha.mono hle27
    replace hb := hb.mono hle27
    replace hd1 := hd1.mono hle27
    replace hd2 := hd2.mono hle27
    replace hd3 := hd3.mono hle27
    obtain ⟨nd4, D4, dn4, dc4, rfl, hd4⟩ := hp27
    have l6 := hZmul hd4 hfb.1 hfa.2
    refine stepT_call rfl rfl rfl rfl rfl rfl hst0 hst hlesum (by repeat (first | exact zR _ | apply zC | apply zD)) (snum_Gcd hst.agree hd2 hd4 (by omega) (by omega)) ?_ ?_
    clear hst
    intro v28 g28 w28 hst hle28 hcs28 hp28
    replace hlesum := Mem.le.trans hlesum hle28
    replace ha := ha.mono hle28
    replace hb := hb.mono hle28
    replace hd1 := hd1.mono hle28
    replace hd2 := hd2.mono hle28
    replace hd3 := hd3.mono hle28
    replace hd4 := hd4.mono hle28
    obtain ⟨nd5, D5, dn5, dc5, rfl, hd5⟩ := hp28
    refine stepT_tail ?_
    refine stepK_store 3 rfl rfl rfl rfl rfl rfl zf103 rfl rfl hst rfl (by first | (simp [uN_length]; omega) | simp) ?_
    clear hst
    intro w29 hst
    simp only [zL, splice, Nat.reduceAdd] at hst
    refine wpK_nil ?_
    refine join_end (((nd5, D5, dn5, dc5), b5)) ?_ ?_
    exact ⟨rfl, rfl, rfl, rfl, trivial⟩
    exact ⟨_, hst, ha, hb, hd5⟩
    exact stepT_no
    exact stepT_no
    exact stepT_no
    exact stepT_no
    exact stepT_no
    refine stepT_alloc rfl rfl rfl rfl rfl zf101 rfl hst0 hst (Mem.le.refl _) (by repeat (first | exact zR _ | apply zC | apply zD)) ?_ ?_
    clear hst
    intro b5 w30 hst
    refine stepT_call rfl rfl rfl rfl rfl rfl hst0 hst (Mem.le.refl _) (by repeat (first | exact zR _ | apply zC | apply zD)) (snum_Den hst.agree hb) ?_ ?_
    clear hst
    intro v31 g31 w31 hst hle31 hcs31 hp31
    have hlesum := hle31
    replace ha := ha.mono hle31
    replace hb := hb.mono hle31
    obtain ⟨nd1, D1, dn1, dc1, rfl, hd1⟩ := hp31
    have l3 := hd1.len hfb.2
    refine stepT_call rfl rfl rfl rfl rfl rfl hst0 hst hlesum (by repeat (first | exact zR _ | apply zC | apply zD)) (snum_Mul hst.agree ha.1 hd1 (by omega) (by omega)) ?_ ?_
    clear hst
    intro v32 g32 w32 hst hle32 hcs32 hp32
    replace hlesum := Mem.le.trans hlesum hle32
    replace ha := ha.mono hle32
    replace hb := hb.mono hle32
    replace hd1 := hd1.mono hle32
    obtain ⟨nd2, D2, dn2, dc2, rfl, hd2⟩ := hp32
    have l4 := hZmul hd2 hfa.1 hfb.2
    refine stepT_call rfl rfl rfl rfl rfl rfl hst0 hst hlesum (by repeat (first | exact zR _ | apply zC | apply zD)) (snum_Den hst.agree ha) ?_ ?_
    clear hst
    intro v33 g33 w33 hst hle33 hcs33 hp33
    replace hlesum := Mem.le.trans hlesum hle33
    replace ha := ha.mono hle33
    replace hb := hb.mono hle33
    replace hd1 := hd1.mono hle33
    replace hd2 := hd2.mono hle33
    obtain ⟨nd3, D3, dn3, dc3, rfl, hd3⟩ := hp33
    have l5 := hd3.len hfa.2
    refine stepT_call rfl rfl rfl rfl rfl rfl hst0 hst hlesum (by repeat (first | exact zR _ | apply zC | apply zD)) (snum_Mul hst.agree hb.1 hd3 (by omega) (by omega)) ?_ ?_
    clear hst
    intro v34 g34 w34 hst hle34 hcs34 hp34
    replace hlesum := Mem.le.trans hlesum hle34
    replace ha := ha.mono hle34
    replace hb := hb.mono hle34
    replace hd1 := hd1.mono hle34
    replace hd2 := hd2.mono hle34
    replace hd3 := hd3.mono hle34
    obtain ⟨nd4, D4, dn4, dc4, rfl, hd4⟩ := hp34
    have l6 := hZmul hd4 hfb.1 hfa.2
    refine stepT_call rfl rfl rfl rfl rfl rfl hst0 hst hlesum (by repeat (first | exact zR _ | apply zC | apply zD)) (snum_Gcd hst.agree hd2 hd4 (by omega) (by omega)) ?_ ?_
    clear hst
    intro v35 g35 w35 hst hle35 hcs35 hp35
    replace hlesum := Mem.le.trans hlesum hle35
    replace ha := ha.mono hle35
    replace hb := hb.mono hle35
    replace hd1 := hd1.mono hle35
    replace hd2 := hd2.mono hle35
    replace hd3 := hd3.mono hle35
    replace hd4 := hd4.mono hle35
    obtain ⟨nd5, D5, dn5, dc5, rfl, hd5⟩ := hp35
    refine stepT_tail ?_
    refine stepK_store 3 rfl rfl rfl rfl rfl rfl zf103 rfl rfl hst rfl (by first | (simp [uN_length]; omega) | simp) ?_
    clear hst
    intro w36 hst
    simp only [zL, splice, Nat.reduceAdd] at hst
    refine wpK_nil ?_
    refine join_end (((nd5, D5, dn5, dc5), b5)) ?_ ?_
    exact ⟨rfl, rfl, rfl, rfl, trivial⟩
    exact ⟨_, hst, ha, hb, hd5⟩
    exact stepT_no
    exact stepT_no
    exact stepT_no
    exact stepT_no
    exact stepT_no
    exact stepT_no
  case d4 =>
    clear hst
    clear ha hb
    rintro ⟨⟨nd5, D5, dn5, dc5⟩, b5⟩ w2 ⟨g2, hst, ha, hb, hd5⟩
    simp only
    have l11 := gcd_lenH hd5 hfa hfb
    refine cp_seq ?_
    refine cp_drawn (by kernel_rfl) 7 [(0, true), (1, true), (3, true), (2, false), (4, false), (5, false), (6, false)] _ rfl (by kernel_rfl) (by kernel_rfl) (by kernel_rfl) (fun _ _ _ _ _ h => h) _ (hst.drew) ?_
    have hst0 := hst.drew
    clear hst
    have hst := hst0
    refine stepD_d rfl rfl rfl rfl (does_load_ownN 3 rfl (by kernel_rfl) zf103 rfl rfl rfl) ?_
    refine stepD_d rfl rfl rfl rfl (does_load_ownN 0 rfl (by kernel_rfl) zf119 rfl rfl rfl) ?_
    refine stepD_d rfl rfl rfl rfl (does_load_ownN 1 rfl (by kernel_rfl) zf119 rfl rfl rfl) ?_
    refine stepD_call rfl rfl rfl rfl rfl rfl hst (snum_Den hst.agree ha) (fun _ _ h hle => St.older h hle (by simp) hst0.ext hst0.le) ?_
    clear hst
    intro v37 g37 w37 hst hle37 hcs37 hp37
    have hlesum := hle37
    replace ha := ha.mono hle37
    replace hb := hb.mono hle37
    replace hd5 := hd5.mono hle37
    obtain ⟨nd6, D6, dn6, dc6, rfl, hd6⟩ := hp37
    have l8 := hd6.len hfa.2
    refine stepD_call rfl rfl rfl rfl rfl rfl hst (snum_Den hst.agree hb) (fun _ _ h hle => St.older h (Mem.le.trans hlesum hle) (by simp) hst0.ext hst0.le) ?_
    clear hst
    intro v38 g38 w38 hst hle38 hcs38 hp38
    replace hlesum := Mem.le.trans hlesum hle38
    replace ha := ha.mono hle38
    replace hb := hb.mono hle38
    replace hd5 := hd5.mono hle38
    replace hd6 := hd6.mono hle38
    obtain ⟨nd7, D7, dn7, dc7, rfl, hd7⟩ := hp38
    have l9 := hd7.len hfb.2
    refine stepD_call rfl rfl rfl rfl rfl rfl hst (snum_Mul hst.agree hd6 hd7 (by omega) (by omega)) (fun _ _ h hle => St.older h (Mem.le.trans hlesum hle) (by simp) hst0.ext hst0.le) ?_
    clear hst
    intro v39 g39 w39 hst hle39 hcs39 hp39
    replace hlesum := Mem.le.trans hlesum hle39
    replace ha := ha.mono hle39
    replace hb := hb.mono hle39
    replace hd5 := hd5.mono hle39
    replace hd6 := hd6.mono hle39
    replace hd7 := hd7.mono hle39
    obtain ⟨nd8, D8, dn8, dc8, rfl, hd8⟩ := hp39
    have l10 := hZmul hd8 hfa.2 hfb.2
    refine stepD_call rfl rfl rfl rfl rfl rfl hst (snum_Frac hst.agree hd5 hd8 (den_mul_ne r x) (by omega) (by omega)) (fun _ _ h hle => St.older h (Mem.le.trans hlesum hle) (by simp) hst0.ext hst0.le) ?_
    clear hst
    intro v40 g40 w40 hst hle40 hcs40 hp40
    replace hlesum := Mem.le.trans hlesum hle40
    replace ha := ha.mono hle40
    replace hb := hb.mono hle40
    replace hd5 := hd5.mono hle40
    replace hd6 := hd6.mono hle40
    replace hd7 := hd7.mono hle40
    replace hd8 := hd8.mono hle40
    obtain ⟨_, _, _, _, _, _, _, _, rfl, hq9⟩ := hp40
    refine stepD_tail ?_
    refine stepK_store 2 rfl rfl rfl rfl rfl rfl zf119 rfl rfl hst rfl (by first | (simp [uN_length]; omega) | simp) ?_
    clear hst
    intro w41 hst
    simp only [zL, splice, Nat.reduceAdd] at hst
    refine znt ?_
    refine cp_ret ?_
    refine ret1c (k := 2) rfl rfl (by kernel_rfl) (by kernel_rfl) rfl hst rfl ?_
    exact ⟨_, _, _, _, _, _, _, _, rfl, hq9.to (gcd_frac r x)⟩

end Go.Proofs.YtbamjcfdlgnicaaGreatDoor

namespace Go.Proofs.YtbamjcfdlgnicaaGreatDoor
open Go Go.RowKit Go.Proofs.Vc
set_option linter.unusedVariables false
set_option linter.unusedSimpArgs false

set_option maxHeartbeats 1000000 in
theorem sref_Root {g : Mem} {w : World} (hag : Agree g w) {a : ByteArray} (ha : a.size < 50000000) :
    CallTo Tryz.prog 75 #[.string a] w (Ret w g fun v g => v = .tuple #[.string (if SqR (getR a) then ratS (rootR (getR a)) else ⟨#[]⟩), .bool (decide (SqR (getR a)))]) := by
  refine CallTo.enter (vs := [.string a]) (by kernel_rfl : Tryz.prog.funcs[75]? = some Tryz.f75) (by kernel_rfl) rfl rfl rfl ?_
  have hst := St.init hag
  have sa := getR_sz a
  have fa := sa.fitH (by omega)
  refine zsr ?_
  refine zA rfl hst rfl ?_
  refine zA rfl hst rfl ?_
  refine zn4 ?_
  refine zM rfl hst rfl ?_
  refine stepK_call rfl rfl rfl rfl rfl hst (snum_Num hst.agree (by omega)) ?_
  clear hst
  intro v1 g1 w1 hst hle1 hcs1 hp1
  obtain ⟨na, A, ln, c, nb, B, m, d, rfl, hx⟩ := hp1
  have l1 := hx.1.len fa.1
  refine stepK_alloc rfl rfl rfl rfl zf121 rfl hst ?_
  clear hst
  intro bx w2 hst
  refine stepK_store 0 rfl rfl rfl rfl rfl rfl zf119 rfl rfl hst rfl (by first | (simp [uN_length]; omega) | simp) ?_
  clear hst
  intro w3 hst
  simp only [zL, splice, Nat.reduceAdd] at hst
  refine znq ?_
  refine zsr ?_
  refine stepK_d rfl rfl rfl hst (does_load_ownN 0 rfl (by kernel_rfl) zf119 rfl rfl rfl) ?_
  refine stepK_call rfl rfl rfl rfl rfl hst (snum_RSign hst.agree hx) ?_
  clear hst
  intro v4 g4 w4 hst hle4 hcs4 hp4
  replace hx := hx.mono hle4
  obtain rfl := hp4
  refine stepK_d rfl rfl rfl hst (does_lss rfl rfl rfl) ?_
  refine znt ?_
  refine cp_if rfl ?_ ?_
  intro c11
  have hno : ¬ SqR (getR a) := fun h => by have := Int.sign_nonneg_iff.2 h.1; omega
  refine zsr ?_
  refine zA rfl hst rfl ?_
  refine zA rfl hst rfl ?_
  refine zn5 ?_
  refine ret2 rfl rfl rfl hst ?_
  first
  | rw [if_neg hno, decide_eq_false hno]
  | rw [if_pos hyes, decide_eq_true hyes]
  intro c11
  have hn0 : 0 ≤ (getR a).num := Int.sign_nonneg_iff.1 (by omega)
  refine cp_skip ?_
  refine cp_then ?_
  refine cp_join (ι := (Bool × Option Addr × Nat × Nat) × (Bool × Option Addr × Nat × Nat) × Nat × Nat) (fun ((nd1, D1, dn1, dc1), (nd3, D3, dn3, dc3), b5, b6) => [(4, .pointer (some ⟨bx, 0, none⟩)), (5, .pointer (some ⟨b5, 0, none⟩)), (6, .pointer (some ⟨b6, 0, none⟩))]) (fun ((nd1, D1, dn1, dc1), (nd3, D3, dn3, dc3), b5, b6) w2 => ∃ g2, St w [] g g2 [(bx, .cells #[.bool na, .slice A ln c, .bool nb, .slice B m d] 30 (0, 0)), (b5, .cells #[.bool nd1, .slice D1 dn1 dc1] 28 (0, 0)), (b6, .cells #[.bool nd3, .slice D3 dn3 dc3] 28 (0, 0))] w2 ∧ IsQ g2 na A ln nb B m (getR a) ∧ IsZ g2 nd1 D1 dn1 ((isq (getR a).num.natAbs : Nat) : Int) ∧ IsZ g2 nd3 D3 dn3 ((isq (getR a).den : Nat) : Int)) ?c5 ?d5
  case c5 =>
    refine cp_drawnT (by kernel_rfl) 8 (.d 0 (.d 1 (.d 3 (.e 2 (.e 4 (.e 5 (.e 6 (.e 7 .fin .no) (.e 7 (.e 6 .fin .no) .no)) (.e 6 (.e 5 (.e 7 .fin .no) (.e 7 (.e 5 .fin .no) .no)) (.e 7 (.e 5 (.e 6 .fin .no) (.e 6 (.e 5 .fin .no) .no)) .no))) (.e 6 (.e 4 (.e 5 (.e 7 .fin .no) (.e 7 (.e 5 .fin .no) .no)) (.e 7 (.e 4 (.e 5 .fin .no) .no) .no)) (.e 7 (.e 4 (.e 5 (.e 6 .fin .no) (.e 6 (.e 5 .fin .no) .no)) (.e 6 (.e 4 (.e 5 .fin .no) .no) .no)) .no))) (.e 6 (.e 2 (.e 4 (.e 5 (.e 7 .fin .no) (.e 7 (.e 5 .fin .no) .no)) (.e 7 (.e 4 (.e 5 .fin .no) .no) .no)) (.e 7 (.e 2 (.e 4 (.e 5 .fin .no) .no) .no) .no)) (.e 7 (.e 2 (.e 4 (.e 5 (.e 6 .fin .no) (.e 6 (.e 5 .fin .no) .no)) (.e 6 (.e 4 (.e 5 .fin .no) .no) .no)) (.e 6 (.e 2 (.e 4 (.e 5 .fin .no) .no) .no) .no)) .no)))))) _ rfl (by kernel_rfl) (by kernel_rfl) (by kernel_rfl) (fun _ _ _ _ _ h => h) _ hst.drew ?_
    have hst0 := hst.drew
    have hst9 := hst.drew
    clear hst
    have hst := hst9
    clear hst9
    refine stepT_d rfl rfl rfl rfl (does_fieldAddr rfl zf124 rfl) ?_
    refine stepT_d rfl rfl rfl rfl (does_load_ownN 0 rfl (by kernel_rfl) zf103 rfl rfl rfl) ?_
    refine stepT_d rfl rfl rfl rfl (does_load_ownN 0 rfl (by kernel_rfl) zf119 rfl rfl rfl) ?_
    refine stepT_call rfl rfl rfl rfl rfl rfl hst0 hst (Mem.le.refl _) (by repeat (first | exact zR _ | apply zC | apply zD)) (snum_Sqrt hst.agree hx.1 hn0 (by omega)) ?_ ?_
    clear hst
    intro v6 g6 w6 hst hle6 hcs6 hp6
    have hlesum := hle6
    replace hx := hx.mono hle6
    obtain ⟨nd1, D1, dn1, dc1, rfl, hd1⟩ := hp6
    refine stepT_call rfl rfl rfl rfl rfl rfl hst0 hst hlesum (by repeat (first | exact zR _ | apply zC | apply zD)) (snum_Den hst.agree hx) ?_ ?_
    clear hst
    intro v7 g7 w7 hst hle7 hcs7 hp7
    replace hlesum := Mem.le.trans hlesum hle7
    replace hx := hx.mono hle7
    replace hd1 := hd1.mono hle7
    obtain ⟨nd2, D2, dn2, dc2, rfl, hd2⟩ := hp7
    have l3 := hd2.len fa.2
    refine stepT_call rfl rfl rfl rfl rfl rfl hst0 hst hlesum (by repeat (first | exact zR _ | apply zC | apply zD)) (snum_Sqrt hst.agree hd2 (by omega) (by omega)) ?_ ?_
    clear hst
    intro v8 g8 w8 hst hle8 hcs8 hp8
    replace hlesum := Mem.le.trans hlesum hle8
    replace hx := hx.mono hle8
    replace hd1 := hd1.mono hle8
    replace hd2 := hd2.mono hle8
    obtain ⟨nd3, D3, dn3, dc3, rfl, hd3⟩ := hp8
    rw [Int.natAbs_natCast] at hd3
    refine stepT_alloc rfl rfl rfl rfl rfl zf101 rfl hst0 hst hlesum (by repeat (first | exact zR _ | apply zC | apply zD)) ?_ ?_
    clear hst
    intro b5 w9 hst
    refine stepT_alloc rfl rfl rfl rfl rfl zf101 rfl hst0 hst hlesum (by repeat (first | exact zR _ | apply zC | apply zD)) ?_ ?_
    clear hst
    intro b6 w10 hst
    refine stepT_tail ?_
    refine stepK_store 1 rfl rfl rfl rfl rfl rfl zf103 rfl rfl hst rfl (by first | (simp [uN_length]; omega) | simp) ?_
    clear hst
    intro w11 hst
    simp only [zL, splice, Nat.reduceAdd] at hst
    refine stepK_store 2 rfl rfl rfl rfl rfl rfl zf103 rfl rfl hst rfl (by first | (simp [uN_length]; omega) | simp) ?_
    clear hst
    intro w12 hst
    simp only [zL, splice, Nat.reduceAdd] at hst
    refine wpK_nil ?_
    refine join_end (((nd1, D1, dn1, dc1), (nd3, D3, dn3, dc3), b5, b6)) ?_ ?_
    exact ⟨rfl, rfl, rfl, trivial⟩
    exact ⟨_, by first | exact hst | exact hst.perm (.cons _ (.swap ..)), hx, hd1, hd3⟩
    exact stepT_no
    refine stepT_alloc rfl rfl rfl rfl rfl zf101 rfl hst0 hst hlesum (by repeat (first | exact zR _ | apply zC | apply zD)) ?_ ?_
    clear hst
    intro b6 w13 hst
    refine stepT_alloc rfl rfl rfl rfl rfl zf101 rfl hst0 hst hlesum (by repeat (first | exact zR _ | apply zC | apply zD)) ?_ ?_
    clear hst
    intro b5 w14 hst
    refine stepT_tail ?_
    refine stepK_store 2 rfl rfl rfl rfl rfl rfl zf103 rfl rfl hst rfl (by first | (simp [uN_length]; omega) | simp) ?_
    clear hst
    intro w15 hst
    simp only [zL, splice, Nat.reduceAdd] at hst
    refine stepK_store 1 rfl rfl rfl rfl rfl rfl zf103 rfl rfl hst rfl (by first | (simp [uN_length]; omega) | simp) ?_
    clear hst
    intro w16 hst
    simp only [zL, splice, Nat.reduceAdd] at hst
    refine wpK_nil ?_
    refine join_end (((nd1, D1, dn1, dc1), (nd3, D3, dn3, dc3), b5, b6)) ?_ ?_
    exact ⟨rfl, rfl, rfl, trivial⟩
    exact ⟨_, by first | exact hst | exact hst.perm (.cons _ (.swap ..)), hx, hd1, hd3⟩
    exact stepT_no
    exact stepT_no
    refine stepT_alloc rfl rfl rfl rfl rfl zf101 rfl hst0 hst hlesum (by repeat (first | exact zR _ | apply zC | apply zD)) ?_ ?_
    clear hst
    intro b5 w17 hst
    refine stepT_call rfl rfl rfl rfl rfl rfl hst0 hst hlesum (by repeat (first | exact zR _ | apply zC | apply zD)) (snum_Sqrt hst.agree hd2 (by omega) (by omega)) ?_ ?_
    clear hst
    intro v18 g18 w18 hst hle18 hcs18 hp18
    replace hlesum := Mem.le.trans hlesum hle18
    replace hx := hx.mono hle18
    replace hd1 := hd1.mono hle18
    replace hd2 := hd2.mono hle18
    obtain ⟨nd3, D3, dn3, dc3, rfl, hd3⟩ := hp18
    rw [Int.natAbs_natCast] at hd3
    refine stepT_alloc rfl rfl rfl rfl rfl zf101 rfl hst0 hst hlesum (by repeat (first | exact zR _ | apply zC | apply zD)) ?_ ?_
    clear hst
    intro b6 w19 hst
    refine stepT_tail ?_
    refine stepK_store 1 rfl rfl rfl rfl rfl rfl zf103 rfl rfl hst rfl (by first | (simp [uN_length]; omega) | simp) ?_
    clear hst
    intro w20 hst
    simp only [zL, splice, Nat.reduceAdd] at hst
    refine stepK_store 2 rfl rfl rfl rfl rfl rfl zf103 rfl rfl hst rfl (by first | (simp [uN_length]; omega) | simp) ?_
    clear hst
    intro w21 hst
    simp only [zL, splice, Nat.reduceAdd] at hst
    refine wpK_nil ?_
    refine join_end (((nd1, D1, dn1, dc1), (nd3, D3, dn3, dc3), b5, b6)) ?_ ?_
    exact ⟨rfl, rfl, rfl, trivial⟩
    exact ⟨_, by first | exact hst | exact hst.perm (.cons _ (.swap ..)), hx, hd1, hd3⟩
    exact stepT_no
    refine stepT_alloc rfl rfl rfl rfl rfl zf101 rfl hst0 hst hlesum (by repeat (first | exact zR _ | apply zC | apply zD)) ?_ ?_
    clear hst
    intro b6 w22 hst
    refine stepT_call rfl rfl rfl rfl rfl rfl hst0 hst hlesum (by repeat (first | exact zR _ | apply zC | apply zD)) (snum_Sqrt hst.agree hd2 (by omega) (by omega)) ?_ ?_
    clear hst
    intro v23 g23 w23 hst hle23 hcs23 hp23
    replace hlesum := Mem.le.trans hlesum hle23
    replace hx := hx.mono hle23
    replace hd1 := hd1.mono hle23
    replace hd2 := hd2.mono hle23
    obtain ⟨nd3, D3, dn3, dc3, rfl, hd3⟩ := hp23
    rw [Int.natAbs_natCast] at hd3
    refine stepT_tail ?_
    refine stepK_store 1 rfl rfl rfl rfl rfl rfl zf103 rfl rfl hst rfl (by first | (simp [uN_length]; omega) | simp) ?_
    clear hst
    intro w24 hst
    simp only [zL, splice, Nat.reduceAdd] at hst
    refine stepK_store 2 rfl rfl rfl rfl rfl rfl zf103 rfl rfl hst rfl (by first | (simp [uN_length]; omega) | simp) ?_
    clear hst
    intro w25 hst
    simp only [zL, splice, Nat.reduceAdd] at hst
    refine wpK_nil ?_
    refine join_end (((nd1, D1, dn1, dc1), (nd3, D3, dn3, dc3), b5, b6)) ?_ ?_
    exact ⟨rfl, rfl, rfl, trivial⟩
    exact ⟨_, by first | exact hst | exact hst.perm (.cons _ (.swap ..)), hx, hd1, hd3⟩
    exact stepT_no
    exact stepT_no
    refine stepT_alloc rfl rfl rfl rfl rfl zf101 rfl hst0 hst hlesum (by repeat (first | exact zR _ | apply zC | apply zD)) ?_ ?_
    clear hst
    intro b6 w26 hst
    refine stepT_call rfl rfl rfl rfl rfl rfl hst0 hst hlesum (by repeat (first | exact zR _ | apply zC | apply zD)) (snum_Sqrt hst.agree hd2 (by omega) (by omega)) ?_ ?_
    clear hst
    intro v27 g27 w27 hst hle27 hcs27 hp27
    replace hlesum := Mem.le.trans hlesum hle27
    replace hx := hx.mono hle27
    replace hd1 := hd1.mono hle27
    replace hd2 := hd2.mono hle27
    obtain ⟨nd3, D3, dn3, dc3, rfl, hd3⟩ := hp27
    rw [Int.natAbs_natCast] at hd3
    refine stepT_alloc rfl rfl rfl rfl rfl zf101 rfl hst0 hst hlesum (by repeat (first | exact zR _ | apply zC | apply zD)) ?_ ?_
    clear hst
    intro b5 w28 hst
    refine stepT_tail ?_
    refine stepK_store 2 rfl rfl rfl rfl rfl rfl zf103 rfl rfl hst rfl (by first | (simp [uN_length]; omega) | simp) ?_
    clear hst
    intro w29 hst
    simp only [zL, splice, Nat.reduceAdd] at hst
    refine stepK_store 1 rfl rfl rfl rfl rfl rfl zf103 rfl rfl hst rfl (by first | (simp [uN_length]; omega) | simp) ?_
    clear hst
    intro w30 hst
    simp only [zL, splice, Nat.reduceAdd] at hst
    refine wpK_nil ?_
    refine join_end (((nd1, D1, dn1, dc1), (nd3, D3, dn3, dc3), b5, b6)) ?_ ?_
    exact ⟨rfl, rfl, rfl, trivial⟩
    exact ⟨_, by first | exact hst | exact hst.perm (.cons _ (.swap ..)), hx, hd1, hd3⟩
    exact stepT_no
    refine stepT_alloc rfl rfl rfl rfl rfl zf101 rfl hst0 hst hlesum (by repeat (first | exact zR _ | apply zC | apply zD)) ?_ ?_
    clear hst
    intro b5 w31 hst
    refine stepT_call rfl rfl rfl rfl rfl rfl hst0 hst hlesum (by repeat (first | exact zR _ | apply zC | apply zD)) (snum_Sqrt hst.agree hd2 (by omega) (by omega)) ?_ ?_
    clear hst
    intro v32 g32 w32 hst hle32 hcs32 hp32
    replace hlesum := Mem.le.trans hlesum hle32
    replace hx := hx.mono hle32
    replace hd1 := hd1.mono hle32
    replace hd2 := hd2.mono hle32
    obtain ⟨nd3, D3, dn3, dc3, rfl, hd3⟩ := hp32
    rw [Int.natAbs_natCast] at hd3
    refine stepT_tail ?_
    refine stepK_store 2 rfl rfl rfl rfl rfl rfl zf103 rfl rfl hst rfl (by first | (simp [uN_length]; omega) | simp) ?_
    clear hst
    intro w33 hst
    simp only [zL, splice, Nat.reduceAdd] at hst
    refine stepK_store 1 rfl rfl rfl rfl rfl rfl zf103 rfl rfl hst rfl (by first | (simp [uN_length]; omega) | simp) ?_
    clear hst
    intro w34 hst
    simp only [zL, splice, Nat.reduceAdd] at hst
    refine wpK_nil ?_
    refine join_end (((nd1, D1, dn1, dc1), (nd3, D3, dn3, dc3), b5, b6)) ?_ ?_
    exact ⟨rfl, rfl, rfl, trivial⟩
    exact ⟨_, by first | exact hst | exact hst.perm (.cons _ (.swap ..)), hx, hd1, hd3⟩
    exact stepT_no
    exact stepT_no
    exact stepT_no
    refine stepT_alloc rfl rfl rfl rfl rfl zf101 rfl hst0 hst hlesum (by repeat (first | exact zR _ | apply zC | apply zD)) ?_ ?_
    clear hst
    intro b5 w35 hst
    refine stepT_call rfl rfl rfl rfl rfl rfl hst0 hst hlesum (by repeat (first | exact zR _ | apply zC | apply zD)) (snum_Den hst.agree hx) ?_ ?_
    clear hst
    intro v36 g36 w36 hst hle36 hcs36 hp36
    replace hlesum := Mem.le.trans hlesum hle36
    replace hx := hx.mono hle36
    replace hd1 := hd1.mono hle36
    obtain ⟨nd2, D2, dn2, dc2, rfl, hd2⟩ := hp36
    have l3 := hd2.len fa.2
    refine stepT_call rfl rfl rfl rfl rfl rfl hst0 hst hlesum (by repeat (first | exact zR _ | apply zC | apply zD)) (snum_Sqrt hst.agree hd2 (by omega) (by omega)) ?_ ?_
    clear hst
    intro v37 g37 w37 hst hle37 hcs37 hp37
    replace hlesum := Mem.le.trans hlesum hle37
    replace hx := hx.mono hle37
    replace hd1 := hd1.mono hle37
    replace hd2 := hd2.mono hle37
    obtain ⟨nd3, D3, dn3, dc3, rfl, hd3⟩ := hp37
    rw [Int.natAbs_natCast] at hd3
    refine stepT_alloc rfl rfl rfl rfl rfl zf101 rfl hst0 hst hlesum (by repeat (first | exact zR _ | apply zC | apply zD)) ?_ ?_
    clear hst
    intro b6 w38 hst
    refine stepT_tail ?_
    refine stepK_store 1 rfl rfl rfl rfl rfl rfl zf103 rfl rfl hst rfl (by first | (simp [uN_length]; omega) | simp) ?_
    clear hst
    intro w39 hst
    simp only [zL, splice, Nat.reduceAdd] at hst
    refine stepK_store 2 rfl rfl rfl rfl rfl rfl zf103 rfl rfl hst rfl (by first | (simp [uN_length]; omega) | simp) ?_
    clear hst
    intro w40 hst
    simp only [zL, splice, Nat.reduceAdd] at hst
    refine wpK_nil ?_
    refine join_end (((nd1, D1, dn1, dc1), (nd3, D3, dn3, dc3), b5, b6)) ?_ ?_
    exact ⟨rfl, rfl, rfl, trivial⟩
    exact ⟨_, by first | exact hst | exact hst.perm (.cons _ (.swap ..)), hx, hd1, hd3⟩
    exact stepT_no
    refine stepT_alloc rfl rfl rfl rfl rfl zf101 rfl hst0 hst hlesum (by repeat (first | exact zR _ | apply zC | apply zD)) ?_ ?_
    clear hst
    intro b6 w41 hst
    refine stepT_call rfl rfl rfl rfl rfl rfl hst0 hst hlesum (by repeat (first | exact zR _ | apply zC | apply zD)) (snum_Sqrt hst.agree hd2 (by omega) (by omega)) ?_ ?_
    clear hst
    intro v42 g42 w42 hst hle42 hcs42 hp42
    replace hlesum := Mem.le.trans hlesum hle42
    replace hx := hx.mono hle42
    replace hd1 := hd1.mono hle42
    replace hd2 := hd2.mono hle42
    obtain ⟨nd3, D3, dn3, dc3, rfl, hd3⟩ := hp42
    rw [Int.natAbs_natCast] at hd3
    refine stepT_tail ?_
    refine stepK_store 1 rfl rfl rfl rfl rfl rfl zf103 rfl rfl hst rfl (by first | (simp [uN_length]; omega) | simp) ?_
    clear hst
    intro w43 hst
    simp only [zL, splice, Nat.reduceAdd] at hst
    refine stepK_store 2 rfl rfl rfl rfl rfl rfl zf103 rfl rfl hst rfl (by first | (simp [uN_length]; omega) | simp) ?_
    clear hst
    intro w44 hst
    simp only [zL, splice, Nat.reduceAdd] at hst
    refine wpK_nil ?_
    refine join_end (((nd1, D1, dn1, dc1), (nd3, D3, dn3, dc3), b5, b6)) ?_ ?_
    exact ⟨rfl, rfl, rfl, trivial⟩
    exact ⟨_, by first | exact hst | exact hst.perm (.cons _ (.swap ..)), hx, hd1, hd3⟩
    exact stepT_no
    exact stepT_no
    refine stepT_alloc rfl rfl rfl rfl rfl zf101 rfl hst0 hst hlesum (by repeat (first | exact zR _ | apply zC | apply zD)) ?_ ?_
    clear hst
    intro b6 w45 hst
    refine stepT_call rfl rfl rfl rfl rfl rfl hst0 hst hlesum (by repeat (first | exact zR _ | apply zC | apply zD)) (snum_Den hst.agree hx) ?_ ?_
    clear hst
    intro v46 g46 w46 hst hle46 hcs46 hp46
    replace hlesum := Mem.le.trans hlesum hle46
    replace hx := hx.mono hle46
    replace hd1 := hd1.mono hle46
    obtain ⟨nd2, D2, dn2, dc2, rfl, hd2⟩ := hp46
    have l3 := hd2.len fa.2
    refine stepT_call rfl rfl rfl rfl rfl rfl hst0 hst hlesum (by repeat (first | exact zR _ | apply zC | apply zD)) (snum_Sqrt hst.agree hd2 (by omega) (by omega)) ?_ ?_
    clear hst
    intro v47 g47 w47 hst hle47 hcs47 hp47
    replace hlesum := Mem.le.trans hlesum hle47
    replace hx := hx.mono hle47
    replace hd1 := hd1.mono hle47
    replace hd2 := hd2.mono hle47
    obtain ⟨nd3, D3, dn3, dc3, rfl, hd3⟩ := hp47
    rw [Int.natAbs_natCast] at hd3
    refine stepT_tail ?_
    refine stepK_store 1 rfl rfl rfl rfl rfl rfl zf103 rfl rfl hst rfl (by first | (simp [uN_length]; omega) | simp) ?_
    clear hst
    intro w48 hst
    simp only [zL, splice, Nat.reduceAdd] at hst
    refine stepK_store 2 rfl rfl rfl rfl rfl rfl zf103 rfl rfl hst rfl (by first | (simp [uN_length]; omega) | simp) ?_
    clear hst
    intro w49 hst
    simp only [zL, splice, Nat.reduceAdd] at hst
    refine wpK_nil ?_
    refine join_end (((nd1, D1, dn1, dc1), (nd3, D3, dn3, dc3), b5, b6)) ?_ ?_
    exact ⟨rfl, rfl, rfl, trivial⟩
    exact ⟨_, by first | exact hst | exact hst.perm (.cons _ (.swap ..)), hx, hd1, hd3⟩
    exact stepT_no
    exact stepT_no
    exact stepT_no
    refine stepT_alloc rfl rfl rfl rfl rfl zf101 rfl hst0 hst hlesum (by repeat (first | exact zR _ | apply zC | apply zD)) ?_ ?_
    clear hst
    intro b6 w50 hst
    refine stepT_call rfl rfl rfl rfl rfl rfl hst0 hst hlesum (by repeat (first | exact zR _ | apply zC | apply zD)) (snum_Den hst.agree hx) ?_ ?_
    clear hst
    intro v51 g51 w51 hst hle51 hcs51 hp51
    replace hlesum := Mem.le.trans hlesum hle51
    replace hx := hx.mono hle51
    replace hd1 := hd1.mono hle51
    obtain ⟨nd2, D2, dn2, dc2, rfl, hd2⟩ := hp51
    have l3 := hd2.len fa.2
    refine stepT_call rfl rfl rfl rfl rfl rfl hst0 hst hlesum (by repeat (first | exact zR _ | apply zC | apply zD)) (snum_Sqrt hst.agree hd2 (by omega) (by omega)) ?_ ?_
    clear hst
    intro v52 g52 w52 hst hle52 hcs52 hp52
    replace hlesum := Mem.le.trans hlesum hle52
    replace hx := hx.mono hle52
    replace hd1 := hd1.mono hle52
    replace hd2 := hd2.mono hle52
    obtain ⟨nd3, D3, dn3, dc3, rfl, hd3⟩ := hp52
    rw [Int.natAbs_natCast] at hd3
    refine stepT_alloc rfl rfl rfl rfl rfl zf101 rfl hst0 hst hlesum (by repeat (first | exact zR _ | apply zC | apply zD)) ?_ ?_
    clear hst
    intro b5 w53 hst
    refine stepT_tail ?_
    refine stepK_store 2 rfl rfl rfl rfl rfl rfl zf103 rfl rfl hst rfl (by first | (simp [uN_length]; omega) | simp) ?_
    clear hst
    intro w54 hst
    simp only [zL, splice, Nat.reduceAdd] at hst
    refine stepK_store 1 rfl rfl rfl rfl rfl rfl zf103 rfl rfl hst rfl (by first | (simp [uN_length]; omega) | simp) ?_
    clear hst
    intro w55 hst
    simp only [zL, splice, Nat.reduceAdd] at hst
    refine wpK_nil ?_
    refine join_end (((nd1, D1, dn1, dc1), (nd3, D3, dn3, dc3), b5, b6)) ?_ ?_
    exact ⟨rfl, rfl, rfl, trivial⟩
    exact ⟨_, by first | exact hst | exact hst.perm (.cons _ (.swap ..)), hx, hd1, hd3⟩
    exact stepT_no
    refine stepT_alloc rfl rfl rfl rfl rfl zf101 rfl hst0 hst hlesum (by repeat (first | exact zR _ | apply zC | apply zD)) ?_ ?_
    clear hst
    intro b5 w56 hst
    refine stepT_call rfl rfl rfl rfl rfl rfl hst0 hst hlesum (by repeat (first | exact zR _ | apply zC | apply zD)) (snum_Sqrt hst.agree hd2 (by omega) (by omega)) ?_ ?_
    clear hst
    intro v57 g57 w57 hst hle57 hcs57 hp57
    replace hlesum := Mem.le.trans hlesum hle57
    replace hx := hx.mono hle57
    replace hd1 := hd1.mono hle57
    replace hd2 := hd2.mono hle57
    obtain ⟨nd3, D3, dn3, dc3, rfl, hd3⟩ := hp57
    rw [Int.natAbs_natCast] at hd3
    refine stepT_tail ?_
    refine stepK_store 2 rfl rfl rfl rfl rfl rfl zf103 rfl rfl hst rfl (by first | (simp [uN_length]; omega) | simp) ?_
    clear hst
    intro w58 hst
    simp only [zL, splice, Nat.reduceAdd] at hst
    refine stepK_store 1 rfl rfl rfl rfl rfl rfl zf103 rfl rfl hst rfl (by first | (simp [uN_length]; omega) | simp) ?_
    clear hst
    intro w59 hst
    simp only [zL, splice, Nat.reduceAdd] at hst
    refine wpK_nil ?_
    refine join_end (((nd1, D1, dn1, dc1), (nd3, D3, dn3, dc3), b5, b6)) ?_ ?_
    exact ⟨rfl, rfl, rfl, trivial⟩
    exact ⟨_, by first | exact hst | exact hst.perm (.cons _ (.swap ..)), hx, hd1, hd3⟩
    exact stepT_no
    exact stepT_no
    refine stepT_alloc rfl rfl rfl rfl rfl zf101 rfl hst0 hst hlesum (by repeat (first | exact zR _ | apply zC | apply zD)) ?_ ?_
    clear hst
    intro b5 w60 hst
    refine stepT_call rfl rfl rfl rfl rfl rfl hst0 hst hlesum (by repeat (first | exact zR _ | apply zC | apply zD)) (snum_Den hst.agree hx) ?_ ?_
    clear hst
    intro v61 g61 w61 hst hle61 hcs61 hp61
    replace hlesum := Mem.le.trans hlesum hle61
    replace hx := hx.mono hle61
    replace hd1 := hd1.mono hle61
    obtain ⟨nd2, D2, dn2, dc2, rfl, hd2⟩ := hp61
    have l3 := hd2.len fa.2
    refine stepT_call rfl rfl rfl rfl rfl rfl hst0 hst hlesum (by repeat (first | exact zR _ | apply zC | apply zD)) (snum_Sqrt hst.agree hd2 (by omega) (by omega)) ?_ ?_
    clear hst
    intro v62 g62 w62 hst hle62 hcs62 hp62
    replace hlesum := Mem.le.trans hlesum hle62
    replace hx := hx.mono hle62
    replace hd1 := hd1.mono hle62
    replace hd2 := hd2.mono hle62
    obtain ⟨nd3, D3, dn3, dc3, rfl, hd3⟩ := hp62
    rw [Int.natAbs_natCast] at hd3
    refine stepT_tail ?_
    refine stepK_store 2 rfl rfl rfl rfl rfl rfl zf103 rfl rfl hst rfl (by first | (simp [uN_length]; omega) | simp) ?_
    clear hst
    intro w63 hst
    simp only [zL, splice, Nat.reduceAdd] at hst
    refine stepK_store 1 rfl rfl rfl rfl rfl rfl zf103 rfl rfl hst rfl (by first | (simp [uN_length]; omega) | simp) ?_
    clear hst
    intro w64 hst
    simp only [zL, splice, Nat.reduceAdd] at hst
    refine wpK_nil ?_
    refine join_end (((nd1, D1, dn1, dc1), (nd3, D3, dn3, dc3), b5, b6)) ?_ ?_
    exact ⟨rfl, rfl, rfl, trivial⟩
    exact ⟨_, by first | exact hst | exact hst.perm (.cons _ (.swap ..)), hx, hd1, hd3⟩
    exact stepT_no
    exact stepT_no
    exact stepT_no
    exact stepT_no
    refine stepT_alloc rfl rfl rfl rfl rfl zf101 rfl hst0 hst (Mem.le.refl _) (by repeat (first | exact zR _ | apply zC | apply zD)) ?_ ?_
    clear hst
    intro b5 w65 hst
    refine stepT_call rfl rfl rfl rfl rfl rfl hst0 hst (Mem.le.refl _) (by repeat (first | exact zR _ | apply zC | apply zD)) (snum_Sqrt hst.agree hx.1 hn0 (by omega)) ?_ ?_
    clear hst
    intro v66 g66 w66 hst hle66 hcs66 hp66
    have hlesum := hle66
    replace hx := hx.mono hle66
    obtain ⟨nd1, D1, dn1, dc1, rfl, hd1⟩ := hp66
    refine stepT_call rfl rfl rfl rfl rfl rfl hst0 hst hlesum (by repeat (first | exact zR _ | apply zC | apply zD)) (snum_Den hst.agree hx) ?_ ?_
    clear hst
    intro v67 g67 w67 hst hle67 hcs67 hp67
    replace hlesum := Mem.le.trans hlesum hle67
    replace hx := hx.mono hle67
    replace hd1 := hd1.mono hle67
    obtain ⟨nd2, D2, dn2, dc2, rfl, hd2⟩ := hp67
    have l3 := hd2.len fa.2
    refine stepT_call rfl rfl rfl rfl rfl rfl hst0 hst hlesum (by repeat (first | exact zR _ | apply zC | apply zD)) (snum_Sqrt hst.agree hd2 (by omega) (by omega)) ?_ ?_
    clear hst
    intro v68 g68 w68 hst hle68 hcs68 hp68
    replace hlesum := Mem.le.trans hlesum hle68
    replace hx := hx.mono hle68
    replace hd1 := hd1.mono hle68
    replace hd2 := hd2.mono hle68
    obtain ⟨nd3, D3, dn3, dc3, rfl, hd3⟩ := hp68
    rw [Int.natAbs_natCast] at hd3
    refine stepT_alloc rfl rfl rfl rfl rfl zf101 rfl hst0 hst hlesum (by repeat (first | exact zR _ | apply zC | apply zD)) ?_ ?_
    clear hst
    intro b6 w69 hst
    refine stepT_tail ?_
    refine stepK_store 1 rfl rfl rfl rfl rfl rfl zf103 rfl rfl hst rfl (by first | (simp [uN_length]; omega) | simp) ?_
    clear hst
    intro w70 hst
    simp only [zL, splice, Nat.reduceAdd] at hst
    refine stepK_store 2 rfl rfl rfl rfl rfl rfl zf103 rfl rfl hst rfl (by first | (simp [uN_length]; omega) | simp) ?_
    clear hst
    intro w71 hst
    simp only [zL, splice, Nat.reduceAdd] at hst
    refine wpK_nil ?_
    refine join_end (((nd1, D1, dn1, dc1), (nd3, D3, dn3, dc3), b5, b6)) ?_ ?_
    exact ⟨rfl, rfl, rfl, trivial⟩
    exact ⟨_, by first | exact hst | exact hst.perm (.cons _ (.swap ..)), hx, hd1, hd3⟩
    exact stepT_no
    refine stepT_alloc rfl rfl rfl rfl rfl zf101 rfl hst0 hst hlesum (by repeat (first | exact zR _ | apply zC | apply zD)) ?_ ?_
    clear hst
    intro b6 w72 hst
    refine stepT_call rfl rfl rfl rfl rfl rfl hst0 hst hlesum (by repeat (first | exact zR _ | apply zC | apply zD)) (snum_Sqrt hst.agree hd2 (by omega) (by omega)) ?_ ?_
    clear hst
    intro v73 g73 w73 hst hle73 hcs73 hp73
    replace hlesum := Mem.le.trans hlesum hle73
    replace hx := hx.mono hle73
    replace hd1 := hd1.mono hle73
    replace hd2 := hd2.mono hle73
    obtain ⟨nd3, D3, dn3, dc3, rfl, hd3⟩ := hp73
    rw [Int.natAbs_natCast] at hd3
    refine stepT_tail ?_
    refine stepK_store 1 rfl rfl rfl rfl rfl rfl zf103 rfl rfl hst rfl (by first | (simp [uN_length]; omega) | simp) ?_
    clear hst
    intro w74 hst
    simp only [zL, splice, Nat.reduceAdd] at hst
    refine stepK_store 2 rfl rfl rfl rfl rfl rfl zf103 rfl rfl hst rfl (by first | (simp [uN_length]; omega) | simp) ?_
    clear hst
    intro w75 hst
    simp only [zL, splice, Nat.reduceAdd] at hst
    refine wpK_nil ?_
    refine join_end (((nd1, D1, dn1, dc1), (nd3, D3, dn3, dc3), b5, b6)) ?_ ?_
    exact ⟨rfl, rfl, rfl, trivial⟩
    exact ⟨_, by first | exact hst | exact hst.perm (.cons _ (.swap ..)), hx, hd1, hd3⟩
    exact stepT_no
    exact stepT_no
    refine stepT_alloc rfl rfl rfl rfl rfl zf101 rfl hst0 hst hlesum (by repeat (first | exact zR _ | apply zC | apply zD)) ?_ ?_
    clear hst
    intro b6 w76 hst
    refine stepT_call rfl rfl rfl rfl rfl rfl hst0 hst hlesum (by repeat (first | exact zR _ | apply zC | apply zD)) (snum_Den hst.agree hx) ?_ ?_
    clear hst
    intro v77 g77 w77 hst hle77 hcs77 hp77
    replace hlesum := Mem.le.trans hlesum hle77
    replace hx := hx.mono hle77
    replace hd1 := hd1.mono hle77
    obtain ⟨nd2, D2, dn2, dc2, rfl, hd2⟩ := hp77
    have l3 := hd2.len fa.2
    refine stepT_call rfl rfl rfl rfl rfl rfl hst0 hst hlesum (by repeat (first | exact zR _ | apply zC | apply zD)) (snum_Sqrt hst.agree hd2 (by omega) (by omega)) ?_ ?_
    clear hst
    intro v78 g78 w78 hst hle78 hcs78 hp78
    replace hlesum := Mem.le.trans hlesum hle78
    replace hx := hx.mono hle78
    replace hd1 := hd1.mono hle78
    replace hd2 := hd2.mono hle78
    obtain ⟨nd3, D3, dn3, dc3, rfl, hd3⟩ := hp78
    rw [Int.natAbs_natCast] at hd3
    refine stepT_tail ?_
    refine stepK_store 1 rfl rfl rfl rfl rfl rfl zf103 rfl rfl hst rfl (by first | (simp [uN_length]; omega) | simp) ?_
    clear hst
    intro w79 hst
    simp only [zL, splice, Nat.reduceAdd] at hst
    refine stepK_store 2 rfl rfl rfl rfl rfl rfl zf103 rfl rfl hst rfl (by first | (simp [uN_length]; omega) | simp) ?_
    clear hst
    intro w80 hst
    simp only [zL, splice, Nat.reduceAdd] at hst
    refine wpK_nil ?_
    refine join_end (((nd1, D1, dn1, dc1), (nd3, D3, dn3, dc3), b5, b6)) ?_ ?_
    exact ⟨rfl, rfl, rfl, trivial⟩
    exact ⟨_, by first | exact hst | exact hst.perm (.cons _ (.swap ..)), hx, hd1, hd3⟩
    exact stepT_no
    exact stepT_no
    exact stepT_no
    refine stepT_alloc rfl rfl rfl rfl rfl zf101 rfl hst0 hst (Mem.le.refl _) (by repeat (first | exact zR _ | apply zC | apply zD)) ?_ ?_
    clear hst
    intro b6 w81 hst
    refine stepT_call rfl rfl rfl rfl rfl rfl hst0 hst (Mem.le.refl _) (by repeat (first | exact zR _ | apply zC | apply zD)) (snum_Sqrt hst.agree hx.1 hn0 (by omega)) ?_ ?_
    clear hst
    intro v82 g82 w82 hst hle82 hcs82 hp82
    have hlesum := hle82
    replace hx := hx.mono hle82
    obtain ⟨nd1, D1, dn1, dc1, rfl, hd1⟩ := hp82
    refine stepT_call rfl rfl rfl rfl rfl rfl hst0 hst hlesum (by repeat (first | exact zR _ | apply zC | apply zD)) (snum_Den hst.agree hx) ?_ ?_
    clear hst
    intro v83 g83 w83 hst hle83 hcs83 hp83
    replace hlesum := Mem.le.trans hlesum hle83
    replace hx := hx.mono hle83
    replace hd1 := hd1.mono hle83
    obtain ⟨nd2, D2, dn2, dc2, rfl, hd2⟩ := hp83
    have l3 := hd2.len fa.2
    refine stepT_call rfl rfl rfl rfl rfl rfl hst0 hst hlesum (by repeat (first | exact zR _ | apply zC | apply zD)) (snum_Sqrt hst.agree hd2 (by omega) (by omega)) ?_ ?_
    clear hst
    intro v84 g84 w84 hst hle84 hcs84 hp84
    replace hlesum := Mem.le.trans hlesum hle84
    replace hx := hx.mono hle84
    replace hd1 := hd1.mono hle84
    replace hd2 := hd2.mono hle84
    obtain ⟨nd3, D3, dn3, dc3, rfl, hd3⟩ := hp84
    rw [Int.natAbs_natCast] at hd3
    refine stepT_tail ?_
    refine stepK_store 1 rfl rfl rfl rfl rfl rfl zf103 rfl rfl hst rfl (by first | (simp [uN_length]; omega) | simp) ?_
    clear hst
    intro w85 hst
    simp only [zL, splice, Nat.reduceAdd] at hst
    refine stepK_store 2 rfl rfl rfl rfl rfl rfl zf103 rfl rfl hst rfl (by first | (simp [uN_length]; omega) | simp) ?_
    clear hst
    intro w86 hst
    simp only [zL, splice, Nat.reduceAdd] at hst
    refine wpK_nil ?_
    refine join_end (((nd1, D1, dn1, dc1), (nd3, D3, dn3, dc3), b5, b6)) ?_ ?_
    exact ⟨rfl, rfl, rfl, trivial⟩
    exact ⟨_, by first | exact hst | exact hst.perm (.cons _ (.swap ..)), hx, hd1, hd3⟩
    exact stepT_no
    exact stepT_no
    exact stepT_no
    exact stepT_no
    refine stepT_alloc rfl rfl rfl rfl rfl zf101 rfl hst0 hst (Mem.le.refl _) (by repeat (first | exact zR _ | apply zC | apply zD)) ?_ ?_
    clear hst
    intro b6 w87 hst
    refine stepT_call rfl rfl rfl rfl rfl rfl hst0 hst (Mem.le.refl _) (by repeat (first | exact zR _ | apply zC | apply zD)) (snum_Sqrt hst.agree hx.1 hn0 (by omega)) ?_ ?_
    clear hst
    intro v88 g88 w88 hst hle88 hcs88 hp88
    have hlesum := hle88
    replace hx := hx.mono hle88
    obtain ⟨nd1, D1, dn1, dc1, rfl, hd1⟩ := hp88
    refine stepT_call rfl rfl rfl rfl rfl rfl hst0 hst hlesum (by repeat (first | exact zR _ | apply zC | apply zD)) (snum_Den hst.agree hx) ?_ ?_
    clear hst
    intro v89 g89 w89 hst hle89 hcs89 hp89
    replace hlesum := Mem.le.trans hlesum hle89
    replace hx := hx.mono hle89
    replace hd1 := hd1.mono hle89
    obtain ⟨nd2, D2, dn2, dc2, rfl, hd2⟩ := hp89
    have l3 := hd2.len fa.2
    refine stepT_call rfl rfl rfl rfl rfl rfl hst0 hst hlesum (by repeat (first | exact zR _ | apply zC | apply zD)) (snum_Sqrt hst.agree hd2 (by omega) (by omega)) ?_ ?_
    clear hst
    intro v90 g90 w90 hst hle90 hcs90 hp90
    replace hlesum := Mem.le.trans hlesum hle90
    replace hx := hx.mono hle90
    replace hd1 := hd1.mono hle90
    replace hd2 := hd2.mono hle90
    obtain ⟨nd3, D3, dn3, dc3, rfl, hd3⟩ := hp90
    rw [Int.natAbs_natCast] at hd3
    refine stepT_alloc rfl rfl rfl rfl rfl zf101 rfl hst0 hst hlesum (by repeat (first | exact zR _ | apply zC | apply zD)) ?_ ?_
    clear hst
    intro b5 w91 hst
    refine stepT_tail ?_
    refine stepK_store 2 rfl rfl rfl rfl rfl rfl zf103 rfl rfl hst rfl (by first | (simp [uN_length]; omega) | simp) ?_
    clear hst
    intro w92 hst
    simp only [zL, splice, Nat.reduceAdd] at hst
    refine stepK_store 1 rfl rfl rfl rfl rfl rfl zf103 rfl rfl hst rfl (by first | (simp [uN_length]; omega) | simp) ?_
    clear hst
    intro w93 hst
    simp only [zL, splice, Nat.reduceAdd] at hst
    refine wpK_nil ?_
    refine join_end (((nd1, D1, dn1, dc1), (nd3, D3, dn3, dc3), b5, b6)) ?_ ?_
    exact ⟨rfl, rfl, rfl, trivial⟩
    exact ⟨_, by first | exact hst | exact hst.perm (.cons _ (.swap ..)), hx, hd1, hd3⟩
    exact stepT_no
    refine stepT_alloc rfl rfl rfl rfl rfl zf101 rfl hst0 hst hlesum (by repeat (first | exact zR _ | apply zC | apply zD)) ?_ ?_
    clear hst
    intro b5 w94 hst
    refine stepT_call rfl rfl rfl rfl rfl rfl hst0 hst hlesum (by repeat (first | exact zR _ | apply zC | apply zD)) (snum_Sqrt hst.agree hd2 (by omega) (by omega)) ?_ ?_
    clear hst
    intro v95 g95 w95 hst hle95 hcs95 hp95
    replace hlesum := Mem.le.trans hlesum hle95
    replace hx := hx.mono hle95
    replace hd1 := hd1.mono hle95
    replace hd2 := hd2.mono hle95
    obtain ⟨nd3, D3, dn3, dc3, rfl, hd3⟩ := hp95
    rw [Int.natAbs_natCast] at hd3
    refine stepT_tail ?_
    refine stepK_store 2 rfl rfl rfl rfl rfl rfl zf103 rfl rfl hst rfl (by first | (simp [uN_length]; omega) | simp) ?_
    clear hst
    intro w96 hst
    simp only [zL, splice, Nat.reduceAdd] at hst
    refine stepK_store 1 rfl rfl rfl rfl rfl rfl zf103 rfl rfl hst rfl (by first | (simp [uN_length]; omega) | simp) ?_
    clear hst
    intro w97 hst
    simp only [zL, splice, Nat.reduceAdd] at hst
    refine wpK_nil ?_
    refine join_end (((nd1, D1, dn1, dc1), (nd3, D3, dn3, dc3), b5, b6)) ?_ ?_
    exact ⟨rfl, rfl, rfl, trivial⟩
    exact ⟨_, by first | exact hst | exact hst.perm (.cons _ (.swap ..)), hx, hd1, hd3⟩
    exact stepT_no
    exact stepT_no
    refine stepT_alloc rfl rfl rfl rfl rfl zf101 rfl hst0 hst hlesum (by repeat (first | exact zR _ | apply zC | apply zD)) ?_ ?_
    clear hst
    intro b5 w98 hst
    refine stepT_call rfl rfl rfl rfl rfl rfl hst0 hst hlesum (by repeat (first | exact zR _ | apply zC | apply zD)) (snum_Den hst.agree hx) ?_ ?_
    clear hst
    intro v99 g99 w99 hst hle99 hcs99 hp99
    replace hlesum := Mem.le.trans hlesum hle99
    replace hx := hx.mono hle99
    replace hd1 := hd1.mono hle99
    obtain ⟨nd2, D2, dn2, dc2, rfl, hd2⟩ := hp99
    have l3 := hd2.len fa.2
    refine stepT_call rfl rfl rfl rfl rfl rfl hst0 hst hlesum (by repeat (first | exact zR _ | apply zC | apply zD)) (snum_Sqrt hst.agree hd2 (by omega) (by omega)) ?_ ?_
    clear hst
    intro v100 g100 w100 hst hle100 hcs100 hp100
    replace hlesum := Mem.le.trans hlesum hle100
    replace hx := hx.mono hle100
    replace hd1 := hd1.mono hle100
    replace hd2 := hd2.mono hle100
    obtain ⟨nd3, D3, dn3, dc3, rfl, hd3⟩ := hp100
    rw [Int.natAbs_natCast] at hd3
    refine stepT_tail ?_
    refine stepK_store 2 rfl rfl rfl rfl rfl rfl zf103 rfl rfl hst rfl (by first | (simp [uN_length]; omega) | simp) ?_
    clear hst
    intro w101 hst
    simp only [zL, splice, Nat.reduceAdd] at hst
    refine stepK_store 1 rfl rfl rfl rfl rfl rfl zf103 rfl rfl hst rfl (by first | (simp [uN_length]; omega) | simp) ?_
    clear hst
    intro w102 hst
    simp only [zL, splice, Nat.reduceAdd] at hst
    refine wpK_nil ?_
    refine join_end (((nd1, D1, dn1, dc1), (nd3, D3, dn3, dc3), b5, b6)) ?_ ?_
    exact ⟨rfl, rfl, rfl, trivial⟩
    exact ⟨_, by first | exact hst | exact hst.perm (.cons _ (.swap ..)), hx, hd1, hd3⟩
    exact stepT_no
    exact stepT_no
    exact stepT_no
    refine stepT_alloc rfl rfl rfl rfl rfl zf101 rfl hst0 hst (Mem.le.refl _) (by repeat (first | exact zR _ | apply zC | apply zD)) ?_ ?_
    clear hst
    intro b5 w103 hst
    refine stepT_call rfl rfl rfl rfl rfl rfl hst0 hst (Mem.le.refl _) (by repeat (first | exact zR _ | apply zC | apply zD)) (snum_Sqrt hst.agree hx.1 hn0 (by omega)) ?_ ?_
    clear hst
    intro v104 g104 w104 hst hle104 hcs104 hp104
    have hlesum := hle104
    replace hx := hx.mono hle104
    obtain ⟨nd1, D1, dn1, dc1, rfl, hd1⟩ := hp104
    refine stepT_call rfl rfl rfl rfl rfl rfl hst0 hst hlesum (by repeat (first | exact zR _ | apply zC | apply zD)) (snum_Den hst.agree hx) ?_ ?_
    clear hst
    intro v105 g105 w105 hst hle105 hcs105 hp105
    replace hlesum := Mem.le.trans hlesum hle105
    replace hx := hx.mono hle105
    replace hd1 := hd1.mono hle105
    obtain ⟨nd2, D2, dn2, dc2, rfl, hd2⟩ := hp105
    have l3 := hd2.len fa.2
    refine stepT_call rfl rfl rfl rfl rfl rfl hst0 hst hlesum (by repeat (first | exact zR _ | apply zC | apply zD)) (snum_Sqrt hst.agree hd2 (by omega) (by omega)) ?_ ?_
    clear hst
    intro v106 g106 w106 hst hle106 hcs106 hp106
    replace hlesum := Mem.le.trans hlesum hle106
    replace hx := hx.mono hle106
    replace hd1 := hd1.mono hle106
    replace hd2 := hd2.mono hle106
    obtain ⟨nd3, D3, dn3, dc3, rfl, hd3⟩ := hp106
    rw [Int.natAbs_natCast] at hd3
    refine stepT_tail ?_
    refine stepK_store 2 rfl rfl rfl rfl rfl rfl zf103 rfl rfl hst rfl (by first | (simp [uN_length]; omega) | simp) ?_
    clear hst
    intro w107 hst
    simp only [zL, splice, Nat.reduceAdd] at hst
    refine stepK_store 1 rfl rfl rfl rfl rfl rfl zf103 rfl rfl hst rfl (by first | (simp [uN_length]; omega) | simp) ?_
    clear hst
    intro w108 hst
    simp only [zL, splice, Nat.reduceAdd] at hst
    refine wpK_nil ?_
    refine join_end (((nd1, D1, dn1, dc1), (nd3, D3, dn3, dc3), b5, b6)) ?_ ?_
    exact ⟨rfl, rfl, rfl, trivial⟩
    exact ⟨_, by first | exact hst | exact hst.perm (.cons _ (.swap ..)), hx, hd1, hd3⟩
    exact stepT_no
    exact stepT_no
    exact stepT_no
    exact stepT_no
    exact stepT_no
  case d5 =>
    clear hst
    clear hx
    rintro ⟨⟨nd1, D1, dn1, dc1⟩, ⟨nd3, D3, dn3, dc3⟩, b5, b6⟩ w2 ⟨g2, hst, hx, hd1, hd3⟩
    simp only
    have l2 := hd1.len (k := 1099511627776) (Nat.lt_of_le_of_lt (by rw [Int.natAbs_natCast]; exact isq_le_self _) fa.1)
    have l4 := hd3.len (k := 1099511627776) (Nat.lt_of_le_of_lt (by rw [Int.natAbs_natCast]; exact isq_le_self _) (by have := fa.2; rwa [Int.natAbs_natCast] at this))
    refine cp_seq ?_
    refine cp_seq ?_
    refine cp_drawnE (by kernel_rfl) 16 [(0, true), (1, true), (3, true), (4, true), (2, false), (5, false), (6, true), (7, true), (8, true), (9, true), (11, true), (10, false), (12, false), (13, false), (14, true), (15, true)] _ rfl (by kernel_rfl) (by kernel_rfl) (by kernel_rfl) (fun _ _ _ _ _ h => h) _ (hst.drew) ?_
    have hst0 := hst.drew
    clear hst
    have hst := hst0
    refine stepE_d rfl rfl rfl rfl (does_load_ownN 1 rfl (by kernel_rfl) zf103 rfl rfl rfl) ?_
    refine stepE_d rfl rfl rfl rfl (does_load_ownN 1 rfl (by kernel_rfl) zf103 rfl rfl rfl) ?_
    refine stepE_d rfl rfl rfl rfl (does_fieldAddr rfl zf124 rfl) ?_
    refine stepE_d rfl rfl rfl rfl (does_load_ownN 0 rfl (by kernel_rfl) zf103 rfl rfl rfl) ?_
    refine stepE_call rfl rfl rfl rfl rfl rfl hst (snum_Mul hst.agree hd1 hd1 (by omega) (by omega)) (fun _ _ h hle => St.older h hle (by simp) hst0.ext hst0.le) ?_
    clear hst
    intro v109 g109 w109 hst hle109 hcs109 hp109
    have hlesum := hle109
    replace hx := hx.mono hle109
    replace hd1 := hd1.mono hle109
    replace hd3 := hd3.mono hle109
    obtain ⟨nd4, D4, dn4, dc4, rfl, hd4⟩ := hp109
    have l5 := hZmul hd4 (k := 1099511627776) (Nat.lt_of_le_of_lt (by rw [Int.natAbs_natCast]; exact isq_le_self _) fa.1) (Nat.lt_of_le_of_lt (by rw [Int.natAbs_natCast]; exact isq_le_self _) fa.1)
    refine stepE_call rfl rfl rfl rfl rfl rfl hst (snum_Cmp hst.agree hd4 hx.1 (by omega) (by omega)) (fun _ _ h hle => St.older h (Mem.le.trans hlesum hle) (by simp) hst0.ext hst0.le) ?_
    clear hst
    intro v110 g110 w110 hst hle110 hcs110 hp110
    replace hlesum := Mem.le.trans hlesum hle110
    replace hx := hx.mono hle110
    replace hd1 := hd1.mono hle110
    replace hd3 := hd3.mono hle110
    replace hd4 := hd4.mono hle110
    obtain rfl := hp110
    refine stepE_d rfl rfl rfl rfl (does_neq rfl rfl rfl) ?_
    refine stepE_d rfl rfl rfl rfl (does_move rfl rfl) ?_
    refine wpE_split (t := 25) rfl ?_ ?_
    intro s25
    have hno : ¬ SqR (getR a) := fun h => s25 (sqr_num h)
    refine stepE_pass rfl rfl rfl rfl rfl rfl rfl rfl ?_
    refine stepE_pass rfl rfl rfl rfl rfl rfl rfl rfl ?_
    refine stepE_pass rfl rfl rfl rfl rfl rfl rfl rfl ?_
    refine stepE_skip rfl rfl rfl rfl rfl rfl rfl rfl ?_
    refine stepE_skip rfl rfl rfl rfl rfl rfl rfl rfl ?_
    refine stepE_skip rfl rfl rfl rfl rfl rfl rfl rfl ?_
    refine stepE_pass rfl rfl rfl rfl rfl rfl rfl rfl ?_
    refine stepE_d rfl rfl rfl rfl (does_pick_true rfl rfl rfl) ?_
    refine stepE_tail ?_
    refine znt ?_
    refine cp_cond_true rfl ?_
    refine zsr ?_
    refine zA rfl hst rfl ?_
    refine zA rfl hst rfl ?_
    refine zn5 ?_
    refine ret2 rfl rfl rfl hst ?_
    first
    | rw [if_neg hno, decide_eq_false hno]
    | rw [if_pos hyes, decide_eq_true hyes]
    intro s25
    have hs1 := Decidable.not_not.1 s25
    refine stepE_guard rfl rfl rfl rfl rfl rfl rfl (does_load_ownN 2 rfl (by kernel_rfl) zf103 rfl rfl rfl) ?_
    refine stepE_guard rfl rfl rfl rfl rfl rfl rfl (does_load_ownN 2 rfl (by kernel_rfl) zf103 rfl rfl rfl) ?_
    refine stepE_guard rfl rfl rfl rfl rfl rfl rfl (does_load_ownN 0 rfl (by kernel_rfl) zf119 rfl rfl rfl) ?_
    refine stepE_call_guard rfl rfl rfl rfl rfl rfl rfl rfl rfl hst (snum_Mul hst.agree hd3 hd3 (by omega) (by omega)) (fun _ _ h hle => St.older h (Mem.le.trans hlesum hle) (by simp) hst0.ext hst0.le) ?_
    clear hst
    intro v111 g111 w111 hst hle111 hcs111 hp111
    replace hlesum := Mem.le.trans hlesum hle111
    replace hx := hx.mono hle111
    replace hd1 := hd1.mono hle111
    replace hd3 := hd3.mono hle111
    replace hd4 := hd4.mono hle111
    obtain ⟨nd5, D5, dn5, dc5, rfl, hd5⟩ := hp111
    have l6 := hZmul hd5 (k := 1099511627776) (Nat.lt_of_le_of_lt (by rw [Int.natAbs_natCast]; exact isq_le_self _) (by have := fa.2; rwa [Int.natAbs_natCast] at this)) (Nat.lt_of_le_of_lt (by rw [Int.natAbs_natCast]; exact isq_le_self _) (by have := fa.2; rwa [Int.natAbs_natCast] at this))
    refine stepE_call_guard rfl rfl rfl rfl rfl rfl rfl rfl rfl hst (snum_Den hst.agree hx) (fun _ _ h hle => St.older h (Mem.le.trans hlesum hle) (by simp) hst0.ext hst0.le) ?_
    clear hst
    intro v112 g112 w112 hst hle112 hcs112 hp112
    replace hlesum := Mem.le.trans hlesum hle112
    replace hx := hx.mono hle112
    replace hd1 := hd1.mono hle112
    replace hd3 := hd3.mono hle112
    replace hd4 := hd4.mono hle112
    replace hd5 := hd5.mono hle112
    obtain ⟨nd6, D6, dn6, dc6, rfl, hd6⟩ := hp112
    have l7 := hd6.len fa.2
    refine stepE_call_guard rfl rfl rfl rfl rfl rfl rfl rfl rfl hst (snum_Cmp hst.agree hd5 hd6 (by omega) (by omega)) (fun _ _ h hle => St.older h (Mem.le.trans hlesum hle) (by simp) hst0.ext hst0.le) ?_
    clear hst
    intro v113 g113 w113 hst hle113 hcs113 hp113
    replace hlesum := Mem.le.trans hlesum hle113
    replace hx := hx.mono hle113
    replace hd1 := hd1.mono hle113
    replace hd3 := hd3.mono hle113
    replace hd4 := hd4.mono hle113
    replace hd5 := hd5.mono hle113
    replace hd6 := hd6.mono hle113
    obtain rfl := hp113
    refine stepE_guard rfl rfl rfl rfl rfl rfl rfl (does_neq rfl rfl rfl) ?_
    refine stepE_d rfl rfl rfl rfl (does_pick_false rfl rfl rfl) ?_
    refine stepE_tail ?_
    refine znt ?_
    refine cp_if rfl ?_ ?_
    intro c33
    have hno : ¬ SqR (getR a) := fun h => c33 (sqr_den h)
    refine zsr ?_
    refine zA rfl hst rfl ?_
    refine zA rfl hst rfl ?_
    refine zn5 ?_
    refine ret2 rfl rfl rfl hst ?_
    first
    | rw [if_neg hno, decide_eq_false hno]
    | rw [if_pos hyes, decide_eq_true hyes]
    intro c33
    have hyes : SqR (getR a) := sqr_mk hn0 hs1 (Decidable.not_not.1 c33)
    refine zk4 ?_
    refine stepK_d rfl rfl rfl hst (does_load_ownN 1 rfl (by kernel_rfl) zf103 rfl rfl rfl) ?_
    refine stepK_d rfl rfl rfl hst (does_load_ownN 2 rfl (by kernel_rfl) zf103 rfl rfl rfl) ?_
    refine stepK_call rfl rfl rfl rfl rfl hst (snum_Frac hst.agree hd1 hd3 (by have := isq_pos (Nat.pos_of_ne_zero (getR a).den_nz); omega) (by omega) (by omega)) ?_
    clear hst
    intro v114 g114 w114 hst hle114 hcs114 hp114
    replace hx := hx.mono hle114
    replace hd1 := hd1.mono hle114
    replace hd3 := hd3.mono hle114
    replace hd4 := hd4.mono hle114
    replace hd5 := hd5.mono hle114
    replace hd6 := hd6.mono hle114
    obtain ⟨_, _, _, _, _, _, _, _, rfl, hq9⟩ := hp114
    replace hq9 := hq9.to (root_divInt hyes)
    refine stepK_call rfl rfl rfl rfl rfl hst (snum_Text hst.agree hq9 (Sz.fitH (rootR_sz sa) (by omega))) ?_
    clear hst
    intro v115 g115 w115 hst hle115 hcs115 hp115
    replace hx := hx.mono hle115
    replace hd1 := hd1.mono hle115
    replace hd3 := hd3.mono hle115
    replace hd4 := hd4.mono hle115
    replace hd5 := hd5.mono hle115
    replace hd6 := hd6.mono hle115
    replace hq9 := hq9.mono hle115
    obtain rfl := hp115
    refine zA rfl hst rfl ?_
    refine zA rfl hst rfl ?_
    refine znt ?_
    refine cp_ret ?_
    refine ret2 rfl rfl rfl hst ?_
    first
    | rw [if_neg hno, decide_eq_false hno]
    | rw [if_pos hyes, decide_eq_true hyes]

end Go.Proofs.YtbamjcfdlgnicaaGreatDoor
