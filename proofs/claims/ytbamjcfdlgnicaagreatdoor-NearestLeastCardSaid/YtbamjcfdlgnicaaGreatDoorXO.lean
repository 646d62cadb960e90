/- A helper of the claim: general lemmas and walks of functions, printed by a program of this session. Conditions: none. -/
import Derived.Test.YtbamjcfdlgnicaaGreatDoorXN
import Derived.Test.YtbamjcfdlgnicaaGreatDoorQ2
import Derived.Test.YtbamjcfdlgnicaaGreatDoorQ3
import Derived.Test.YtbamjcfdlgnicaaGreatDoorQ1
import Derived.Test.YtbamjcfdlgnicaaGreatDoorQX
import Derived.OpenShut
import Derived.ChangeSlices
namespace Go.Proofs.Vc
open Go
theorem inv_anti {x y : Rat} (hx : 0 < x) (h : x ≤ y) : y⁻¹ ≤ x⁻¹ := by
  have hy : 0 < y := Std.lt_of_lt_of_le hx h
  obtain ⟨i1, i2⟩ := inv_parts (pos_num.1 hx)
  obtain ⟨j1, j2⟩ := inv_parts (pos_num.1 hy)
  have h1 := pos_num.1 hx
  have h2 := pos_num.1 hy
  rw [Rat.le_iff] at h
  rw [Rat.le_iff, i1, i2, j1, j2, Int.natAbs_of_nonneg (by omega), Int.natAbs_of_nonneg (by omega), Int.mul_comm, Int.mul_comm (x.den : Int)]
  exact h
theorem sub_mono {x y : Rat} (f : Rat) (h : x ≤ y) : x - f ≤ y - f := by
  rw [Rat.sub_eq_add_neg, Rat.sub_eq_add_neg]
  exact Rat.add_le_add_right.2 h
theorem add_back (f x : Rat) : f + (x - f) = x := by
  rw [Rat.sub_eq_add_neg, Rat.add_comm, Rat.add_assoc, Rat.neg_add_cancel, Rat.add_zero]
theorem simpF_mem : ∀ (n : Nat) (lo hi : Rat), 0 < lo → lo ≤ hi → lo.den + hi.den ≤ n → lo ≤ simpF n lo hi ∧ simpF n lo hi ≤ hi
  | 0, lo, hi, h0, h, hn => by have := lo.den_nz; omega
  | n + 1, lo, hi, h0, h, hn => by
    by_cases hc : ((ceilR lo : Int) : Rat) ≤ hi
    · rw [simpF_eq hc]
      exact ⟨ceilR_le.1 (Int.le_refl _), hc⟩
    · rw [simpF_more hc]
      obtain ⟨hf0, c1, c2, c4, c5, hle⟩ := simp_step h0 h hc
      obtain ⟨d1, d2, d3, d4⟩ := simp_den h0 h hc
      have hp := simp_pos h0 h hc
      obtain ⟨m1, m2⟩ := simpF_mem n _ _ hp hle (by omega)
      have hR := simpF_pos hp hle (n := n) (by omega)
      have k1 := inv_anti hp m1
      have k2 := inv_anti hR m2
      rw [Rat.inv_inv] at k1 k2
      have e1 := add_back (lo.floor : Rat) lo
      have e2 := add_back (lo.floor : Rat) hi
      constructor
      · conv => lhs; rw [← e1]
        exact Rat.add_le_add_left.2 k2
      · conv => rhs; rw [← e2]
        exact Rat.add_le_add_left.2 k1
theorem simpF_best : ∀ (n : Nat) (lo hi y : Rat), 0 < lo → lo ≤ y → y ≤ hi → lo.den + hi.den ≤ n → (simpF n lo hi).num ≤ y.num ∧ (simpF n lo hi).den ≤ y.den
  | 0, lo, hi, y, h0, h1, h2, hn => by have := lo.den_nz; omega
  | n + 1, lo, hi, y, h0, h1, h2, hn => by
    have h : lo ≤ hi := Rat.le_trans h1 h2
    have hy0 := pos_num.1 (Std.lt_of_lt_of_le h0 h1)
    have hyd := y.den_nz
    by_cases hc : ((ceilR lo : Int) : Rat) ≤ hi
    · rw [simpF_eq hc, Rat.num_intCast, Rat.den_intCast]
      refine ⟨ceilR_le.2 (Rat.le_trans h1 ?_), by omega⟩
      rw [Rat.le_iff, Rat.num_intCast, Rat.den_intCast]
      exact Int.mul_le_mul_of_nonneg_left (show ((1 : Nat) : Int) ≤ (y.den : Int) by omega) (by omega)
    · rw [simpF_more hc]
      obtain ⟨hf0, c1, c2, c4, c5, hle⟩ := simp_step h0 h hc
      obtain ⟨d1, d2, d3, d4⟩ := simp_den h0 h hc
      have hp := simp_pos h0 h hc
      have q1 : 0 < lo - (lo.floor : Rat) := pos_num.2 c1
      have q2 := sub_mono (lo.floor : Rat) h1
      have q3 := sub_mono (lo.floor : Rat) h2
      have q4 : 0 < y - (lo.floor : Rat) := Std.lt_of_lt_of_le q1 q2
      obtain ⟨r1, r2⟩ := simpF_best n _ _ (y - (lo.floor : Rat))⁻¹ hp (inv_anti q4 q3) (inv_anti q1 q2) (by omega)
      have hR := pos_num.1 (simpF_pos hp hle (n := n) (by omega))
      obtain ⟨i1, i2⟩ := inv_parts (pos_num.1 q4)
      obtain ⟨s1, s2⟩ := sub_parts y lo.floor
      have c3 := pos_num.1 q4
      rw [i1, s2] at r1
      rw [i2] at r2
      rw [s1] at r2 c3
      obtain ⟨R, hRe⟩ : ∃ R, R = simpF n (hi - (lo.floor : Rat))⁻¹ (lo - (lo.floor : Rat))⁻¹ := ⟨_, rfl⟩
      obtain ⟨f, hf⟩ : ∃ f, f = lo.floor := ⟨_, rfl⟩
      rw [← hRe] at r1 r2 hR ⊢
      rw [← hf] at hf0 r2 c3 ⊢
      obtain ⟨z1, z2⟩ := inv_parts hR
      obtain ⟨t1, t2⟩ := sub_parts R⁻¹ (-f)
      have e : R⁻¹ - ((-f : Int) : Rat) = (f : Rat) + R⁻¹ := by rw [Rat.intCast_neg, Rat.sub_eq_add_neg, Rat.neg_neg, Rat.add_comm]
      rw [e, z1, z2, Int.neg_mul, Int.natAbs_of_nonneg (by omega)] at t1
      rw [e, z2] at t2
      rw [t1, t2]
      have m1 := Int.mul_le_mul_of_nonneg_left r1 hf0
      exact ⟨by omega, by omega⟩
theorem simpZ_mem {lo hi : Rat} (h : lo ≤ hi) : lo ≤ simpZ lo hi ∧ simpZ lo hi ≤ hi := by
  by_cases h0 : 0 < lo
  · rw [simpZ_pos h0]
    exact simpF_mem _ _ _ h0 h (Nat.le_refl _)
  · by_cases h9 : hi < 0
    · rw [simpZ_neg h0 h9]
      obtain ⟨m1, m2⟩ := simpF_mem _ _ _ (rat_neg_pos h9) (Rat.neg_le_neg h) (Nat.le_refl _)
      have k1 := Rat.neg_le_neg m1
      have k2 := Rat.neg_le_neg m2
      rw [Rat.neg_neg] at k1 k2
      exact ⟨k2, k1⟩
    · rw [simpZ_zero h0 h9]
      exact ⟨Rat.not_lt.1 h0, Rat.not_lt.1 h9⟩
theorem simpZ_best {lo hi y : Rat} (h1 : lo ≤ y) (h2 : y ≤ hi) : (simpZ lo hi).den ≤ y.den := by
  have hyd := y.den_nz
  by_cases h0 : 0 < lo
  · rw [simpZ_pos h0]
    exact (simpF_best _ _ _ _ h0 h1 h2 (Nat.le_refl _)).2
  · by_cases h9 : hi < 0
    · rw [simpZ_neg h0 h9, Rat.neg_den]
      have := (simpF_best _ _ _ (-y) (rat_neg_pos h9) (Rat.neg_le_neg h2) (Rat.neg_le_neg h1) (Nat.le_refl _)).2
      rwa [Rat.neg_den] at this
    · rw [simpZ_zero h0 h9]
      show 1 ≤ y.den
      omega
theorem divInt_den_le {C : Int} {q : Nat} (hq : 0 < q) : (Rat.divInt C (q : Int)).den ≤ q := by
  rw [Rat.divInt_ofNat]
  have h := Rat.den_mkRat C q
  rw [h]
  split
  · omega
  · exact Nat.div_le_self _ _
/-- with a denominator below that of the simplest fraction, the least multiple above lo lies beyond hi -/
theorem simpZ_least {lo hi : Rat} {q : Nat} (hq : 0 < q) (hd : q < (simpZ lo hi).den) : ¬ Rat.divInt (ceilR (lo * ((q : Int) : Rat))) (q : Int) ≤ hi := by
  intro h
  have h1 : lo ≤ Rat.divInt (ceilR (lo * ((q : Int) : Rat))) (q : Int) := by
    have hp : (0 : Rat) < ((q : Int) : Rat) := Rat.intCast_lt_intCast.2 (show (0 : Int) < (q : Int) by omega)
    refine Rat.le_of_mul_le_mul_right ?_ hp
    rw [Rat.divInt_eq_div, Rat.div_mul_cancel (fun e => by rw [e] at hp; exact absurd hp Rat.lt_irrefl)]
    exact ceilR_le.1 (Int.le_refl _)
  have h2 := simpZ_best h1 h
  have h3 := divInt_den_le (C := ceilR (lo * ((q : Int) : Rat))) hq
  omega
end Go.Proofs.Vc

namespace Go.Proofs.Vc
open Go Go.RowKit
set_option linter.unusedVariables false
/-- a slice of n ints whose cells are kept -/
def IntS (g : Mem) (A : Option Addr) (n : Nat) : Prop := n = 0 ∨ ∃ b off, A = some ⟨b, off, none⟩ ∧ ∀ j, j < n → ∃ z, gcell g b (off + j) = some (.int .i64 z) ∧ -9223372036854775808 ≤ z ∧ z ≤ 9223372036854775807
theorem IntS.mono {g g' : Mem} {A : Option Addr} {n : Nat} (h : IntS g A n) (hle : g.le g') : IntS g' A n :=
  h.imp id fun ⟨b, off, e, hc⟩ => ⟨b, off, e, fun j hj => by
    obtain ⟨z, h1, h2⟩ := hc j hj
    exact ⟨z, gcell_le hle h1, h2⟩⟩
theorem IntS.less {g : Mem} {A : Option Addr} {n m : Nat} (h : IntS g A n) (hm : m ≤ n) : IntS g A m := by
  rcases h with h | ⟨b, off, e, hc⟩
  · exact .inl (by omega)
  · exact .inr ⟨b, off, e, fun j hj => hc j (by omega)⟩
theorem IntS.cell {g : Mem} {A : Option Addr} {n j : Nat} (h : IntS g A n) (hj : j < n) : ∃ b off z, A = some ⟨b, off, none⟩ ∧ gcell g b (off + j) = some (.int .i64 z) ∧ -9223372036854775808 ≤ z ∧ z ≤ 9223372036854775807 := by
  rcases h with h | ⟨b, off, e, hc⟩
  · omega
  · obtain ⟨z, h1, h2⟩ := hc j hj
    exact ⟨b, off, z, e, h1, h2⟩
theorem tmod_bounds {z : Int} {m : Nat} (hm : 0 < m) : -(m : Int) < z.tmod (m : Int) ∧ z.tmod (m : Int) < (m : Int) := by
  have h5 := Int.emod_nonneg z (show (m : Int) ≠ 0 by omega)
  have h6 := Int.emod_lt_of_pos z (show (0 : Int) < (m : Int) by omega)
  rw [Int.tmod_eq_emod]
  split
  · exact ⟨by omega, by omega⟩
  · exact ⟨by omega, by omega⟩
end Go.Proofs.Vc

namespace Go.Proofs.Vc
open Go Go.RowKit
set_option linter.unusedVariables false
variable {P : Program} {ops : Array Oper} {Q : Exit → Act → World → Prop} {n i : Nat} {kn : Kn} {o : Oper} {w0 w ws : World} {M : List Nat} {g0 g1 gS : Mem} {own1 ownS : List (Nat × Obj)} {d : Nat} {tail : List Oper} {r more : Sch}
theorem stepT_callM {f : FuncId} {args : List Operand} {ts : Array TypeId} {vs : List Value} {b : Nat} {ob : Obj} {Post : Value → Mem → Obj → Prop} (k : Nat) (hi : ops[i]? = some o) (hdst : o.dst = some d) (hg : o.guard = none) (hd : Nat.ble (d + 1) n = true)
    (ho : o.op = .call { callee := .value (.func f), args := args.toArray, argTypes := ts }) (hvs : kevs kn args = some vs) (h0 : St w0 M g0 gS ownS ws) (hst : St w0 M g0 g1 own1 w) (hk : own1[k]? = some (b, ob)) (hle : gS.le g1) (hsub : ∀ o', List.Sublist ownS (own1.set k (b, o'))) (hc : CallTo P f vs.toArray w (RetM w b g1 Post))
    (h : ∀ v g' o' w', St w0 M g0 g' (own1.set k (b, o')) w' → g1.le g' → Post v g' o' → wpT P ops Q n (St w0 M g0 gS ownS) tail r ((d, v) :: kn) w') (hmore : wpT P ops Q n (St w0 M g0 gS ownS) tail more kn w) : wpT P ops Q n (St w0 M g0 gS ownS) tail (.e i r more) kn w :=
  ⟨⟨o, hi, fun a ha => ⟨by simp [Region.wanted, hg], oper_call ho ha hvs hc fun e w' hr => by
    obtain ⟨v, g', o', rfl, hs, hp⟩ := hr
    have hx := hst.callM k hk hs
    exact ⟨v, rfl, hx.1.older (hle.trans hx.2) (hsub o') h0.ext h0.le, _, by rw [hdst]; exact ha.put (Nat.le_of_ble_eq_true hd) v, h v g' o' w' hx.1 hx.2 hp⟩⟩⟩, hmore⟩
end Go.Proofs.Vc

namespace Go.Proofs.Vc
open Go
theorem divInt_sz {x : Int} {D k : Nat} (hx : x.natAbs < 10 ^ k) (hD : D < 10 ^ k) (h0 : D ≠ 0) : Sz k (Rat.divInt x (D : Int)) := by
  have h := read_size (neg := decide (x < 0)) hx hD h0
  rwa [sg_int] at h
theorem divInt_nonneg' {x D : Nat} : 0 ≤ Rat.divInt (x : Int) (D : Int) := Rat.divInt_nonneg (Int.natCast_nonneg _) (Int.natCast_nonneg _)
theorem le_add_pos {x y : Rat} (h : 0 ≤ y) : x ≤ x + y := by
  have := (Rat.add_le_add_left (a := 0) (b := y) (c := x)).2 h
  rwa [Rat.add_zero] at this
end Go.Proofs.Vc

namespace Go.Proofs.Vc
open Go Go.ChangeShapes Go.WideShapes Go.RowKit
set_option linter.unusedVariables false
theorem ints_row {P : Program} {W : World} {H : Type} {enc : TypeId × Value → H} {t e : TypeId} {d : DataW H} {p : List MemPlace} {A : Option Addr} {n c : Nat} (ht : P.underlying t = some (.slice e)) (he : P.underlying e = some (.int .i64)) (hc : P.cellsOf e = 1)
    (h : DataW.Trod enc P W 0 (fun _ => true) true t (.slice A n c) d p) : IntS (gAll W) A n ∧ n ≤ c ∧ n ≤ 9223372036854775807 := by
  obtain ⟨fuel, hf⟩ := h
  rcases open_ints ht he hc hf with ⟨hcs, _⟩ | ⟨x, l, cp, zs, hcs, _, hl, hm, hz, _, hcell, hwz⟩
  · simp [Value.cells] at hcs
    obtain ⟨rfl, rfl, rfl⟩ := hcs
    exact ⟨.inl rfl, Nat.le_refl _, Nat.zero_le _⟩
  · simp [Value.cells] at hcs
    obtain ⟨rfl, rfl, rfl⟩ := hcs
    have hz9 : zs.length = c := by simpa using hz
    have hm9 : c ≤ 9223372036854775807 := Nat.le_trans hm (by decide)
    refine ⟨?_, hl, by omega⟩
    rcases Nat.eq_zero_or_pos n with h9 | h9
    · exact .inl h9
    · obtain ⟨b, off, e9, hc9⟩ := ints_at hcell (by omega)
      refine .inr ⟨b, off, by rw [e9], fun j hj => ?_⟩
      have hj9 : j < zs.length := by omega
      have hw := hwz (zs.getD j 0) (by rw [List.getD_eq_getElem?_getD, List.getElem?_eq_getElem hj9]; exact List.getElem_mem hj9)
      simp only [Lit.wf, Bool.and_eq_true, decide_eq_true_eq] at hw
      exact ⟨zs.getD j 0, gAll_cell (hc9 j hj9), hw.1, hw.2⟩
end Go.Proofs.Vc
