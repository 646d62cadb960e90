/- The sanity check of the modular chapter. No program occurs here. -/
import Derived.Test.YtcjhnkmoloiepaaDoorP2
import Derived.Test.YtcjhnkmoloiepaaDoorKT
namespace Go.Proofs.Vc
open Go Go.RowKit
set_option linter.unusedVariables false
theorem IntL.put {g : Mem} {b : Nat} {l : List Int} {t : TypeId} {f : Nat × Nat} (h : ∀ z ∈ l, I64z z) : IntL (gput g b (.cells (l.map (Value.int .i64)).toArray t f)) (some ⟨b, 0, none⟩) l.length l :=
  ⟨rfl, h, .inr ⟨b, 0, rfl, fun j z hj => by
    rw [Nat.zero_add, gcell_put]
    simp [hj]⟩⟩
theorem t8' : ratS (((8 : Int)) : Rat) = ⟨#[56]⟩ := by rw [ratS_eval (n := 8) (d := 1) (by decide +kernel) (by decide +kernel)]; decide +kernel
theorem t15' : ratS (((15 : Int)) : Rat) = ⟨#[49, 53]⟩ := by rw [ratS_eval (n := 15) (d := 1) (by decide +kernel) (by decide +kernel)]; decide +kernel
theorem thalf : ratS (1 / 2) = ⟨#[49, 47, 50]⟩ := by rw [ratS_eval (n := 1) (d := 2) (by decide +kernel) (by decide +kernel)]; decide +kernel
theorem prm3 : Prm 3 := prm_of (n := 3) (k := 2) (by decide) (by decide) (by decide) (by decide +kernel)
theorem prm5 : Prm 5 := prm_of (n := 5) (k := 3) (by decide) (by decide) (by decide) (by decide +kernel)
theorem comb_awake : combR [2, 3] [3, 5] = (⟨#[56]⟩, ⟨#[49, 53]⟩, 0) := by
  rw [combR_ok (rs := [2, 3]) (ps := [3, 5]) rfl (by decide) (fun p hp => by
    simp only [List.mem_cons, List.not_mem_nil, or_false] at hp
    rcases hp with rfl | rfl
    · exact prm3
    · exact prm5) (by decide)]
  have e1 : (cbRun [2, 3] [3, 5] [(3 : Int), 5].length).v = 8 := by decide +kernel
  have e2 : (cbRun [2, 3] [3, 5] [(3 : Int), 5].length).m = 15 := by decide +kernel
  rw [e1, e2, t8', t15']
theorem rec_awake {s : ByteArray} {ok : Bool} (h : RecPost ⟨#[56]⟩ ⟨#[49, 53]⟩ s ok) : s = ⟨#[49, 47, 50]⟩ ∧ ok = true := by
  have e1 : getR ⟨#[56]⟩ = ((8 : Int) : Rat) := getR_eval t8'
  have e2 : getR ⟨#[49, 53]⟩ = ((15 : Int) : Rat) := getR_eval t15'
  have hin : RecIn ⟨#[56]⟩ ⟨#[49, 53]⟩ := by
    refine ⟨by rw [readR_eval t8']; rfl, by rw [readR_eval t15']; rfl, ?_, ?_, ?_⟩
    · rw [e1]; rfl
    · rw [e2]; rfl
    · rw [e2]; decide +kernel
  obtain ⟨o, h1, h2, h3⟩ := h.2 hin
  rw [e1, e2] at h1
  have h4 : RecIs ((15 : Int) : Rat).num ((8 : Int) : Rat).num (some (1 / 2)) := by
    refine ⟨2, fun j hj => ?_, ?_, fun _ => ?_, fun hn => absurd ?_ hn⟩
    · rcases (show j = 0 ∨ j = 1 by omega) with rfl | rfl
      · show ¬ (2 * 8 * 8 : Int) < 15; decide
      · show ¬ (2 * 7 * 7 : Int) < 15; decide
    · show (2 * 1 * 1 : Int) < 15; decide
    · congr 1 <;> decide +kernel
    · refine ⟨?_, ?_, ?_⟩
      · show (2 * 2 * 2 : Int) < 15; decide
      · show Int.gcd 2 15 = 1; decide
      · show Int.gcd 1 2 = 1; decide
  have h5 := RecIs.unique h1 h4
  subst h5
  exact ⟨by rw [h3]; exact thalf, h2⟩
theorem invM_one {p : Int} (hp : Prm p) : invM 1 p = 1 := by
  have h := hp.1
  unfold invM powM
  rw [Int.emod_eq_of_lt (by decide) (by omega)]
  show (((1 : Nat) ^ (p - 2).toNat % p.toNat : Nat) : Int) = 1
  rw [Nat.one_pow, Nat.mod_eq_of_lt (by omega)]
  rfl
theorem redM_int {p x : Int} (hp : Prm p) : redM (x : Rat) p = x % p := by
  unfold redM
  rw [Rat.num_intCast, Rat.den_intCast, show (((1 : Nat)) : Int) = 1 from rfl, invM_one hp, Int.mul_one, Int.emod_emod]
theorem redOk_text {p : Int} {r : Rat} (hp : Prm p) (h : ¬ (r.den : Int) % p = 0) : RedOk (ratS r) p := ⟨hp, by rw [readR_text]; rfl, by rw [getR_text]; exact h⟩
theorem den_one_mod {p x : Int} (hp : Prm p) : ¬ (((x : Rat)).den : Int) % p = 0 := by
  rw [Rat.den_intCast]
  show ¬ (1 : Int) % p = 0
  have := hp.1
  rw [Int.emod_eq_of_lt (by decide) (by omega)]
  decide
theorem modL {a p : Int} (hp : 0 < p) : (a.tmod p + p).tmod p = a % p := by
  have h1 := Int.emod_nonneg a (show p ≠ 0 by omega)
  have h2 := Int.emod_lt_of_pos a hp
  have h3 := Int.mul_ediv_add_emod a p
  have h4 := tmod_fix a p hp
  have hb : 0 ≤ a.tmod p + p := by
    by_cases h : a.tmod p < 0
    · rw [if_pos h] at h4; omega
    · omega
  rw [Int.tmod_eq_emod_of_nonneg hb, Int.add_emod_right]
  by_cases h : a.tmod p < 0
  · rw [if_pos h] at h4
    rw [show a.tmod p = a % p - p by omega, Int.sub_emod, Int.emod_emod, Int.emod_self, Int.sub_zero, Int.emod_emod]
  · rw [if_neg h] at h4
    rw [h4, Int.emod_emod]
theorem IsRes.inv {p : Int} {r : Rat} {y : Int} (hp : Prm p) (hr : ¬ (r.den : Int) % p = 0) (h : IsRes p r y) (hy : ¬ y % p = 0) : ¬ ((r⁻¹).den : Int) % p = 0 ∧ IsRes p r⁻¹ (invM y p) := by
  obtain ⟨h1, h2, h3⟩ := h
  have hp0 := hp.1
  obtain ⟨k1, k2⟩ := invM_bound (a := y) hp0
  have hi := invM_spec hp hy
  have hnum : ¬ r.num % p = 0 := fun e => by
    have e2 : y * (r.den : Int) % p = 0 := by
      rw [emod_zero_iff] at *
      obtain ⟨u, hu⟩ := h3
      obtain ⟨w, hw⟩ := e
      exact ⟨u + w, by rw [Int.mul_add, ← hu, ← hw]; omega⟩
    exact prm_mul hp hy hr e2
  have hr0 : r ≠ 0 := fun e => hnum (by rw [e]; exact Int.zero_emod p)
  have hc := cross_mul r⁻¹ r
  rw [Rat.inv_mul_cancel _ hr0] at hc
  have hc2 : (r⁻¹).num * r.num = (r.den : Int) * ((r⁻¹).den : Int) := by
    have e1 : (1 : Rat).num = 1 := rfl
    have e2 : (((1 : Rat).den : Nat) : Int) = 1 := rfl
    rw [e1, e2, Int.one_mul, Int.mul_one] at hc
    rw [← hc, Int.mul_comm]
  refine IsRes.of_frac hp hc2 hnum k1 k2 ?_
  obtain ⟨u, hu⟩ := emod_zero_iff.1 h3
  obtain ⟨w, hw⟩ : p ∣ y * invM y p - 1 := by
    rw [← emod_zero_iff, Int.sub_emod, hi, Int.emod_eq_of_lt (show (0 : Int) ≤ 1 by decide) (by omega)]
    rfl
  rw [emod_zero_iff]
  refine ⟨w * (r.den : Int) - invM y p * u, ?_⟩
  have e : r.num = y * (r.den : Int) - p * u := by omega
  rw [e]
  generalize invM y p = i at *
  generalize (r.den : Int) = d at *
  have e3 : y * i = p * w + 1 := by omega
  grind
/-- what the residues of two numbers say of their sum, product and quotient -/
theorem redM_add {a b : ByteArray} {p : Int} (ha : RedOk a p) (hb : RedOk b p) : ¬ ((getR a + getR b).den : Int) % p = 0 ∧ redM (getR a + getR b) p = (redM (getR a) p + redM (getR b) p) % p := by
  obtain ⟨h1, h2⟩ := IsRes.add ha.1 ha.2.2 hb.2.2 (redM_spec ha.1 ha.2.2) (redM_spec hb.1 hb.2.2)
  exact ⟨h1, IsRes.unique ha.1 h1 (redM_spec ha.1 h1) h2⟩
theorem redM_mul {a b : ByteArray} {p : Int} (ha : RedOk a p) (hb : RedOk b p) : ¬ ((getR a * getR b).den : Int) % p = 0 ∧ redM (getR a * getR b) p = redM (getR a) p * redM (getR b) p % p := by
  obtain ⟨h1, h2⟩ := IsRes.mul ha.1 ha.2.2 hb.2.2 (redM_spec ha.1 ha.2.2) (redM_spec hb.1 hb.2.2)
  exact ⟨h1, IsRes.unique ha.1 h1 (redM_spec ha.1 h1) h2⟩
theorem redM_div {a b : ByteArray} {p : Int} (ha : RedOk a p) (hb : RedOk b p) (hy : ¬ redM (getR b) p % p = 0) : ¬ ((getR a / getR b).den : Int) % p = 0 ∧ redM (getR a / getR b) p = redM (getR a) p * invM (redM (getR b) p) p % p := by
  obtain ⟨k1, k2⟩ := IsRes.inv hb.1 hb.2.2 (redM_spec hb.1 hb.2.2) hy
  rw [Rat.div_def]
  obtain ⟨h1, h2⟩ := IsRes.mul ha.1 ha.2.2 k1 (redM_spec ha.1 ha.2.2) k2
  exact ⟨h1, IsRes.unique ha.1 h1 (redM_spec ha.1 h1) h2⟩
def NxtR (n p : Int) (ok : Bool) : Prop := (ok = true ∧ NextIs n p) ∨ (ok = false ∧ p = 0 ∧ 2147483647 ≤ n)
theorem nxt_of {n : Int} {v : Value} (h : (∃ p, NextIs n p ∧ v = .tuple #[.int .i64 p, .bool true]) ∨ (2147483647 ≤ n ∧ v = .tuple #[.int .i64 0, .bool false])) : ∃ p ok, v = .tuple #[.int .i64 p, .bool ok] ∧ NxtR n p ok := by
  rcases h with ⟨p, h1, h2⟩ | ⟨h1, h2⟩
  · exact ⟨p, true, h2, .inl ⟨rfl, h1⟩⟩
  · exact ⟨0, false, h2, .inr ⟨rfl, rfl, h1⟩⟩
theorem NxtR.unique {n p q : Int} {a b : Bool} (h : NxtR n p a) (k : NxtR n q b) : p = q ∧ a = b := by
  rcases h with ⟨h1, h2⟩ | ⟨h1, h2, h3⟩ <;> rcases k with ⟨k1, k2⟩ | ⟨k1, k2, k3⟩
  · exact ⟨h2.unique k2, by rw [h1, k1]⟩
  · exact absurd h2 (next_none k3)
  · exact absurd k2 (next_none h3)
  · exact ⟨by rw [h2, k2], by rw [h1, k1]⟩
end Go.Proofs.Vc
