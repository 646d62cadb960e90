/- A helper of the claim: general lemmas and walks of functions, printed by a program of this session. Conditions: none. -/
import Derived.Test.YtcjhnkmoloiepaaDoorQ2
import Derived.WalkKit
import Derived.ProofKit
import Derived.OpenShut
import Derived.Deep.DeepHandedRow
import Derived.Lib.LaidTab
import Derived.Below
import Derived.ChangeSame
import Derived.Carry
import Derived.SliceStrings
namespace Go.Proofs.Vc
open Go Go.RowKit
set_option linter.unusedVariables false
set_option linter.unusedSimpArgs false
set_option linter.unusedSectionVars false
/-- what a call comes to that hands back blocks which nobody else knows -/
def RetO (w : World) (g : Mem) (Post : Value → Mem → List (Nat × Obj) → Prop) (e : Ending) (w' : World) : Prop := ∃ v g' own', e = .returned v ∧ St w [] g g' own' w' ∧ Post v g' own'
section
variable {P : Program} {ops : Array Oper} {Q : Exit → Act → World → Prop} {n : Nat} {kn : Kn} {o : Oper} {rest : List Oper} {w0 w w' : World} {M : List Nat} {g0 g g' : Mem} {own own' : List (Nat × Obj)} {d : Nat} {fn : Func}
theorem retO1 {Post : Value → Mem → List (Nat × Obj) → Prop} {t : Tmp} {v : Value} (hr : fn.results = #[.tmp t]) (hv : kget kn t = some v) (hst : St w0 [] g0 g own w) (h : Post v g own) : atK (bodyPost P fn (RetO w0 g0 Post) .ret) n kn w := fun a ha =>
  ⟨ha.defers, v, by rw [results_tmp hr, ha.get t v hv], v, g, own, rfl, hst, h⟩
theorem St.callO (h : St w0 M g0 g own w) (k : St w [] g g' own' w') : St w0 M g0 g' (own ++ own') w' ∧ g.le g' := by
  obtain ⟨h1, h2⟩ := h.call k.forget
  refine ⟨⟨h1.os, h1.tape, h1.output, h1.size, h1.block, h1.agree, h1.le, h1.ext, ?_, ?_⟩, h2⟩
  · intro p hp
    rcases List.mem_append.1 hp with hp | hp
    · exact h1.owns p hp
    · obtain ⟨e1, e2, e3⟩ := k.owns p hp
      refine ⟨e1, e2, .inl ?_⟩
      have h3 : w.heap.size ≤ p.1 := by simpa using e3
      exact Nat.le_trans h.size h3
  · rw [List.map_append, List.nodup_append]
    refine ⟨h.nodup, k.nodup, ?_⟩
    intro a ha b hb
    obtain ⟨p, hp, rfl⟩ := List.mem_map.1 ha
    obtain ⟨q, hq, rfl⟩ := List.mem_map.1 hb
    have h3 := h.own_lt hp
    have h4 : w.heap.size ≤ q.1 := by simpa using (k.owns q hq).2.2
    omega
theorem stepK_callO {f : FuncId} {args : List Operand} {ts : Array TypeId} {vs : List Value} {Post : Value → Mem → List (Nat × Obj) → Prop} (hdst : o.dst = some d) (hg : o.guard = none) (hd : Nat.ble (d + 1) n = true) (ho : o.op = .call { callee := .value (.func f), args := args.toArray, argTypes := ts })
    (hvs : kevs kn args = some vs) (hst : St w0 M g0 g own w) (hc : CallTo P f vs.toArray w (RetO w g Post))
    (h : ∀ v g' own' w', St w0 M g0 g' (own ++ own') w' → g.le g' → Post v g' own' → wpK P ops Q n rest ((d, v) :: kn) w') : wpK P ops Q n (o :: rest) kn w := by
  intro a ha
  refine wpList_plain hg fun K hK => ?_
  refine oper_call ho ha hvs hc fun e w' hr => ?_
  obtain ⟨v, g', own', rfl, hs, hp⟩ := hr
  refine ⟨v, rfl, hK _ _ ?_⟩
  have hx := hst.callO hs
  rw [hdst]
  exact h v g' own' w' hx.1 hx.2 hp _ (ha.put (Nat.le_of_ble_eq_true hd) v)
end
end Go.Proofs.Vc

namespace Go.Proofs.Vc
open Go Go.RowKit
set_option linter.unusedVariables false
set_option linter.unusedSimpArgs false
set_option linter.unusedSectionVars false
section
variable {P : Program} {kn : Kn} {S : World → Prop} {o : Oper} {t yt s d : TypeId} {x y : Operand} {a b : Nat} {k : IntKind}
theorem does_widen32 (ho : o.op = .convert s d x) (hs : (P.underlying s).isSome = true) (hd : P.underlying d = some (.int .u64)) (hx : kev kn x = some (.int k (a : Int))) (ha : a < 4294967296) : Does P S kn o (.int .u64 (a : Int)) :=
  Does.nat (does_conv_n_u64 ho hs hd hx) (by rw [Nat.mod_eq_of_lt (by omega)])
theorem does_add_u64x (ho : o.op = .binOp .add t x y yt) (hx : kev kn x = some (.int .u64 (a : Int))) (hy : kev kn y = some (.int .u64 (b : Int))) (h : a + b < 18446744073709551616) : Does P S kn o (.int .u64 ((a + b : Nat) : Int)) :=
  Does.nat (does_add_u64 ho hx hy) (by rw [Nat.mod_eq_of_lt h])
theorem does_mul_u64x (ho : o.op = .binOp .mul t x y yt) (hx : kev kn x = some (.int .u64 (a : Int))) (hy : kev kn y = some (.int .u64 (b : Int))) (h : a * b < 18446744073709551616) : Does P S kn o (.int .u64 ((a * b : Nat) : Int)) :=
  Does.nat (does_mul_u64 ho hx hy) (by rw [Nat.mod_eq_of_lt h])
theorem does_shl32 {k' : IntKind} (ho : o.op = .binOp .shl t x y yt) (hx : kev kn x = some (.int .u64 (a : Int))) (hy : kev kn y = some (.int k' 32)) (h : a < 4294967296) : Does P S kn o (.int .u64 ((a * 4294967296 : Nat) : Int)) :=
  Does.nat (does_shl_u64 (b := 32) ho hx hy) (by rw [show (2 : Nat) ^ min 32 64 = 4294967296 by decide, Nat.mod_eq_of_lt (by omega)])
theorem does_or32 (ho : o.op = .binOp .or t x y yt) (hx : kev kn x = some (.int .u64 ((a * 4294967296 : Nat) : Int))) (hy : kev kn y = some (.int .u64 (b : Int))) (ha : a < 4294967296) (hb : b < 4294967296) : Does P S kn o (.int .u64 ((a * 4294967296 + b : Nat) : Int)) :=
  Does.nat (does_or_u64 ho hx hy (by omega) (by omega)) (by
    have := or_shift (a := a) (b := b) (s := 32) (by simpa using hb)
    rw [show (2 : Nat) ^ 32 = 4294967296 by decide] at this
    rw [this])
theorem does_shr32 {k' : IntKind} (ho : o.op = .binOp .shr t x y yt) (hx : kev kn x = some (.int .u64 (a : Int))) (hy : kev kn y = some (.int k' 32)) : Does P S kn o (.int .u64 ((a / 4294967296 : Nat) : Int)) :=
  does_shr_u64c (c := 32) ho hx hy (by decide)
theorem does_low_bit (ho : o.op = .binOp .and t x y yt) (hx : kev kn x = some (.int .u64 (a : Int))) (hy : kev kn y = some (.int .u64 1)) (ha : a < 18446744073709551616) : Does P S kn o (.int .u64 ((a % 2 : Nat) : Int)) :=
  Does.nat (does_and_u64 (b := 1) ho hx hy ha (by omega)) (by rw [Nat.and_one_is_mod])
theorem bits_or_u32_nat (a b : Nat) (ha : a < 4294967296) (hb : b < 4294967296) : bits .or .u32 (a : Int) (b : Int) = ((a ||| b : Nat) : Int) := by
  have hx : a ||| b < 2 ^ 32 := Nat.or_lt_two_pow (by omega) (by omega)
  have h1 : (BitVec.ofInt 32 (a : Int)).toNat = a := by
    rw [BitVec.ofInt_natCast, BitVec.toNat_ofNat]; exact Nat.mod_eq_of_lt (by omega)
  have h2 : (BitVec.ofInt 32 (b : Int)).toNat = b := by
    rw [BitVec.ofInt_natCast, BitVec.toNat_ofNat]; exact Nat.mod_eq_of_lt (by omega)
  show IntKind.u32.wrap ((BitVec.ofInt 32 (a : Int) ||| BitVec.ofInt 32 (b : Int)).toNat : Int) = _
  rw [BitVec.toNat_or, h1, h2, IntKind.wrap_u32]
  omega
theorem does_or_u32 (ho : o.op = .binOp .or t x y yt) (hx : kev kn x = some (.int .u32 (a : Int))) (hy : kev kn y = some (.int .u32 (b : Int))) (ha : a < 4294967296) (hb : b < 4294967296) : Does P S kn o (.int .u32 ((a ||| b : Nat) : Int)) :=
  Does.int (does_or ho hx hy) (bits_or_u32_nat a b ha hb)
theorem does_sub_u64n (ho : o.op = .binOp .sub t x y yt) (hx : kev kn x = some (.int .u64 (a : Int))) (hy : kev kn y = some (.int .u64 (b : Int))) (ha : a < 18446744073709551616) (hb : b < 18446744073709551616) : Does P S kn o (.int .u64 (((a + 18446744073709551616 - b) % 18446744073709551616 : Nat) : Int)) :=
  Does.nat (does_sub_u64 ho hx hy) (by rw [Nat.mod_eq_of_lt hb]; omega)
/-- a shift to the left whose result fits -/
theorem does_shl_u64x {k' : IntKind} (ho : o.op = .binOp .shl t x y yt) (hx : kev kn x = some (.int .u64 (a : Int))) (hy : kev kn y = some (.int k' (b : Int))) (hb : b ≤ 64) (h : a * 2 ^ b < 18446744073709551616) : Does P S kn o (.int .u64 ((a * 2 ^ b : Nat) : Int)) :=
  Does.nat (does_shl_u64 ho hx hy) (by rw [Nat.min_eq_left hb, Nat.mod_eq_of_lt h])
end
theorem sub_words {x y c : Nat} (hx : x < 4294967296) (hy : y < 4294967296) (hc : c ≤ 1) :
    (x + 18446744073709551616 - y - c) % 18446744073709551616 % 4294967296 = (x + 4294967296 - y - c) % 4294967296 ∧ (x + 18446744073709551616 - y - c) % 18446744073709551616 / 4294967296 % 2 = if x < y + c then 1 else 0 := by
  by_cases hlt : x < y + c
  · rw [if_pos hlt]; omega
  · rw [if_neg hlt]; omega
theorem mulH {a b : Nat} (ha : a < 4294967296) (hb : b < 4294967296) : a * b ≤ 18446744065119617025 :=
  Nat.le_trans (Nat.mul_le_mul (show a ≤ 4294967295 by omega) (show b ≤ 4294967295 by omega)) (by decide)
/-- an integer in words of 32 bits -/
def IsZ (g : Mem) (ng : Bool) (A : Option Addr) (n : Nat) (z : Int) : Prop := IsHat g A n z.natAbs ∧ ng = decide (z < 0)
theorem IsZ.mono {g g' : Mem} {ng : Bool} {A : Option Addr} {n : Nat} {z : Int} (h : IsZ g ng A n z) (hle : g.le g') : IsZ g' ng A n z := ⟨h.1.mono hle, h.2⟩
theorem IsZ.zero (g : Mem) : IsZ g false none 0 0 := ⟨IsHat.nil g, rfl⟩
theorem IsZ.mk {g : Mem} {A : Option Addr} {n N : Nat} (ng : Bool) (h : IsHat g A n N) : IsZ g (decide (sg ng N < 0)) A n (sg ng N) := ⟨by rw [sg_natAbs]; exact h, rfl⟩
theorem IsZ.z0 {g : Mem} {ng : Bool} {A : Option Addr} {n : Nat} {z : Int} (h : IsZ g ng A n z) : n = 0 ↔ z = 0 := by rw [h.1.zero_iff]; omega
theorem IsZ.eta {g : Mem} {ng : Bool} {A : Option Addr} {n : Nat} {z : Int} (h : IsZ g ng A n z) : sg ng z.natAbs = z := by
  rw [h.2]
  unfold sg
  by_cases hz : z < 0
  · rw [decide_eq_true hz, if_pos rfl]; omega
  · rw [decide_eq_false hz, if_neg (by simp)]; omega
/-- a rational number: numerator and denominator; without a denominator it is an integer -/
def IsQ (g : Mem) (ng : Bool) (A : Option Addr) (n : Nat) (nd : Bool) (B : Option Addr) (m : Nat) (r : Rat) : Prop := IsZ g ng A n r.num ∧ nd = false ∧ IsHat g B m (if r.den = 1 then 0 else r.den)
theorem IsQ.mono {g g' : Mem} {ng nd : Bool} {A B : Option Addr} {n m : Nat} {r : Rat} (h : IsQ g ng A n nd B m r) (hle : g.le g') : IsQ g' ng A n nd B m r := ⟨h.1.mono hle, h.2.1, h.2.2.mono hle⟩
theorem IsQ.int {g : Mem} {ng : Bool} {A : Option Addr} {n : Nat} {z : Int} (h : IsZ g ng A n z) : IsQ g ng A n false none 0 (z : Rat) := ⟨by rw [Rat.num_intCast]; exact h, rfl, by rw [Rat.den_intCast, if_pos rfl]; exact IsHat.nil g⟩
theorem IsQ.zero (g : Mem) : IsQ g false none 0 false none 0 0 := IsQ.int (z := 0) (IsZ.zero g)
theorem IsQ.den1 {g : Mem} {ng nd : Bool} {A B : Option Addr} {n m : Nat} {r : Rat} (h : IsQ g ng A n nd B m r) : m = 0 ↔ r.den = 1 := by
  rw [h.2.2.zero_iff]
  have := r.den_nz
  split <;> simp_all
theorem IsQ.denZ {g : Mem} {ng nd : Bool} {A B : Option Addr} {n m : Nat} {r : Rat} (h : IsQ g ng A n nd B m r) (hm : m ≠ 0) : IsZ g nd B m (r.den : Int) := by
  have h1 : ¬ r.den = 1 := fun e => hm (h.den1.2 e)
  obtain ⟨_, rfl, h3⟩ := h
  rw [if_neg h1] at h3
  exact ⟨by simpa using h3, by simp⟩
end Go.Proofs.Vc

namespace Go.Proofs.Vc
open Go Go.RowKit
set_option linter.unusedVariables false
set_option linter.unusedSimpArgs false
set_option linter.unusedSectionVars false
section
variable {P : Program} {ops : Array Oper} {Q : Exit → Act → World → Prop} {n : Nat} {kn : Kn} {o : Oper} {rest : List Oper} {w0 w : World} {M : List Nat} {g0 g : Mem} {own : List (Nat × Obj)} {d : Nat}
theorem stepK_buildSlice0 {t e : TypeId} {z : Value} {sz by_ : Nat} (hdst : o.dst = some d) (hg : o.guard = none) (hd : Nat.ble (d + 1) n = true) (ho : o.op = .buildSlice t 0 #[]) (hu : P.underlying t = some (.slice e)) (he : elemInfo P e = some (z, sz, by_)) (hst : St w0 M g0 g own w)
    (h : ∀ b w', St w0 M g0 g (own ++ [(b, .cells #[] e (0, 0))]) w' → wpK P ops Q n rest ((d, .slice (some ⟨b, 0, none⟩) 0 0) :: kn) w') : wpK P ops Q n (o :: rest) kn w := by
  obtain ⟨i, hi, hz', hsz, hb⟩ := elemInfo_spec he
  refine stepK_run hdst hg hd (v := .slice (some ⟨w.heap.size, 0, none⟩) 0 0) (w' := w.alloc (.cells #[] e)) (fun ρ hρ => ?_) (h _ _ (hst.alloc _))
  simp [execOp, ho, Instr.buildSlice, run_underlying hu, sizeOf, typeInfo, zeroValue, hi, hz', Instr.fill, newRow]
  exact congrArg (fun c => w.alloc (Obj.cells c e)) (Array.eq_empty_of_size_eq_zero (by simp))
theorem stepK_append_zero {t e : TypeId} {x y : Operand} {z : Value} {sz by_ sl sc c : Nat} {A B : Option Addr} (hdst : o.dst = some d) (hg : o.guard = none) (hd : Nat.ble (d + 1) n = true)
    (ho : o.op = .call { callee := .builtin .append, args := #[x, y], argTypes := #[t, t] }) (hu : P.underlying t = some (.slice e)) (he : elemInfo P e = some (z, sz, by_))
    (hx : kev kn x = some (.slice A sl sc)) (hy : kev kn y = some (.slice B 0 c)) (hc : sl ≤ sc)
    (h : wpK P ops Q n rest ((d, .slice A sl sc) :: kn) w) : wpK P ops Q n (o :: rest) kn w := by
  refine stepK_run hdst hg hd (v := .slice A sl sc) (w' := w) (fun ρ hρ => ?_) h
  have h2 := hρ x _ hx
  have h3 := hρ y _ hy
  obtain ⟨i, hi, hz', hsz, hbb⟩ := elemInfo_spec he
  have hr : (Builtin.append_ #[t, t] o.type #[.slice A sl sc, .slice B 0 c]).run P w = .ok (.slice A sl sc) w := by
    cases A with
    | none =>
      cases B with
      | none => simp [Builtin.append_, run_underlying hu, sizeOf, typeInfo, zeroValue, hi, hz', Builtin.lenOf, Builtin.firstCells, hc]
      | some a => simp [Builtin.append_, run_underlying hu, sizeOf, typeInfo, zeroValue, hi, hz', Builtin.lenOf, Builtin.firstCells, loadCells, loadCellsFrom, hc]
    | some a0 =>
      cases B with
      | none => simp [Builtin.append_, run_underlying hu, sizeOf, typeInfo, zeroValue, hi, hz', Builtin.lenOf, Builtin.firstCells, hc, storeCells]
      | some a => simp [Builtin.append_, run_underlying hu, sizeOf, typeInfo, zeroValue, hi, hz', Builtin.lenOf, Builtin.firstCells, loadCells, loadCellsFrom, hc, storeCells]
  simp only [execOp, ho, resolve, invoke, builtin, Sem.run_bind, Sem.run_pure, Result.andThen_ok, List.map_toArray, List.map_cons, List.map_nil, h2, h3, hr]
/-- appending numbers, maybe none -/
theorem stepK_appendN {t e : TypeId} {x y : Operand} {z : Value} {by_ m c m0 : Nat} {k : IntKind} {ws : List Nat} {xs : List Value} {A : Option Addr} {v : Value} (hdst : o.dst = some d) (hg : o.guard = none) (hd : Nat.ble (d + 1) n = true)
    (ho : o.op = .call { callee := .builtin .append, args := #[x, y], argTypes := #[t, t] }) (hu : P.underlying t = some (.slice e)) (he : elemInfo P e = some (z, 1, by_)) (hzs : z.cells.size = 1)
    (hx : kev kn x = some v) (hy : kev kn y = some (.slice A m c)) (hrow : Row w0 M g0 g own e 1 v m0 xs w) (hs : SlN g k A m ws) (hb : (m0 + m) * by_ ≤ 140737488355328) (hm : m0 + m ≤ 140737488355328)
    (h : ∀ v' w', Row w0 M g0 g own e 1 v' (m0 + m) (xs ++ uN k ws) w' → wpK P ops Q n rest ((d, v') :: kn) w') : wpK P ops Q n (o :: rest) kn w := by
  rcases Nat.eq_zero_or_pos m with h0 | h0
  · subst h0
    obtain rfl : ws = [] := List.eq_nil_of_length_eq_zero hs.1
    have hlc : ∃ A' c', v = .slice A' m0 c' ∧ m0 ≤ c' := by
      rcases hrow.2 with ⟨h1, h2, _⟩ | ⟨b, cap, cur, h1, h2, _⟩
      · exact ⟨none, 0, by rw [h1, h2], by omega⟩
      · exact ⟨_, cap, h1, h2⟩
    obtain ⟨A', c', rfl, hc'⟩ := hlc
    refine stepK_append_zero hdst hg hd ho hu he hx hy hc' (h _ _ ?_)
    simpa [uN] using hrow
  · obtain ⟨b, off, rfl, hc⟩ := hs.some_ h0
    refine stepK_append (xs := xs) (news := uN k ws) (m := m0) hdst hg hd ho hu he hzs (by decide) hx hy hrow (by rw [uN_length, hs.1, Nat.mul_one]) (fun j u hj => ?_) (fun u hu => ?_) hb hm h
    · rw [uN_get] at hj
      cases hw : ws[j]? with
      | none => rw [hw] at hj; cases hj
      | some x =>
        rw [hw] at hj
        cases hj
        rw [addr_add]
        exact hrow.st.agree.cell (hc.at_ j x hw)
    · obtain ⟨x, _, rfl⟩ := List.mem_map.1 hu
      rfl
end
end Go.Proofs.Vc

namespace Go.Proofs.Vc
open Go Go.RowKit
set_option linter.unusedVariables false
theorem hk_word {p u bo : Nat} (hp : p < 18446744073709551616) (hu : u < 4294967296) (hbo : bo ≤ 1) :
    (u + 18446744073709551616 - p % 4294967296 - bo) % 18446744073709551616 % 4294967296 + p + bo = u + (p / 4294967296 + (u + 18446744073709551616 - p % 4294967296 - bo) % 18446744073709551616 / 4294967296 % 2) * 4294967296 := by omega
theorem hk_last {cy u bo : Nat} (hu : u < 4294967296) (hcy : cy < 4294967296) (hbo : bo ≤ 1) :
    (u + 18446744073709551616 - cy - bo) % 18446744073709551616 % 4294967296 + cy + bo = u + (if u < cy + bo then 1 else 0) * 4294967296 ∧ (u + 18446744073709551616 - cy - bo) % 18446744073709551616 / 9223372036854775808 = if u < cy + bo then 1 else 0 := by
  by_cases h : u < cy + bo
  · rw [if_pos h]; omega
  · rw [if_neg h]; omega
/-- a guess that meets the first digits is too great by at most 1 -/
theorem hk_near_lin {l k p T W q U V : Nat} (hU : U = l + p * T) (hV : V = k + p * W) (hk : k < p) (hq : q * W ≤ T) (hqW : q ≤ W) (hW : 0 < W) : q ≤ U / V + 1 := by
  rcases Nat.eq_zero_or_pos q with h0 | h0
  · rw [h0]; exact Nat.zero_le _
  · obtain ⟨e, rfl⟩ : ∃ e, q = e + 1 := ⟨q - 1, by omega⟩
    have hVp : 0 < V := by
      have h0 : 0 < p * W := Nat.mul_pos (by omega) hW
      omega
    have : e ≤ U / V := by
      refine (Nat.le_div_iff_mul_le hVp).2 ?_
      have h1 : e * k ≤ e * p := Nat.mul_le_mul_left _ (Nat.le_of_lt hk)
      have h2 : e * V = e * k + p * (e * W) := by rw [hV, Nat.mul_add]; congr 1; rw [← Nat.mul_assoc, Nat.mul_comm e p, Nat.mul_assoc]
      have h3 : (e + 1) * W = e * W + W := Nat.succ_mul ..
      have h4 : e + e * W ≤ T := by omega
      have h5 : p * (e + e * W) ≤ p * T := Nat.mul_le_mul_left _ h4
      rw [Nat.mul_add, Nat.mul_comm p e] at h5
      rw [h2, hU]
      omega
    omega
theorem hk_near {us vs : List Nat} {j n u2 u1 u0 v1 v0 q : Nat} (hw : HWords us) (hv : HWords vs) (hn : 2 ≤ n) (hl : j + n + 1 ≤ us.length) (hvl : vs.length = n) (hu2 : us[j + n]? = some u2) (hu1 : us[j + n - 1]? = some u1) (hu0 : us[j + n - 2]? = some u0)
    (hv1 : vs[n - 1]? = some v1) (hv0 : vs[n - 2]? = some v0) (hU : hval (us.drop j) < 4294967296 ^ (n + 1)) (hp : 0 < v1) (hqB : q < 4294967296) (hq : q * (v1 * 4294967296 + v0) ≤ (u2 * 4294967296 + u1) * 4294967296 + u0) : q ≤ hval (us.drop j) / hval vs + 1 := by
  obtain ⟨hz, _⟩ := h_rest_zero (j := j) (m := n + 1) hw hU (by omega)
  have e1 := h_val_split (us.drop j) (n - 2) (by rw [List.length_drop]; omega)
  have e2 := h_val_split vs (n - 2) (by omega)
  rw [List.drop_drop] at e1
  have a0 := h_val_drop_get (xs := us) (i := j + (n - 2)) (x := u0) (by rw [show j + (n - 2) = j + n - 2 by omega]; exact hu0)
  have a1 := h_val_drop_get (xs := us) (i := j + (n - 2) + 1) (x := u1) (by rw [show j + (n - 2) + 1 = j + n - 1 by omega]; exact hu1)
  have a2 := h_val_drop_get (xs := us) (i := j + (n - 2) + 1 + 1) (x := u2) (by rw [show j + (n - 2) + 1 + 1 = j + n by omega]; exact hu2)
  rw [show j + (n - 2) + 1 + 1 + 1 = j + (n + 1) by omega, hz] at a2
  have b0 := h_val_drop_get (xs := vs) (i := n - 2) hv0
  have b1 := h_val_drop_get (xs := vs) (i := n - 2 + 1) (x := v1) (by rw [show n - 2 + 1 = n - 1 by omega]; exact hv1)
  rw [List.drop_eq_nil_of_le (show vs.length ≤ n - 2 + 1 + 1 by omega)] at b1
  have hlow : hval (vs.take (n - 2)) < 4294967296 ^ (n - 2) := by
    have := h_val_lt (hv.take (n - 2))
    rw [List.length_take, Nat.min_eq_left (by omega)] at this
    exact this
  simp only [hval, Nat.mul_zero, Nat.add_zero] at b1 a2
  rw [a1, a2] at a0
  rw [b1] at b0
  rw [a0] at e1
  rw [b0] at e2
  rw [show u0 + 4294967296 * (u1 + 4294967296 * u2) = (u2 * 4294967296 + u1) * 4294967296 + u0 by omega] at e1
  rw [show v0 + 4294967296 * v1 = v1 * 4294967296 + v0 by omega] at e2
  exact hk_near_lin e1 e2 hlow hq (by omega) (by omega)
theorem hk_fix {r h V U p r3 br : Nat} (hV : 0 < V) (h1 : r + h * V = U + 1 * p) (hr : r < p) (hQ : U / V ≤ h) (hn : h ≤ U / V + 1) (h3 : r3 + br * p = r + V) (hr3 : r3 < p) (hbr : br ≤ 1) : r3 + (h - 1) * V = U ∧ r3 < V ∧ 0 < h ∧ br = 1 := by
  have e1 := Nat.div_mul_le_self U V
  have e2 := Nat.lt_div_mul_add hV (a := U)
  have hh : h = U / V + 1 := by
    rcases Nat.lt_or_ge (U / V) h with hl | hl
    · omega
    · have : h = U / V := by omega
      rw [this] at h1
      omega
  rw [hh] at h1 ⊢
  rw [Nat.succ_mul] at h1
  rw [Nat.add_sub_cancel]
  generalize U / V * V = x at *
  have hb : br = 0 ∨ br = 1 := by omega
  refine ⟨?_, ?_, Nat.succ_pos _, ?_⟩ <;> rcases hb with rfl | rfl <;> omega
/-- the guess is met -/
theorem hk_break {q v1 v0 u2 u1 u0 r : Nat} (he : q * v1 + r = u2 * 4294967296 + u1) (h2 : u2 ≤ v1) (h1 : u1 < 4294967296) (h0 : v0 < 4294967296) (hv : 0 < v1) (hr : 4294967296 ≤ r) : q < 4294967296 ∧ q * (v1 * 4294967296 + v0) ≤ (u2 * 4294967296 + u1) * 4294967296 + u0 := by
  have hq : q < 4294967296 := by
    have h3 : q * v1 < 4294967296 * v1 := by omega
    exact Nat.lt_of_mul_lt_mul_right h3
  refine ⟨hq, ?_⟩
  have h4 : q * v0 ≤ 4294967296 * 4294967296 := Nat.mul_le_mul (by omega) (by omega)
  have e : q * (v1 * 4294967296 + v0) = q * v1 * 4294967296 + q * v0 := by grind
  rw [e, ← he]
  generalize q * v1 = a at *
  generalize q * v0 = b at *
  omega
theorem hk_met {q v1 v0 u2 u1 u0 r : Nat} (he : q * v1 + r = u2 * 4294967296 + u1) (h : q * v0 ≤ r * 4294967296 + u0) : q * (v1 * 4294967296 + v0) ≤ (u2 * 4294967296 + u1) * 4294967296 + u0 := by
  have e : q * (v1 * 4294967296 + v0) = q * v1 * 4294967296 + q * v0 := by grind
  rw [e, ← he]
  generalize q * v1 = a at *
  generalize q * v0 = b at *
  omega
theorem hk_lead {us vs : List Nat} {j n u2 v1 : Nat} (hw : HWords us) (hv : HWords vs) (hn : 1 ≤ n) (hl : j + n + 1 ≤ us.length) (hvl : vs.length = n) (hu2 : us[j + n]? = some u2) (hv1 : vs[n - 1]? = some v1) (h : hval (us.drop (j + 1)) < hval vs) : u2 ≤ v1 := by
  have e1 := h_val_split (us.drop (j + 1)) (n - 1) (by rw [List.length_drop]; omega)
  rw [List.drop_drop, show j + 1 + (n - 1) = j + n by omega, h_val_drop_get hu2] at e1
  have e2 := h_val_split vs (n - 1) (by omega)
  rw [h_val_drop_get hv1, List.drop_eq_nil_of_le (by omega)] at e2
  have hlow := h_val_lt (hv.take (n - 1))
  rw [List.length_take, Nat.min_eq_left (by omega)] at hlow
  simp only [hval, Nat.mul_zero, Nat.add_zero] at e2
  rcases Nat.lt_or_ge v1 u2 with hlt | hge
  · exfalso
    have h3 : 4294967296 ^ (n - 1) * (v1 + 1) ≤ 4294967296 ^ (n - 1) * (u2 + 4294967296 * hval (us.drop (j + n + 1))) := Nat.mul_le_mul_left _ (by omega)
    rw [Nat.mul_add, Nat.mul_one] at h3
    omega
  · exact hge
theorem bitLen_le32 {x : Nat} (h : x < 4294967296) : bitLen x ≤ 32 := by
  have h1 := bitLen_spec x
  rcases Nat.eq_zero_or_pos x with h0 | h0
  · subst h0; simp [bitLen]
  · have h2 := h1.2 (by omega)
    have h3 : 2 ^ (bitLen x - 1) < 2 ^ 32 := Nat.lt_of_le_of_lt h2 (by simpa using h)
    have := (Nat.pow_lt_pow_iff_right (by decide : 1 < 2)).1 h3
    omega
theorem bitLen_half {x : Nat} (h : 0 < x) : bitLen (x / 2) + 1 = bitLen x := by
  unfold bitLen
  rw [if_neg (show ¬ x = 0 by omega)]
  by_cases h1 : x / 2 = 0
  · rw [if_pos h1]
    obtain rfl : x = 1 := by omega
    rfl
  · rw [if_neg h1, Nat.log2_def x, if_pos (by omega)]
theorem bitLen_unique {x k : Nat} (h1 : x < 2 ^ k) (h2 : 2 ^ (k - 1) ≤ x) (h0 : 0 < k) : bitLen x = k := by
  have hx : 0 < x := Nat.lt_of_lt_of_le (Nat.pow_pos (by decide)) h2
  have h3 := bitLen_spec x
  have h4 := h3.2 (by omega)
  have h5 := bitLen_pos hx
  have h6 := (Nat.pow_lt_pow_iff_right (by decide : 1 < 2)).1 (Nat.lt_of_le_of_lt h4 h1)
  have h7 := (Nat.pow_lt_pow_iff_right (by decide : 1 < 2)).1 (Nat.lt_of_le_of_lt h2 h3.1)
  omega
theorem hbits_val {xs : List Nat} {n t : Nat} (hw : HWords xs) (hl : xs.length = n) (hn : 0 < n) (ht : xs[n - 1]? = some t) (h0 : 0 < t) : bitLen (hval xs) = 32 * (n - 1) + bitLen t := by
  have e1 := h_val_split xs (n - 1) (by omega)
  rw [h_val_drop_get ht, List.drop_eq_nil_of_le (by omega)] at e1
  have hlow := h_val_lt (hw.take (n - 1))
  rw [List.length_take, Nat.min_eq_left (by omega)] at hlow
  simp only [hval, Nat.mul_zero, Nat.add_zero] at e1
  have hb := bitLen_spec t
  have hp := bitLen_pos h0
  have hq : (4294967296 : Nat) ^ (n - 1) = 2 ^ (32 * (n - 1)) := by rw [show (4294967296 : Nat) = 2 ^ 32 by decide, ← Nat.pow_mul]
  rw [hq] at e1 hlow
  refine bitLen_unique ?_ ?_ (by omega)
  · rw [e1, Nat.pow_add]
    have h2 : 2 ^ (32 * (n - 1)) * (t + 1) ≤ 2 ^ (32 * (n - 1)) * 2 ^ bitLen t := Nat.mul_le_mul_left _ hb.1
    rw [Nat.mul_add, Nat.mul_one] at h2
    omega
  · rw [e1, show 32 * (n - 1) + bitLen t - 1 = 32 * (n - 1) + (bitLen t - 1) by omega, Nat.pow_add]
    exact Nat.le_trans (Nat.mul_le_mul_left _ (hb.2 (by omega))) (Nat.le_add_left ..)
/-- an int64 in 64 bits -/
def u64of (x : Int) : Nat := if x < 0 then (x + 18446744073709551616).toNat else x.toNat
theorem u64of_conv {x : Int} (h1 : -9223372036854775808 ≤ x) (h2 : x ≤ 9223372036854775807) : IntKind.u64.wrap x = ((u64of x : Nat) : Int) := by
  rw [IntKind.wrap_u64]
  unfold u64of
  split <;> omega
theorem u64of_neg {x : Int} (h1 : -9223372036854775808 ≤ x) (h : x < 0) : (18446744073709551616 - u64of x % 18446744073709551616) % 18446744073709551616 = x.natAbs := by
  unfold u64of
  rw [if_pos h]
  omega
theorem u64of_pos {x : Int} (h2 : x ≤ 9223372036854775807) (h : 0 ≤ x) : u64of x = x.natAbs := by
  unfold u64of
  rw [if_neg (by omega)]
  omega
theorem neg_eta {g : Mem} {ng : Bool} {A : Option Addr} {n : Nat} {z : Int} (h : IsZ g ng A n z) : sg (!ng) z.natAbs = -z := by
  have h1 := h.eta
  cases ng <;> simp only [sg, Bool.not_true, Bool.not_false, if_true, Bool.false_eq_true, if_false] at * <;> omega
theorem IsHat.len_eq {g g' : Mem} {A B : Option Addr} {n m N M : Nat} (h : IsHat g A n N) (h' : IsHat g' B m M) (e : N = M) : n = m := by
  subst e
  exact Nat.le_antisymm (h.len h'.lt) (h'.len h.lt)
theorem sg_tdiv {a b : Bool} {x y : Int} (ha : a = decide (x < 0)) (hb : b = decide (y < 0)) : x.tdiv y = sg (!(a == b)) (x.natAbs / y.natAbs) := by
  subst ha hb
  rcases Int.lt_or_le x 0 with hx | hx <;> rcases Int.lt_or_le y 0 with hy | hy
  · obtain ⟨p, rfl⟩ : ∃ p : Nat, x = -(p : Int) := ⟨x.natAbs, by omega⟩
    obtain ⟨q, rfl⟩ : ∃ q : Nat, y = -(q : Int) := ⟨y.natAbs, by omega⟩
    rw [decide_eq_true hx, decide_eq_true hy, Int.neg_tdiv, Int.tdiv_neg, Int.neg_neg]
    simp [sg]
  · obtain ⟨p, rfl⟩ : ∃ p : Nat, x = -(p : Int) := ⟨x.natAbs, by omega⟩
    obtain ⟨q, rfl⟩ : ∃ q : Nat, y = (q : Int) := ⟨y.natAbs, by omega⟩
    rw [decide_eq_true hx, decide_eq_false (by omega), Int.neg_tdiv]
    simp [sg]
  · obtain ⟨p, rfl⟩ : ∃ p : Nat, x = (p : Int) := ⟨x.natAbs, by omega⟩
    obtain ⟨q, rfl⟩ : ∃ q : Nat, y = -(q : Int) := ⟨y.natAbs, by omega⟩
    rw [decide_eq_false (by omega), decide_eq_true hy, Int.tdiv_neg]
    simp [sg]
  · obtain ⟨p, rfl⟩ : ∃ p : Nat, x = (p : Int) := ⟨x.natAbs, by omega⟩
    obtain ⟨q, rfl⟩ : ∃ q : Nat, y = (q : Int) := ⟨y.natAbs, by omega⟩
    rw [decide_eq_false (by omega), decide_eq_false (by omega)]
    simp [sg]
theorem sg_tmod {a : Bool} {x y : Int} (ha : a = decide (x < 0)) : x.tmod y = sg a (x.natAbs % y.natAbs) := by
  subst ha
  have hy : x.tmod y = x.tmod (y.natAbs : Int) := by
    rcases Int.lt_or_le y 0 with h | h
    · rw [show (y.natAbs : Int) = -y by omega, Int.tmod_neg]
    · rw [show (y.natAbs : Int) = y by omega]
  rw [hy]
  rcases Int.lt_or_le x 0 with hx | hx
  · obtain ⟨p, rfl⟩ : ∃ p : Nat, x = -(p : Int) := ⟨x.natAbs, by omega⟩
    rw [decide_eq_true hx, Int.neg_tmod]
    simp [sg]
    rfl
  · obtain ⟨p, rfl⟩ : ∃ p : Nat, x = (p : Int) := ⟨x.natAbs, by omega⟩
    rw [decide_eq_false (by omega)]
    simp [sg]
    rfl
/-- two results in memory -/
theorem ret2cc {P : Program} {fn : Func} {n : Nat} {kn : Kn} {w0 w : World} {g0 g : Mem} {own : List (Nat × Obj)} {Post : Value → Mem → Prop} {t u : Tmp} {ty ty2 : TypeId} {b b2 k k2 m m2 : Nat} {l l2 : List Value} {e e2 : TypeId} {f f2 : Nat × Nat} (hr : fn.results = #[.cell t ty, .cell u ty2]) (hv : kget kn t = some (.pointer (some ⟨b, 0, none⟩))) (hv2 : kget kn u = some (.pointer (some ⟨b2, 0, none⟩))) (ha : aggOf P ty = some true) (hs : sizeB P ty = some m) (ha2 : aggOf P ty2 = some true) (hs2 : sizeB P ty2 = some m2) (hl : l.length = m) (hl2 : l2.length = m2)
    (hst : St w0 [] g0 g own w) (hk : own[k]? = some (b, .cells l.toArray e f)) (hk2 : own[k2]? = some (b2, .cells l2.toArray e2 f2)) (h : Post (.tuple #[.agg l.toArray, .agg l2.toArray]) g) : atK (bodyPost P fn (Ret w0 g0 Post) .ret) n kn w := fun a hka => by
  refine ⟨hka.defers, .tuple #[.agg l.toArray, .agg l2.toArray], ?_, Ret.mk hst h⟩
  have e1 := hka.get t _ hv
  have e2 := hka.get u _ hv2
  rw [Array.getD_eq_getD_getElem?] at e1 e2
  have h1 := run_loadN (P := P) (b := b) (i := 0) ha hs hl (w := w) (fun j v hj => by
    rw [Nat.zero_add]
    exact hst.cell_own k hk (by simpa using hj))
  have h2 := run_loadN (P := P) (b := b2) (i := 0) ha2 hs2 hl2 (w := w) (fun j v hj => by
    rw [Nat.zero_add]
    exact hst.cell_own k2 hk2 (by simpa using hj))
  simp [results, hr, e1, e2, asAddr, h1, h2]
end Go.Proofs.Vc

namespace Go.Proofs.Vc
open Go Go.RowKit
set_option linter.unusedVariables false
set_option linter.unusedSimpArgs false
set_option linter.unusedSectionVars false
/-- d: an operation that leaves the world alone, taken first; e: one that may come up now, and the others that may -/
inductive Sch where
  | fin : Sch
  | no : Sch
  | d : Nat → Sch → Sch
  | e : Nat → Sch → Sch → Sch
section
variable {P : Program} {ops : Array Oper} {Q : Exit → Act → World → Prop} {md : Region.Mode} {S : World → Prop}
def schT (md : Region.Mode) (ops : Array Oper) (m : Nat) : Sch → Option (List Nat) → Nat → Array Bool → Bool
  | .fin, none, fuel, listed => tailNow m listed && tailOk md ops fuel listed m
  | .no, some [], _, _ => true
  | .d i r, none, fuel + 1, listed => Nat.blt i m && (Region.ready md ops listed).contains i && Region.free md ops listed i && schT md ops m r none fuel (listed.setIfInBounds i true)
  | .e i r more, none, fuel + 1, listed => match Region.ready md ops listed with
    | j :: p => Nat.beq j i && Nat.blt i m && schT md ops m r none fuel (listed.setIfInBounds i true) && schT md ops m more (some p) (fuel + 1) listed
    | [] => false
  | .e i r more, some (j :: p), fuel + 1, listed => Nat.beq j i && Nat.blt i m && schT md ops m r none fuel (listed.setIfInBounds i true) && schT md ops m more (some p) (fuel + 1) listed
  | _, _, _, _ => false
def wpT (P : Program) (ops : Array Oper) (Q : Exit → Act → World → Prop) (n : Nat) (S : World → Prop) (tail : List Oper) : Sch → Kn → World → Prop
  | .fin, kn, w => wpK P ops Q n tail kn w
  | .no, _, _ => True
  | .d i r, kn, w => ∃ o d v, ops[i]? = some o ∧ o.dst = some d ∧ d < n ∧ (∀ a, Knows n a kn → YieldsIf P ops S o v a) ∧ wpT P ops Q n S tail r ((d, v) :: kn) w
  | .e i r more, kn, w => (∃ o, ops[i]? = some o ∧ ∀ a, Knows n a kn → Region.wanted o (yielded ops a.tmps) = true ∧
      (o.wp P a w (fun a' w' => S w' ∧ ∃ kn', Knows n a' kn' ∧ wpT P ops Q n S tail r kn' w') Q)) ∧ wpT P ops Q n S tail more kn w
theorem wpT_sound {n m : Nat} {tail : List Oper} (htw : tailWaits md ops m = true) (hsel : Region.noSelect ops = true) (htail : ops.toList.drop m = tail)
    (hQ : ∀ c a d v w, Q (.panic c) (Act.put a (some d) v) w → Q (.panic c) a w) : ∀ (sch : Sch) (fuel : Nat) (listed : Array Bool) (kn : Kn) (a : Act) (w : World), Closed md ops listed → Knows n a kn → S w → wpT P ops Q n S tail sch kn w →
      (schT md ops m sch none fuel listed = true → wpAnyT P md ops Q S m fuel listed a w) ∧
      ∀ p, schT md ops m sch (some p) fuel listed = true → (∀ j ∈ p, j ∈ Region.ready md ops listed) → ∀ j ∈ p, j < m ∧ ∃ f, fuel = f + 1 ∧ wpOp P ops Q j (fun a' w' => S w' ∧ wpAnyT P md ops Q S m f (listed.setIfInBounds j true) a' w') a w
  | .fin, fuel, listed, kn, a, w, hcl, ha, hS, h => by
    refine ⟨fun hc => ?_, fun p hc => ?_⟩
    · have hc' : tailNow m listed = true ∧ tailOk md ops fuel listed m = true := by simpa [schT] using hc
      have h1 := h a ha
      rw [← htail] at h1
      have h2 := tail_sound fuel listed m a w hc'.2 h1
      cases fuel with
      | zero => exact h2
      | succ fuel =>
        unfold wpAnyT
        rw [if_pos hc'.1]
        exact h2
    · simp [schT] at hc
  | .no, fuel, listed, kn, a, w, hcl, ha, hS, h => by
    refine ⟨fun hc => by simp [schT] at hc, fun p hc _ j hj => ?_⟩
    cases p with
    | nil => cases hj
    | cons x p => simp [schT] at hc
  | .d i r, fuel, listed, kn, a, w, hcl, ha, hS, h => by
    refine ⟨fun hc => ?_, fun p hc => by cases fuel <;> simp [schT] at hc⟩
    cases fuel with
    | zero => simp [schT] at hc
    | succ fuel =>
      simp only [schT, Bool.and_eq_true] at hc
      obtain ⟨o, d, v, ho, hd, hdn, hy, hnext⟩ := h
      have hr : i ∈ Region.ready md ops listed := by simpa using hc.1.1.2
      refine wpAnyT_first (show i < m by simpa using hc.1.1.1) htw ho (Region.noSelect_spec hsel) (by rw [hd]; exact fun c a w h => hQ c a d v w h) fuel listed a w hcl (Region.free_spec ho hc.1.2) hr (hy a ha) hS ?_
      rw [hd]
      exact (wpT_sound htw hsel htail hQ r fuel _ _ _ w (hcl.step hr) (ha.put hdn v) hS hnext).1 hc.2
  | .e i r more, fuel, listed, kn, a, w, hcl, ha, hS, h => by
    obtain ⟨⟨o, ho, hE⟩, hmore⟩ := h
    have one : ∀ f, fuel = f + 1 → i ∈ Region.ready md ops listed → schT md ops m r none f (listed.setIfInBounds i true) = true → wpOp P ops Q i (fun a' w' => S w' ∧ wpAnyT P md ops Q S m f (listed.setIfInBounds i true) a' w') a w := by
      intro f hf hr hc
      obtain ⟨hw, hwp⟩ := hE a ha
      unfold wpOp
      simp only [ho, hw, if_true]
      refine .inl (Oper.wp_mono (fun a' w' h' => ?_) hwp)
      obtain ⟨hS', kn', hk', hnext⟩ := h'
      exact ⟨hS', (wpT_sound htw hsel htail hQ r f _ _ _ w' (hcl.step hr) hk' hS' hnext).1 hc⟩
    refine ⟨fun hc => ?_, fun p hc hp j hj => ?_⟩
    · cases fuel with
      | zero => simp [schT] at hc
      | succ fuel =>
        simp only [schT] at hc
        split at hc
        · rename_i j p hready
          simp only [Bool.and_eq_true] at hc
          obtain rfl : j = i := by simpa using hc.1.1.1
          have hjm : j < m := by simpa using hc.1.1.2
          have hr : j ∈ Region.ready md ops listed := by rw [hready]; simp
          have hnt : tailNow m listed = false := tailNow_false hjm (mem_ready.1 hr).1
          unfold wpAnyT
          rw [if_neg (by rw [hnt]; simp)]
          refine ⟨fun h0 => (by rw [h0] at hr; cases hr), fun k hk => ?_⟩
          rw [hready] at hk
          rcases List.mem_cons.1 hk with rfl | hk
          · exact one fuel rfl hr hc.1.2
          · obtain ⟨_, f, hf, hop⟩ := (wpT_sound htw hsel htail hQ more (fuel + 1) listed kn a w hcl ha hS hmore).2 p hc.2 (fun x hx => by rw [hready]; exact List.mem_cons_of_mem _ hx) k hk
            obtain rfl : fuel = f := by omega
            exact hop
        · cases hc
    · cases fuel with
      | zero => cases p <;> simp [schT] at hc
      | succ fuel =>
        cases p with
        | nil => cases hj
        | cons x p =>
          simp only [schT, Bool.and_eq_true] at hc
          obtain rfl : x = i := by simpa using hc.1.1.1
          rcases List.mem_cons.1 hj with rfl | hj
          · exact ⟨by simpa using hc.1.1.2, fuel, rfl, one fuel rfl (hp _ (List.mem_cons_self ..)) hc.1.2⟩
          · exact (wpT_sound htw hsel htail hQ more (fuel + 1) listed kn a w hcl ha hS hmore).2 p hc.2 (fun y hy => hp y (List.mem_cons_of_mem _ hy)) j hj
theorem cp_drawnT {id n : Nat} {kn : Kn} {w : World} {l : List Oper} (hm : P.follows .mixedOrders = true) (m : Nat) (sch : Sch) (tail : List Oper) (htail : l.drop m = tail)
    (hchk : schT .any l.toArray m sch none l.length (Array.replicate l.length false) = true) (htw : tailWaits .any l.toArray m = true) (hsel : Region.noSelect l.toArray = true)
    (hQ : ∀ c a d v w, Q (.panic c) (Act.put a (some d) v) w → Q (.panic c) a w) (S : World → Prop) (hS : S w.drew) (h : wpT P l.toArray Q n S tail sch kn w.drew) :
    cpK P (.region id l.toArray true) Q n kn w := fun a ha =>
  wp_region_any hm (wpAny_of_T _ _ _ _ (by
    have := (wpT_sound (md := .any) htw hsel (by simpa using htail) hQ sch l.toArray.size (Array.replicate l.toArray.size false) kn a w.drew (Closed.start _) ha hS h).1 (by simpa using hchk)
    exact this))
theorem stepT_d {n i : Nat} {kn : Kn} {w : World} {tail : List Oper} {r : Sch} {o : Oper} {d : Nat} {v : Value} (ho : ops[i]? = some o) (hdst : o.dst = some d) (hg : o.guard = none) (hd : Nat.ble (d + 1) n = true)
    (hdo : Does P S kn o v) (h : wpT P ops Q n S tail r ((d, v) :: kn) w) : wpT P ops Q n S tail (.d i r) kn w :=
  ⟨o, d, v, ho, hdst, Nat.le_of_ble_eq_true hd, fun a ha => .inl ⟨by simp [Region.wanted, hg], fun w' hw' => hdo a.eval (fun x u hu => ha.eval hu) w' hw'⟩, h⟩
theorem stepT_tail {n : Nat} {kn : Kn} {w : World} {tail : List Oper} (h : wpK P ops Q n tail kn w) : wpT P ops Q n S tail .fin kn w := h
theorem stepT_no {n : Nat} {kn : Kn} {w : World} {tail : List Oper} : wpT P ops Q n S tail .no kn w := trivial
theorem stepT_run {n i : Nat} {kn : Kn} {w : World} {tail : List Oper} {r more : Sch} {o : Oper} {d : Nat} {v : Value} {w' : World} (hi : ops[i]? = some o) (hdst : o.dst = some d) (hg : o.guard = none) (hd : Nat.ble (d + 1) n = true)
    (hr : ∀ ρ : Operand → Value, (∀ x u, kev kn x = some u → ρ x = u) → (execOp ρ o).run P w = .ok (.value v) w') (hS : S w') (h : wpT P ops Q n S tail r ((d, v) :: kn) w') (hmore : wpT P ops Q n S tail more kn w) : wpT P ops Q n S tail (.e i r more) kn w :=
  ⟨⟨o, hi, fun a ha => ⟨by simp [Region.wanted, hg], by
    unfold Oper.wp
    rw [hr a.eval (fun x u hu => ha.eval hu), Oper.upon_value, hdst]
    exact ⟨hS, _, ha.put (Nat.le_of_ble_eq_true hd) v, h⟩⟩⟩, hmore⟩
end
section
variable {P : Program} {ops : Array Oper} {Q : Exit → Act → World → Prop} {n i : Nat} {kn : Kn} {o : Oper} {w0 w ws : World} {M : List Nat} {g0 g1 gS : Mem} {own1 ownS : List (Nat × Obj)} {d : Nat} {tail : List Oper} {r more : Sch}
theorem St.without {own : List (Nat × Obj)} (h : St w0 M g0 g1 own w) (k : Nat) : St w0 M g0 g1 (own.eraseIdx k) w := h.weaken _ (List.eraseIdx_sublist own k)
/-- an operation that leaves the world alone, in its turn -/
theorem stepT_do {v : Value} (hi : ops[i]? = some o) (hdst : o.dst = some d) (hg : o.guard = none) (hd : Nat.ble (d + 1) n = true) (h0 : St w0 M g0 gS ownS ws) (hst : St w0 M g0 g1 own1 w) (hle : gS.le g1) (hsub : List.Sublist ownS own1)
    (hdo : Does P (St w0 M g0 g1 own1) kn o v) (h : wpT P ops Q n (St w0 M g0 gS ownS) tail r ((d, v) :: kn) w) (hmore : wpT P ops Q n (St w0 M g0 gS ownS) tail more kn w) : wpT P ops Q n (St w0 M g0 gS ownS) tail (.e i r more) kn w :=
  stepT_run hi hdst hg hd (fun ρ hρ => hdo ρ hρ w hst) (hst.older hle hsub h0.ext h0.le) h hmore
theorem stepT_call {f : FuncId} {args : List Operand} {ts : Array TypeId} {vs : List Value} {Post : Value → Mem → Prop} (hi : ops[i]? = some o) (hdst : o.dst = some d) (hg : o.guard = none) (hd : Nat.ble (d + 1) n = true)
    (ho : o.op = .call { callee := .value (.func f), args := args.toArray, argTypes := ts }) (hvs : kevs kn args = some vs) (h0 : St w0 M g0 gS ownS ws) (hst : St w0 M g0 g1 own1 w) (hle : gS.le g1) (hsub : List.Sublist ownS own1) (hc : CallTo P f vs.toArray w (Ret w g1 Post))
    (h : ∀ v g' w', St w0 M g0 g' own1 w' → g1.le g' → St w [] g1 g' [] w' → Post v g' → wpT P ops Q n (St w0 M g0 gS ownS) tail r ((d, v) :: kn) w') (hmore : wpT P ops Q n (St w0 M g0 gS ownS) tail more kn w) : wpT P ops Q n (St w0 M g0 gS ownS) tail (.e i r more) kn w :=
  ⟨⟨o, hi, fun a ha => ⟨by simp [Region.wanted, hg], oper_call ho ha hvs hc fun e w' hr => by
    obtain ⟨v, g', rfl, hs, hp⟩ := hr
    have hx := hst.call hs
    exact ⟨v, rfl, hx.1.older (hle.trans hx.2) hsub h0.ext h0.le, _, by rw [hdst]; exact ha.put (Nat.le_of_ble_eq_true hd) v, h v g' w' hx.1 hx.2 hs hp⟩⟩⟩, hmore⟩
theorem stepT_box {elem : TypeId} {x : Operand} {v : Value} {l : List Value} (hi : ops[i]? = some o) (hdst : o.dst = some d) (hg : o.guard = none) (hd : Nat.ble (d + 1) n = true) (ho : o.op = .box elem x) (hx : kev kn x = some v) (hl : cellsOf v = some l)
    (h0 : St w0 M g0 gS ownS ws) (hst : St w0 M g0 g1 own1 w) (hle : gS.le g1) (hsub : List.Sublist ownS own1)
    (h : ∀ b w', St w0 M g0 g1 (own1 ++ [(b, .cells l.toArray elem (0, 0))]) w' → wpT P ops Q n (St w0 M g0 gS ownS) tail r ((d, .pointer (some ⟨b, 0, none⟩)) :: kn) w') (hmore : wpT P ops Q n (St w0 M g0 gS ownS) tail more kn w) : wpT P ops Q n (St w0 M g0 gS ownS) tail (.e i r more) kn w :=
  stepT_run hi hdst hg hd (run_box ho hx hl) ((hst.alloc _).older hle (hsub.trans (List.sublist_append_left _ _)) h0.ext h0.le) (h _ _ (hst.alloc _)) hmore
theorem stepT_alloc {elem : TypeId} {v : Value} {l : List Value} (hi : ops[i]? = some o) (hdst : o.dst = some d) (hg : o.guard = none) (hd : Nat.ble (d + 1) n = true) (ho : o.op = .alloc elem) (hz : zeroOf P elem = some v) (hl : cellsOf v = some l)
    (h0 : St w0 M g0 gS ownS ws) (hst : St w0 M g0 g1 own1 w) (hle : gS.le g1) (hsub : List.Sublist ownS own1)
    (h : ∀ b w', St w0 M g0 g1 (own1 ++ [(b, .cells l.toArray elem (0, 0))]) w' → wpT P ops Q n (St w0 M g0 gS ownS) tail r ((d, .pointer (some ⟨b, 0, none⟩)) :: kn) w') (hmore : wpT P ops Q n (St w0 M g0 gS ownS) tail more kn w) : wpT P ops Q n (St w0 M g0 gS ownS) tail (.e i r more) kn w :=
  stepT_run hi hdst hg hd (run_alloc ho hz hl) ((hst.alloc _).older hle (hsub.trans (List.sublist_append_left _ _)) h0.ext h0.le) (h _ _ (hst.alloc _)) hmore
theorem stepT_buildSlice {t e : TypeId} {len : Nat} {parts : List (Nat × Operand)} {z : Value} {zl l : List Value} {sz by_ : Nat} {vs : List (Nat × Value)} (hi : ops[i]? = some o) (hdst : o.dst = some d) (hg : o.guard = none) (hd : Nat.ble (d + 1) n = true) (ho : o.op = .buildSlice t len parts.toArray) (hu : P.underlying t = some (.slice e)) (he : elemInfo P e = some (z, sz, by_))
    (hz : cellsOf z = some zl) (hzs : zl.length = sz) (hs : 0 < sz) (hlen : 0 < len) (hsm : len * sz ≤ 16777216) (hvs : kparts kn parts = some vs) (hf : fillL (fun i => some (i * sz, sz)) (repL len zl) vs = some l)
    (h0 : St w0 M g0 gS ownS ws) (hst : St w0 M g0 g1 own1 w) (hle : gS.le g1) (hsub : List.Sublist ownS own1)
    (h : ∀ b w', St w0 M g0 g1 (own1 ++ [(b, .cells l.toArray e (0, 0))]) w' → wpT P ops Q n (St w0 M g0 gS ownS) tail r ((d, .slice (some ⟨b, 0, none⟩) len len) :: kn) w') (hmore : wpT P ops Q n (St w0 M g0 gS ownS) tail more kn w) : wpT P ops Q n (St w0 M g0 gS ownS) tail (.e i r more) kn w :=
  stepT_run hi hdst hg hd (run_buildSlice' ho hu he hz hzs hs hlen hsm hvs hf) ((hst.alloc _).older hle (hsub.trans (List.sublist_append_left _ _)) h0.ext h0.le) (h _ _ (hst.alloc _)) hmore
theorem stepT_store {t : TypeId} {x y : Operand} {b j m : Nat} {v : Value} {l : List Value} {c : Array Value} {e : TypeId} (k : Nat) (hi : ops[i]? = some o) (hdst : o.dst = none) (hg : o.guard = none) (ho : o.op = .store t x y) (hx : kev kn x = some (.pointer (some ⟨b, j, none⟩))) (hy : kev kn y = some v) (hl : cellsOf v = some l)
    (hs : sizeB P t = some m) (hm : l.length = m) (h1 : l.all (·.oneCell') = true) (h0 : St w0 M g0 gS ownS ws) (hst : St w0 M g0 g1 own1 w) (hk : own1[k]? = some (b, .cells c e (0, 0))) (hin : j + l.length ≤ c.size) (hle : gS.le g1) (hsub : List.Sublist ownS (own1.set k (b, .cells (splice c j l) e (0, 0))))
    (h : ∀ w', St w0 M g0 g1 (own1.set k (b, .cells (splice c j l) e (0, 0))) w' → wpT P ops Q n (St w0 M g0 gS ownS) tail r kn w') (hmore : wpT P ops Q n (St w0 M g0 gS ownS) tail more kn w) : wpT P ops Q n (St w0 M g0 gS ownS) tail (.e i r more) kn w :=
  ⟨⟨o, hi, fun a ha => ⟨by simp [Region.wanted, hg], by
    unfold Oper.wp
    rw [run_store k ho hx hy hl hs hm h1 hst hk hin a.eval (fun x u hu => ha.eval hu), Oper.upon_skip, hdst]
    have hx := hst.setRow k (splice c j l) hk
    exact ⟨hx.older hle hsub h0.ext h0.le, kn, ha, h _ hx⟩⟩⟩, hmore⟩
end
end Go.Proofs.Vc

namespace Go.Proofs.Vc
open Go Go.RowKit
set_option linter.unusedVariables false
set_option linter.unusedSimpArgs false
set_option linter.unusedSectionVars false
theorem IsZ.len {g : Mem} {ng : Bool} {A : Option Addr} {n k : Nat} {z : Int} (h : IsZ g ng A n z) (hk : z.natAbs < 4294967296 ^ k) : n ≤ k := h.1.len hk
theorem hprodLt {X Y a b : Nat} (hX : X < 4294967296 ^ a) (hY : Y < 4294967296 ^ b) : X * Y < 4294967296 ^ (a + b) := by
  rw [Nat.pow_add]
  exact Nat.mul_lt_mul'' hX hY
theorem hZmul {g : Mem} {ng : Bool} {A : Option Addr} {n k : Nat} {x y : Int} (h : IsZ g ng A n (x * y)) (hx : x.natAbs < 4294967296 ^ k) (hy : y.natAbs < 4294967296 ^ k) : n ≤ k + k :=
  h.len (by rw [Int.natAbs_mul]; exact hprodLt hx hy)
theorem hZsum {g : Mem} {ng : Bool} {A : Option Addr} {n k : Nat} {x y u v : Int} (h : IsZ g ng A n (x * y + u * v)) (hx : x.natAbs < 4294967296 ^ k) (hy : y.natAbs < 4294967296 ^ k) (hu : u.natAbs < 4294967296 ^ k) (hv : v.natAbs < 4294967296 ^ k) : n ≤ k + k + 1 :=
  h.len (by
    have h1 := hprodLt hx hy
    have h2 := hprodLt hu hv
    have h3 := Int.natAbs_add_le (x * y) (u * v)
    rw [Int.natAbs_mul, Int.natAbs_mul] at h3
    rw [Nat.pow_succ]
    omega)
def FitH (r : Rat) : Prop := r.num.natAbs < 4294967296 ^ 1099511627776 ∧ (r.den : Int).natAbs < 4294967296 ^ 1099511627776
theorem FitH.neg {r : Rat} (h : FitH r) : FitH (-r) := ⟨by rw [Rat.neg_num, Int.natAbs_neg]; exact h.1, by rw [Rat.neg_den]; exact h.2⟩
theorem ten_pow_leH {k L : Nat} (h : k ≤ L) : 10 ^ k ≤ 4294967296 ^ L := Nat.le_trans (Nat.pow_le_pow_left (by decide) k) (Nat.pow_le_pow_right (by decide) h)
theorem Sz.fitH {k : Nat} {r : Rat} (h : Sz k r) (hk : k ≤ 1099511627776) : FitH r := by
  have h1 := ten_pow_leH hk
  exact ⟨Nat.lt_of_lt_of_le h.1 h1, by rw [Int.natAbs_natCast]; exact Nat.lt_of_lt_of_le h.2 h1⟩
theorem IsZ.to {g : Mem} {ng : Bool} {A : Option Addr} {n : Nat} {x y : Int} (h : IsZ g ng A n x) (e : x = y) : IsZ g ng A n y := e ▸ h
theorem IsQ.to {g : Mem} {ng nd : Bool} {A B : Option Addr} {n m : Nat} {x y : Rat} (h : IsQ g ng A n nd B m x) (e : x = y) : IsQ g ng A n nd B m y := e ▸ h
theorem divInt_pos {x y : Int} (hy : 0 < y) : Rat.divInt x y = mkRat x y.natAbs := by
  obtain ⟨d, rfl⟩ : ∃ d : Nat, y = (d : Int) := ⟨y.natAbs, by omega⟩
  rw [Int.natAbs_natCast, ← Rat.divInt_ofNat]
theorem frac_parts {x y : Int} (hy : 0 < y) (hc : Nat.gcd x.natAbs y.natAbs = 1) : (Rat.divInt x y).num = x ∧ (Rat.divInt x y).den = y.natAbs := by
  rw [divInt_pos hy, ← sg_int x]
  have h := mkRat_num (b := decide (x < 0)) (N := x.natAbs) (M := y.natAbs) (by omega) hc
  exact ⟨h.1, h.2⟩
theorem IsQ.frac {g : Mem} {na nb : Bool} {A B : Option Addr} {n m : Nat} {x y : Int} (hx : IsZ g na A n x) (hy : IsZ g nb B m y) (h0 : 0 < y) (hc : Nat.gcd x.natAbs y.natAbs = 1) (h1 : y ≠ 1) : IsQ g na A n nb B m (Rat.divInt x y) := by
  obtain ⟨e1, e2⟩ := frac_parts h0 hc
  refine ⟨by rw [e1]; exact hx, ?_, ?_⟩
  · rw [hy.2]; exact decide_eq_false (by omega)
  · rw [e2, if_neg (by omega)]; exact hy.1
theorem IsQ.frac1 {g : Mem} {na : Bool} {A : Option Addr} {n : Nat} {x y : Int} (hx : IsZ g na A n x) (h1 : y = 1) : IsQ g na A n false none 0 (Rat.divInt x y) := by
  subst h1
  have : Rat.divInt x 1 = (x : Rat) := by rw [divInt_pos (by decide)]; exact Rat.mkRat_one x
  rw [this]
  exact IsQ.int hx
theorem frac_red {x y : Int} (hy : 0 < y) : Rat.divInt (x.tdiv (Nat.gcd x.natAbs y.natAbs : Nat)) (y.tdiv (Nat.gcd x.natAbs y.natAbs : Nat)) = Rat.divInt x y ∧ 0 < y.tdiv (Nat.gcd x.natAbs y.natAbs : Nat) ∧ Nat.gcd (x.tdiv (Nat.gcd x.natAbs y.natAbs : Nat)).natAbs (y.tdiv (Nat.gcd x.natAbs y.natAbs : Nat)).natAbs = 1 := by
  obtain ⟨M, rfl⟩ : ∃ M : Nat, y = (M : Int) := ⟨y.natAbs, by omega⟩
  rw [Int.natAbs_natCast]
  have hM : 0 < M := by omega
  have hG : 0 < Nat.gcd x.natAbs M := Nat.gcd_pos_of_pos_right _ hM
  have e1 : x.tdiv (Nat.gcd x.natAbs M : Nat) = sg (decide (x < 0)) (x.natAbs / Nat.gcd x.natAbs M) := by
    rw [sg_tdiv rfl rfl, decide_eq_false (show ¬ ((Nat.gcd x.natAbs M : Nat) : Int) < 0 by omega), Int.natAbs_natCast]
    cases decide (x < 0) <;> rfl
  have e2 : (M : Int).tdiv (Nat.gcd x.natAbs M : Nat) = ((M / Nat.gcd x.natAbs M : Nat) : Int) := rfl
  have hq : 0 < M / Nat.gcd x.natAbs M := Nat.div_pos (Nat.gcd_le_right _ hM) hG
  rw [e1, e2]
  refine ⟨?_, by omega, ?_⟩
  · rw [divInt_pos (by omega), divInt_pos (by omega), Int.natAbs_natCast, Int.natAbs_natCast, mkRat_gcd hM, sg_int]
  · rw [sg_natAbs, Int.natAbs_natCast]; exact gcd_coprime hM
theorem bitLen_one {x : Nat} : bitLen x = 1 ↔ x = 1 := by
  constructor
  · intro h
    have h1 := bitLen_spec x
    rw [h] at h1
    rcases Nat.eq_zero_or_pos x with h0 | h0
    · subst h0; simp [bitLen] at h
    · have := h1.1; omega
  · rintro rfl; rfl
theorem bitLen_le_one {x : Nat} (h : bitLen x ≤ 1) : x ≤ 1 := by
  have h1 := (bitLen_spec x).1
  have h2 : 2 ^ bitLen x ≤ 2 ^ 1 := Nat.pow_le_pow_right (by decide) h
  omega
theorem add_ints {r x : Rat} (h1 : r.den = 1) (h2 : x.den = 1) : ((r.num + x.num : Int) : Rat) = r + x := by
  rw [← rat_add, h1, h2, Nat.mul_one]
  simp [Rat.mkRat_one]
theorem mul_ints {r x : Rat} (h1 : r.den = 1) (h2 : x.den = 1) : ((r.num * x.num : Int) : Rat) = r * x := by
  rw [← rat_mul, h1, h2, Nat.mul_one]
  simp [Rat.mkRat_one]
theorem add_frac (r x : Rat) : Rat.divInt (r.num * (x.den : Int) + x.num * (r.den : Int)) ((r.den : Int) * (x.den : Int)) = r + x := by rw [divInt_nat, rat_add]
theorem mul_frac (r x : Rat) : Rat.divInt (r.num * x.num) ((r.den : Int) * (x.den : Int)) = r * x := by rw [divInt_nat, rat_mul]
theorem div_frac (r x : Rat) : Rat.divInt (r.num * (x.den : Int)) ((r.den : Int) * x.num) = r / x := by
  have h1 := Rat.divInt_mul_divInt r.num (x.den : Int) (d₁ := (r.den : Int)) (d₂ := x.num)
  rw [← h1, Rat.num_divInt_den, ← Rat.inv_def, Rat.div_def]
theorem den_mul_ne (r x : Rat) : (r.den : Int) * (x.den : Int) ≠ 0 := Int.mul_ne_zero (by have := r.den_nz; omega) (by have := x.den_nz; omega)
theorem floor_tdiv (r : Rat) : r.floor = if (r.num.tmod (r.den : Int)) < 0 then r.num.tdiv (r.den : Int) - 1 else r.num.tdiv (r.den : Int) := by
  rw [Rat.floor_def]
  have hd : (0 : Int) < (r.den : Int) := by have := r.den_nz; omega
  have h1 := Int.mul_tdiv_add_tmod r.num (r.den : Int)
  have h2 := Int.tmod_lt_of_pos r.num hd
  have h3 := Int.lt_tmod_of_pos r.num hd
  generalize r.num.tdiv (r.den : Int) = q at *
  generalize r.num.tmod (r.den : Int) = t at *
  generalize (r.den : Int) = d at *
  split
  · refine Int.le_antisymm (Int.le_of_lt_add_one ((Int.ediv_lt_iff_lt_mul hd).2 ?_)) ((Int.le_ediv_iff_mul_le hd).2 ?_)
    · rw [← h1, show q - 1 + 1 = q by omega, Int.mul_comm q]; omega
    · rw [← h1, Int.sub_mul, Int.one_mul, Int.mul_comm q]; omega
  · refine Int.le_antisymm (Int.le_of_lt_add_one ((Int.ediv_lt_iff_lt_mul hd).2 ?_)) ((Int.le_ediv_iff_mul_le hd).2 ?_)
    · rw [← h1, Int.add_mul, Int.one_mul, Int.mul_comm q]; omega
    · rw [← h1, Int.mul_comm q]; omega
section
variable {P : Program} {ops : Array Oper} {Q : Exit → Act → World → Prop} {n i : Nat} {kn : Kn} {o : Oper} {w0 w : World} {M : List Nat} {g0 g g1 : Mem} {own own1 : List (Nat × Obj)} {d : Nat} {tail : List Oper} {r : List (Nat × Bool)}
theorem stepD_callO {f : FuncId} {args : List Operand} {ts : Array TypeId} {vs : List Value} {Post : Value → Mem → List (Nat × Obj) → Prop} (hi : ops[i]? = some o) (hdst : o.dst = some d) (hg : o.guard = none) (hd : Nat.ble (d + 1) n = true)
    (ho : o.op = .call { callee := .value (.func f), args := args.toArray, argTypes := ts }) (hvs : kevs kn args = some vs) (hst : St w0 M g0 g1 own1 w) (hc : CallTo P f vs.toArray w (RetO w g1 Post))
    (hkeep : ∀ g' w', St w0 M g0 g' own1 w' → g1.le g' → St w0 M g0 g own w')
    (h : ∀ v g' own' w', St w0 M g0 g' (own1 ++ own') w' → g1.le g' → Post v g' own' → wpD P ops Q n (St w0 M g0 g own) tail r ((d, v) :: kn) w') : wpD P ops Q n (St w0 M g0 g own) tail ((i, false) :: r) kn w :=
  ⟨o, d, hi, hdst, Nat.le_of_ble_eq_true hd, fun a ha => ⟨by simp [Region.wanted, hg], oper_call ho ha hvs hc fun e w' hr => by
    obtain ⟨v, g', own', rfl, hs, hp⟩ := hr
    have hx := hst.callO hs
    exact ⟨v, rfl, v, by rw [hdst], hkeep g' w' (hx.1.weaken _ (List.sublist_append_left _ _)) hx.2, h v g' own' w' hx.1 hx.2 hp⟩⟩⟩
theorem stepD_append {t e : TypeId} {x y : Operand} {z : Value} {sz by_ m k c : Nat} {v : Value} {xs news : List Value} {ad : Addr} {own2 : List (Nat × Obj)} (hi : ops[i]? = some o) (hdst : o.dst = some d) (hg : o.guard = none) (hd : Nat.ble (d + 1) n = true)
    (ho : o.op = .call { callee := .builtin .append, args := #[x, y], argTypes := #[t, t] }) (hu : P.underlying t = some (.slice e)) (he : elemInfo P e = some (z, sz, by_)) (hzs : z.cells.size = sz) (hs : 0 < sz)
    (hx : kev kn x = some v) (hy : kev kn y = some (.slice (some ad) k c)) (hrow : Row w0 M g0 g1 own2 e sz v m xs w) (hl : news.length = k * sz) (hnews : ∀ j u, news[j]? = some u → w.cell? (ad.add j) = some u) (h1 : ∀ u ∈ news, u.oneCell' = true)
    (hb : (m + k) * by_ ≤ 140737488355328) (hm : m + k ≤ 140737488355328) (hkeep : ∀ w', St w0 M g0 g1 own2 w' → St w0 M g0 g own w')
    (h : ∀ v' w', Row w0 M g0 g1 own2 e sz v' (m + k) (xs ++ news) w' → wpD P ops Q n (St w0 M g0 g own) tail r ((d, v') :: kn) w') : wpD P ops Q n (St w0 M g0 g own) tail ((i, false) :: r) kn w := by
  obtain ⟨v', w', hr, hrow'⟩ := run_append_row (P := P) (ty := o.type) hu he hzs hs hrow ad k c news hl hnews h1 hb hm
  refine stepD_run hi hdst hg hd (v := v') (w' := w') (fun ρ hρ => ?_) (hkeep w' hrow'.st) (h v' w' hrow')
  have h2 : ρ x = v := hρ x v hx
  have h3 : ρ y = .slice (some ad) k c := hρ y _ hy
  simp only [execOp, ho, resolve, invoke, builtin, Sem.run_bind, Sem.run_pure, Result.andThen_ok, List.map_toArray, List.map_cons, List.map_nil, h2, h3, hr]
end
end Go.Proofs.Vc

namespace Go.Proofs.Vc
open Go Go.RowKit
set_option linter.unusedVariables false
set_option linter.unusedSimpArgs false
set_option linter.unusedSectionVars false
/-- the greatest number whose square is at most N -/
def isq : Nat → Nat
  | 0 => 0
  | n + 1 => if (isq n + 1) * (isq n + 1) ≤ n + 1 then isq n + 1 else isq n
theorem isq_spec : ∀ N, isq N * isq N ≤ N ∧ N < (isq N + 1) * (isq N + 1)
  | 0 => by simp [isq]
  | n + 1 => by
    obtain ⟨h1, h2⟩ := isq_spec n
    unfold isq
    split
    · rename_i h
      refine ⟨h, ?_⟩
      have : (isq n + 1 + 1) * (isq n + 1 + 1) = (isq n + 1) * (isq n + 1) + 2 * (isq n + 1) + 1 := by grind
      omega
    · rename_i h
      exact ⟨by omega, by omega⟩
theorem sq_lt {a b N : Nat} (h1 : a * a ≤ N) (h2 : N < b * b) : a < b := Nat.lt_of_not_le fun h => absurd (Nat.lt_of_le_of_lt h1 h2) (Nat.not_lt.2 (Nat.mul_le_mul h h))
theorem isq_unique {N s : Nat} (h1 : s * s ≤ N) (h2 : N < (s + 1) * (s + 1)) : isq N = s := by
  obtain ⟨e1, e2⟩ := isq_spec N
  refine Nat.le_antisymm ?_ ?_
  · exact Nat.le_of_lt_succ (sq_lt e1 h2)
  · exact Nat.le_of_lt_succ (sq_lt h1 e2)
theorem isq_le {N x : Nat} (h : N < (x + 1) * (x + 1)) : isq N ≤ x := by
  obtain ⟨e1, e2⟩ := isq_spec N
  exact Nat.le_of_lt_succ (sq_lt e1 h)
theorem isq_start (N : Nat) : isq N ≤ 2 ^ ((bitLen N + 1) / 2) := by
  refine isq_le ?_
  have h1 := (bitLen_spec N).1
  have h2 : 2 ^ bitLen N ≤ 2 ^ ((bitLen N + 1) / 2) * 2 ^ ((bitLen N + 1) / 2) := by
    rw [← Nat.pow_add]
    exact Nat.pow_le_pow_right (by decide) (by omega)
  generalize 2 ^ ((bitLen N + 1) / 2) = p at *
  have : (p + 1) * (p + 1) = p * p + 2 * p + 1 := by grind
  rw [this]
  omega
theorem newton_ge {N x : Nat} (h0 : 0 < x) : isq N ≤ (x + N / x) / 2 := by
  obtain ⟨e1, e2⟩ := isq_spec N
  generalize isq N = s at *
  rcases Nat.lt_or_ge (2 * s) x with h | h
  · generalize N / x = q at *
    omega
  · have h1 : (2 * s - x) ≤ N / x := by
      refine (Nat.le_div_iff_mul_le h0).2 (Nat.le_trans ?_ e1)
      obtain ⟨t, ht⟩ : ∃ t, t = 2 * s - x := ⟨_, rfl⟩
      rw [← ht]
      have h3 : t + x = 2 * s := by omega
      have h4 : t * x * 4 ≤ (t + x) * (t + x) := by
        rcases Nat.le_total t x with h5 | h5
        · obtain ⟨u, rfl⟩ : ∃ u, x = t + u := ⟨x - t, by omega⟩
          have : (t + (t + u)) * (t + (t + u)) = t * (t + u) * 4 + u * u := by grind
          omega
        · obtain ⟨u, rfl⟩ : ∃ u, t = x + u := ⟨t - x, by omega⟩
          have : (x + u + x) * (x + u + x) = (x + u) * x * 4 + u * u := by grind
          omega
      rw [h3, show 2 * s * (2 * s) = s * s * 4 by grind] at h4
      exact Nat.le_of_mul_le_mul_right h4 (by decide)
    generalize N / x = q at *
    omega
theorem newton_stop {N x : Nat} (h0 : 0 < x) (hs : isq N ≤ x) (h : x ≤ (x + N / x) / 2) : isq N = x := by
  have h1 : x ≤ N / x := by omega
  have h2 := (Nat.le_div_iff_mul_le h0).1 h1
  obtain ⟨e1, e2⟩ := isq_spec N
  refine Nat.le_antisymm hs ?_
  exact Nat.le_of_lt_succ (sq_lt h2 e2)
theorem isq_square (s : Nat) : isq (s * s) = s := isq_unique (Nat.le_refl _) (by grind)
theorem isq_pos {N : Nat} (h : 0 < N) : 0 < isq N := by
  rcases Nat.eq_zero_or_pos (isq N) with h0 | h0
  · have := (isq_spec N).2
    rw [h0] at this
    omega
  · exact h0
theorem bitLen_le_of {x k : Nat} (h : x < 2 ^ k) : bitLen x ≤ k := by
  rcases Nat.eq_zero_or_pos x with h0 | h0
  · subst h0; simp [bitLen]
  · have h1 := (bitLen_spec x).2 (by omega)
    have h2 := (Nat.pow_lt_pow_iff_right (by decide : 1 < 2)).1 (Nat.lt_of_le_of_lt h1 h)
    omega
theorem sqrt_sum {x : Int} {X : Nat} (h : 0 ≤ x) : (X : Int) + x.tdiv (X : Int) = ((X + x.natAbs / X : Nat) : Int) := by
  obtain ⟨N, rfl⟩ : ∃ N : Nat, x = (N : Int) := ⟨x.natAbs, by omega⟩
  rfl
theorem does_slice_zero {P : Program} {S : World → Prop} {kn : Kn} {o : Oper} {t e : TypeId} {x y : Operand} {A : Option Addr} {n c sz : Nat} {k : IntKind} (ho : o.op = .slice t x (some y) none none) (hu : P.underlying t = some (.slice e)) (hs : sizeB P e = some sz) (hx : kev kn x = some (.slice A n c))
    (hy : kev kn y = some (.int k 0)) : Does P S kn o (.slice A n c) :=
  does_of fun ρ hρ w => by
    have hb : (Instr.sliceBounds true n c (some (ρ y)) none none).run P w = .ok (0, n, c) w := by
      unfold Instr.sliceBounds
      simp [hρ y _ hy, Instr.sliceBound, asIntOf]
    have e1 : A.map (·.add (0 * sz)) = A := by
      rw [Nat.zero_mul]
      cases A with
      | none => rfl
      | some a => simp [Addr.add]
    simp only [Nat.zero_mul] at e1
    simp [execOp, ho, hρ x _ hx, Instr.sliceAt, Instr.slice, run_underlying hu, hb, run_sizeB hs, e1]
end Go.Proofs.Vc

namespace Go.Proofs.Vc
open Go Go.Lib Go.RowKit
set_option linter.unusedVariables false
set_option linter.unusedSimpArgs false
set_option linter.unusedSectionVars false
def hpv : List Nat → Nat
  | [] => 0
  | x :: r => x + 1000000000 * hpv r
theorem hpv_snoc (l : List Nat) (r : Nat) : hpv (l ++ [r]) = hpv l + 1000000000 ^ l.length * r := by
  induction l with
  | nil => simp [hpv]
  | cons x l ih =>
    simp only [List.cons_append, hpv, ih, List.length_cons, Nat.pow_succ]
    grind
theorem hpv_drop {l : List Nat} {k x : Nat} (h : l[k]? = some x) : hpv (l.drop k) = x + 1000000000 * hpv (l.drop (k + 1)) := by
  rw [drop_cons_get h]
  rfl
theorem hparts_len {N X L k : Nat} (hX : 0 < X) (h : X * 1000000000 ^ k ≤ N) (hN : N < 4294967296 ^ L) : k ≤ 2 * L := by
  rcases Nat.le_total k (2 * L) with h1 | h1
  · exact h1
  · have h2 : 1000000000 ^ (2 * L) ≤ 1000000000 ^ k := Nat.pow_le_pow_right (by decide) h1
    have h3 : 4294967296 ^ L ≤ 1000000000 ^ (2 * L) := by
      rw [Nat.pow_mul]
      exact Nat.pow_le_pow_left (by decide) L
    have h4 := Nat.mul_le_mul_right (1000000000 ^ k) hX
    omega
/-- the digits of a number, none for 0 -/
def outL (P : Nat) : List Nat := if P = 0 then [] else (decDigits P).map UInt8.toNat
theorem decDigits_step {P d : Nat} (hP : 0 < P) (hd : d < 10) : decDigits (10 * P + d) = decDigits P ++ [UInt8.ofNat (48 + d)] := by
  have h1 : PlainL (decDigits P ++ [UInt8.ofNat (48 + d)]) := by
    obtain ⟨e1, e2, e3⟩ := decDigits_props P
    refine ⟨by simp, ?_, ?_⟩
    · intro h6
      have h4 := e3 hP
      have h5 := decDigits_ne P
      cases h : decDigits P with
      | nil => exact absurd h h5
      | cons a l =>
        rw [h] at h4 h6
        simp at h6
        exact absurd (by simp [h6]) h4
    · intro c hc
      rcases List.mem_append.1 hc with hc | hc
      · exact e1 c hc
      · have : c = UInt8.ofNat (48 + d) := by simpa using hc
        subst this
        rw [u8_dig hd]
        omega
  have h2 := plainL_eq _ h1
  rw [dvL_snoc, (decDigits_props P).2.1, u8_dig hd] at h2
  rw [h2]
  congr 1
  omega
theorem outL_step {P d : Nat} (hd : d < 10) (h : outL P ≠ [] ∨ d ≠ 0) : outL (10 * P + d) = outL P ++ [48 + d] := by
  unfold outL at *
  by_cases hP : P = 0
  · subst hP
    simp at h
    rw [if_neg (by omega), if_pos rfl, Nat.mul_zero, Nat.zero_add, decDigits_one hd]
    simp
    omega
  · rw [if_neg (by omega), if_neg hP, decDigits_step (by omega) hd]
    simp
    omega
theorem outL_skip {P d : Nat} (h : outL P = []) (hd : d = 0) : outL (10 * P + d) = outL P := by
  subst hd
  unfold outL at *
  by_cases hP : P = 0
  · subst hP; simp
  · rw [if_neg hP] at h
    exact absurd (List.map_eq_nil_iff.1 h) (decDigits_ne P)
theorem outL_text {N : Nat} (h : 0 < N) : (outL N).map UInt8.ofNat = decDigits N := by
  unfold outL
  rw [if_neg (by omega), List.map_map]
  have : (UInt8.ofNat ∘ UInt8.toNat) = id := by funext c; simp
  rw [this, List.map_id]
theorem outL_ne {N : Nat} (h : 0 < N) : outL N ≠ [] := by
  unfold outL
  rw [if_neg (by omega)]
  exact fun e => decDigits_ne N (List.map_eq_nil_iff.1 e)
/-- 10 to the power of e - 1; 0 behind that -/
def tenD : Nat → Nat
  | 0 => 0
  | n + 1 => 10 ^ n
theorem tenD_step (e : Nat) : tenD (e + 1) / 10 = tenD e := by
  cases e with
  | zero => rfl
  | succ n => simp only [tenD, Nat.pow_succ]; omega
theorem tenD_lt {e : Nat} (h : e ≤ 9) : tenD e ≤ 100000000 := by
  cases e with
  | zero => decide
  | succ n => exact Nat.le_trans (Nat.pow_le_pow_right (by decide) (show n ≤ 8 by omega)) (by decide)
theorem dig_split {x e : Nat} : x / 10 ^ e = 10 * (x / 10 ^ (e + 1)) + x / 10 ^ e % 10 := by
  rw [Nat.pow_succ, ← Nat.div_div_eq_div_mul]
  omega
theorem does_conv_bytes_g {P : Program} {kn : Kn} {o : Oper} {w0 : World} {M : List Nat} {g0 g : Mem} {own : List (Nat × Obj)} {sT dT e : TypeId} {x : Operand} {A : Option Addr} {n c : Nat} {ds : List Nat} (ho : o.op = .convert sT dT x) (hs : P.underlying sT = some (.slice e)) (he : P.underlying e = some (.int .u8)) (hd : P.underlying dT = some .string) (hx : kev kn x = some (.slice A n c))
    (hsl : SlN g .u8 A n ds) (hn : 0 < n) : Does P (St w0 M g0 g own) kn o (.string ⟨(ds.map UInt8.ofNat).toArray⟩) :=
  fun ρ hρ w hw => by
    obtain ⟨b, off, rfl, hc⟩ := hsl.some_ hn
    have hl := hsl.1
    have h1 := hρ x _ hx
    have h2 := run_loadCells_list (P := P) w ⟨b, off, none⟩ (uN .u8 ds) (fun j v hj => by
      rw [addr_add]
      rw [uN_get] at hj
      cases hz : ds[j]? with
      | none => rw [hz] at hj; cases hj
      | some z =>
        rw [hz] at hj
        cases hj
        exact hw.agree.cell (hc.at_ j z hz))
    rw [uN_length, hl] at h2
    have h3 : uN .u8 ds = (ds.map fun (x : Nat) => (x : Int)).map (Value.int .u8) := by simp [uN, Function.comp_def]
    rw [h3] at h2
    have h4 := run_bytesToString (P := P) w ⟨b, off, none⟩ n c _ h2
    simp only [execOp, ho, h1]
    have h5 := run_convert_bytes_string (P := P) w sT dT e (some ⟨b, off, none⟩) n c hs he hd
    rw [h4] at h5
    have h6 : (List.map (fun (x : Nat) => (x : Int)) ds).foldl (fun r n => r.push (UInt8.ofNat n.toNat)) ByteArray.empty = (⟨(ds.map UInt8.ofNat).toArray⟩ : ByteArray) := by
      rw [foldl_push_bytes]
      simp [ByteArray.empty, ByteArray.emptyWithCapacity, Function.comp_def]
      rfl
    rw [h6] at h5
    simp [h5]
theorem dval_fitH {s : ByteArray} {i : Nat} (h : ∀ j, j < i → 48 ≤ bt s j ∧ bt s j ≤ 57) : dval s i < 10 ^ i := by
  induction i with
  | zero => simp [dval]
  | succ n ih =>
    have h1 := ih fun j hj => h j (by omega)
    have h2 := h n (by omega)
    simp only [dval, Nat.pow_succ]
    omega
theorem chunkH_lt {i v d : Nat} (hi : i < 9) (hw : v < 10 ^ i) (hd : d ≤ 9) : v * 10 + d < 10 ^ (i + 1) ∧ v * 10 + d < 4294967296 ∧ 10 ^ (i + 1) < 4294967296 := by
  have h1 : 10 ^ (i + 1) = 10 ^ i * 10 := Nat.pow_succ ..
  have h2 : 10 ^ (i + 1) ≤ 10 ^ 9 := Nat.pow_le_pow_right (by decide) (by omega)
  have h3 : (10 : Nat) ^ 9 = 1000000000 := by decide
  omega
theorem chunkH_step {s : ByteArray} {p i v : Nat} (h : dval s p * 10 ^ i + v = dval s (p + i)) : dval s p * 10 ^ (i + 1) + (v * 10 + (bt s (p + i) - 48)) = dval s (p + (i + 1)) := by
  have := chunk_step (i := i) (wv := v) h
  rw [Nat.mul_comm 10 v] at this
  exact this
theorem len_bigH {N k : Nat} (h : N < 4294967296 ^ k) (hk : 0 < k) : (decDigits N).length ≤ 10 * k := by
  have h1 : 4294967296 ^ k ≤ 10 ^ (10 * k) := by
    rw [Nat.pow_mul]
    exact Nat.pow_le_pow_left (by decide) k
  have := decDigits_len (10 * k - 1) N (by rw [show 10 * k - 1 + 1 = 10 * k by omega]; exact Nat.lt_of_lt_of_le h h1)
  omega
theorem ne_empty_iff {s : ByteArray} : s ≠ ⟨#[]⟩ ↔ 0 < s.size := by
  constructor
  · exact size_pos_of_ne
  · intro h e
    rw [e] at h
    exact absurd h (by decide)
/-- what the reference's reader comes to -/
theorem read_no {s : ByteArray} {neg found : Bool} {top bottom : List UInt8} (hc : Cut (Lb s) neg top bottom found) (h : top = [] ∨ ¬ DigL top ∨ (found = true ∧ (bottom = [] ∨ ¬ DigL bottom ∨ dvL bottom = 0))) : readR s = none := by
  refine readR_none fun r hr => ?_
  obtain ⟨h1, h2, h3, h4⟩ := text_okay hc hr
  have hd := r.den_nz
  rcases h with h | h | ⟨hf, h⟩
  · exact h1.ptop.ne h
  · exact h h1.ptop.dig
  · rcases h with h | h | h
    · exact h1.pbot.ne h
    · exact h h1.pbot.dig
    · omega
theorem read_yes {s : ByteArray} {neg found : Bool} {top bottom : List UInt8} (hc : Cut (Lb s) neg top bottom found) {ρ : Rat} (hρ : ρ = Rat.divInt (sg neg (dvL top)) (dvL bottom : Nat)) : (ratS ρ = s → readR s = some ρ) ∧ (ratS ρ ≠ s → readR s = none) := by
  refine ⟨fun h => by rw [← h]; exact readR_text ρ, fun h => readR_none fun r hr => h ?_⟩
  obtain ⟨h1, h2, h3, h4⟩ := text_okay hc hr
  have : ρ = r := by rw [hρ, h3, h4, h2, sg_num]; exact Rat.num_divInt_den r
  rw [this]
  exact Lb_ext hr.symm
end Go.Proofs.Vc

namespace Go.Proofs.Vc
open Go Go.Lib Go.RowKit
set_option linter.unusedVariables false
set_option linter.unusedSimpArgs false
set_option linter.unusedSectionVars false
theorem dec_no {p : Prop} [Decidable p] (h : (!decide p) = true) : ¬ p := by simpa using h
theorem dec_of {p : Prop} [Decidable p] (h : (!decide p) = false) : p := by simpa using h
/-- the text s without its sign is t -/
def SignCut (s : ByteArray) (neg : Bool) (t : ByteArray) : Prop := t.size ≤ s.size ∧ (neg = true → Lb s = 45 :: Lb t) ∧ (neg = false → Lb s = Lb t ∧ (Lb t).head? ≠ some 45)
theorem signCut_yes {s : ByteArray} (h0 : 0 < s.size) (h : bt s 0 = 45) : SignCut s true (s.extract 1 s.size) :=
  ⟨by rw [size_tail]; omega, fun _ => Lb_cut1 (c := 45) h0 h, fun e => by cases e⟩
theorem signCut_no {s : ByteArray} (h : ¬ (0 < s.size ∧ bt s 0 = 45)) : SignCut s false s :=
  ⟨Nat.le_refl _, (fun e => nomatch e), (fun _ => ⟨rfl, Lb_head_ne (c := 45) fun h0 h1 => h ⟨h0, h1⟩⟩)⟩
theorem SignCut.cut {s t : ByteArray} {neg found : Bool} {top bottom : List UInt8} (h : SignCut s neg t) (ht : Lb t = top ++ if found then 47 :: bottom else []) (h47 : (47 : UInt8) ∉ top) (h1 : found = false → bottom = [49]) : Cut (Lb s) neg top bottom found := by
  obtain ⟨_, ha, hb⟩ := h
  refine ⟨?_, ?_, h47, h1⟩
  · cases neg with
    | true => rw [ha rfl, ht]; rfl
    | false => rw [(hb rfl).1, ht]; rfl
  · intro e
    rw [← ht]
    exact (hb e).2
theorem SignCut.found {s t : ByteArray} {neg : Bool} {a : Nat} (h : SignCut s neg t) (ha : a < t.size) (h47 : bt t a = 47) (hno : ∀ j, j < a → bt t j ≠ 47) : Cut (Lb s) neg (Lb (t.extract 0 a)) (Lb (t.extract (a + 1) t.size)) true :=
  h.cut (by rw [if_pos rfl]; exact Lb_cutk (c := 47) ha h47) (not_mem_take (by omega) hno) (fun e => by cases e)
theorem extract_all (t : ByteArray) : t.extract 0 t.size = t := by
  apply bytes_ext
  · rw [ByteArray.size_extract]; omega
  · intro i hi
    rw [ByteArray.size_extract] at hi
    rw [bt_extract (Nat.le_refl _) (by omega), Nat.zero_add]
theorem SignCut.whole {s t : ByteArray} {neg : Bool} (h : SignCut s neg t) (hno : ∀ j, j < t.size → bt t j ≠ 47) : Cut (Lb s) neg (Lb (t.extract 0 t.size)) [49] false :=
  h.cut (by rw [extract_all]; simp) (not_mem_take (Nat.le_refl _) hno) (fun _ => rfl)
theorem not_digits {t : ByteArray} (h : ¬ (0 < t.size ∧ AllDig t)) : Lb t = [] ∨ ¬ DigL (Lb t) := by
  by_cases h0 : Lb t = []
  · exact .inl h0
  · exact .inr fun h1 => h ⟨Lb_ne.1 h0, AllDig_iff.2 h1⟩
theorem read_bad {s t : ByteArray} {neg : Bool} {a : Nat} (h : SignCut s neg t) (ha : a ≤ t.size) (h47 : a < t.size → bt t a = 47) (hno : ∀ j, j < a → bt t j ≠ 47) (hb : ¬ (0 < (t.extract 0 a).size ∧ AllDig (t.extract 0 a))) : readR s = none := by
  have h1 := not_digits hb
  rcases Nat.lt_or_ge a t.size with hl | hl
  · exact read_no (h.found hl (h47 hl) hno) (h1.imp id fun h => .inl h)
  · obtain rfl : a = t.size := by omega
    exact read_no (h.whole hno) (h1.imp id fun h => .inl h)
theorem read_size {neg : Bool} {N D k : Nat} (hN : N < 10 ^ k) (hD : D < 10 ^ k) (h0 : D ≠ 0) : Sz k (Rat.divInt (sg neg N) (D : Nat)) := by
  rw [Rat.divInt_ofNat]
  have h := mkRat_le (n := sg neg N) (d := D) h0
  rw [sg_natAbs] at h
  exact ⟨Nat.lt_of_le_of_lt h.1 hN, Nat.lt_of_le_of_lt h.2 hD⟩
theorem dvL_size {s : ByteArray} {k : Nat} (h : AllDig s) (hk : s.size ≤ k) : dvL (Lb s) < 10 ^ k := Nat.lt_of_lt_of_le (dval_fit h) (Nat.pow_le_pow_right (by decide) hk)
end Go.Proofs.Vc

namespace Go.Proofs.Vc
open Go Go.RowKit
set_option linter.unusedVariables false
set_option linter.unusedSimpArgs false
set_option linter.unusedSectionVars false
section
variable {P : Program} {ops : Array Oper} {Q : Exit → Act → World → Prop} {n i : Nat} {kn : Kn} {o : Oper} {w0 w : World} {M : List Nat} {g0 g g1 : Mem} {own own1 : List (Nat × Obj)} {d : Nat} {tail : List Oper} {r : List (Nat × Bool)}
theorem stepD_call_guard {f : FuncId} {args : List Operand} {ts : Array TypeId} {vs : List Value} {Post : Value → Mem → Prop} {j t : Nat} {oj : Oper} {b : Bool} (hi : ops[i]? = some o) (hdst : o.dst = some d) (hg : o.guard = some (j, b)) (hj : ops[j]? = some oj) (ht : oj.dst = some t)
    (hb : kget kn t = some (.bool b)) (hd : Nat.ble (d + 1) n = true)
    (ho : o.op = .call { callee := .value (.func f), args := args.toArray, argTypes := ts }) (hvs : kevs kn args = some vs) (hst : St w0 M g0 g1 own1 w) (hc : CallTo P f vs.toArray w (Ret w g1 Post))
    (hkeep : ∀ g' w', St w0 M g0 g' own1 w' → g1.le g' → St w0 M g0 g own w')
    (h : ∀ v g' w', St w0 M g0 g' own1 w' → g1.le g' → St w [] g1 g' [] w' → Post v g' → wpD P ops Q n (St w0 M g0 g own) tail r ((d, v) :: kn) w') : wpD P ops Q n (St w0 M g0 g own) tail ((i, false) :: r) kn w :=
  ⟨o, d, hi, hdst, Nat.le_of_ble_eq_true hd, fun a ha => ⟨by
    have := tmp_of_getD (ha.get t _ hb)
    simp [Region.wanted, hg, yielded, hj, ht, this], oper_call ho ha hvs hc fun e w' hr => by
    obtain ⟨v, g', rfl, hs, hp⟩ := hr
    have hx := hst.call hs
    exact ⟨v, rfl, v, by rw [hdst], hkeep g' w' hx.1 hx.2, h v g' w' hx.1 hx.2 hs hp⟩⟩⟩
end
theorem same_dec {p q : Prop} [Decidable p] [Decidable q] (h : p ↔ q) : (!(decide p == decide q)) = false := by
  have e : decide p = decide q := decide_eq_decide.2 h
  rw [e]
  simp
theorem same_dec' {p q : Prop} [Decidable p] [Decidable q] (h : p ↔ q) : (decide p == decide q) = true := by
  have e : decide p = decide q := decide_eq_decide.2 h
  rw [e]
  simp
theorem sign_ne {r : Rat} : r ≠ 0 ↔ r.num.sign ≠ 0 := by
  rw [Ne, Ne, Int.sign_eq_zero_iff_zero, Rat.num_eq_zero]
theorem Does.bfalse' {P : Program} {S : World → Prop} {kn : Kn} {o : Oper} {b : Bool} (h : Does P S kn o (.bool b)) (e : b = false) : Does P S kn o (.bool false) := e ▸ h
theorem Does.btrue' {P : Program} {S : World → Prop} {kn : Kn} {o : Oper} {b : Bool} (h : Does P S kn o (.bool b)) (e : b = true) : Does P S kn o (.bool true) := e ▸ h
end Go.Proofs.Vc

namespace Go.Proofs.Vc
open Go Go.ChangeShapes Go.WideShapes Go.ChangeAt Go.RowKit
set_option linter.unusedVariables false
section
variable {H : Type} {enc : TypeId × Value → H} {P : Program}
theorem trodAll_stays (hl : laidOutB P = true) {W W' : World} (hb : Below W.heap.size W W') : ∀ {ts : List TypeId} {vs : List Value} {ds : List (DataW H)} {ps : List MemPlace}, (∀ t ∈ ts, P.readableRec t = true ∧ t < P.types.size) →
    DataW.TrodAll enc P W 0 (fun _ => true) true ts vs ds ps → (∀ x ∈ ps, x.block < W.heap.size) → ∀ sp : Nat → Bool, (∀ x ∈ ps, sp x.block = true) → DataW.TrodAll enc P W' 0 sp true ts vs ds ps
  | [], _, _, _, _, h, _, _, _ => by
    obtain ⟨rfl, rfl, rfl⟩ := trodAll_nil h
    exact trodAll_mk0
  | t :: ts, _, _, _, hr, h, hlt, sp, hs => by
    obtain ⟨v, vs1, d, ds1, a, b, rfl, rfl, rfl, h1, h2⟩ := trodAll_cons h
    obtain ⟨r1, r2⟩ := hr t (List.mem_cons_self ..)
    exact trodAll_cons_mk (WideElems.Trod_stays hl r1 r2 h1 (fun x hx => hb.same (hlt x (List.mem_append_left _ hx))) (fun x hx => hs x (List.mem_append_left _ hx)))
      (trodAll_stays hl hb (fun t' ht' => hr t' (List.mem_cons_of_mem _ ht')) h2 (fun x hx => hlt x (List.mem_append_right _ hx)) sp (fun x hx => hs x (List.mem_append_right _ hx)))
theorem post_of_below {f : Func} {s : ChangeSpec} {apart fresh handsOn again : Bool} {W W' : World} {args : Array Value} {v : Value} {ds gs : List (DataW H)} {before pa pv : List MemPlace}
    (hW : DataW.Whole enc P f.params.toList s.vars apart W args.toList ds gs before)
    (hres : ∀ (b : Nat) (sp : Nat → Bool) (hd : Bool), DataW.TrodAll enc P W' b sp hd f.resultTypes.toList (v.resultList f.resultTypes.size) (s.fn H (ds ++ gs)).results [])
    (hargs : ∀ sp : Nat → Bool, (∀ p ∈ before, sp p.block = true) → DataW.TrodAll enc P W' 0 sp true f.params.toList args.toList (s.fn H (ds ++ gs)).args pa)
    (hvars : ∀ sp : Nat → Bool, (∀ p ∈ before, sp p.block = true) → DataW.TrodVars enc P W' sp s.vars (s.fn H (ds ++ gs)).vars pv)
    (hps : before = pa ++ pv) (hb : Below W.heap.size W W')
    (hok : ∀ (j : Nat) (t : TypeId) (r : Value), f.resultTypes[j]? = some t → (v.resultList f.resultTypes.size)[j]? = some r → Value.okWide P W' .any 0 t r) :
    s.post enc P f apart fresh handsOn again W args v W' := by
  have hlt : ∀ p ∈ before, p.block < W.heap.size := fun p hp => hW.lt p hp
  have hold : ∀ p ∈ before, (fun b => decide (b < W.heap.size)) p.block = true := fun p hp => by simpa using hlt p hp
  refine ⟨ds, gs, before, [], pa, pv, hW, hres _ _ _, hargs _ hold, hvars _ hold, World.keptBut_mono (fun p hp => ⟨hp, ?_⟩) (hb.frame (· ∈ before)), fun _ => ?_⟩
  · rw [hps, List.mem_append] at hp
    exact Or.inr hp
  · obtain ⟨_, _, _, _, _, hz, hn⟩ := hW
    refine ⟨hok, _, _, ([] ++ pa) ++ pv, ⟨[] ++ pa, pv, trodAll_append (hargs _ (fun _ _ => rfl)) (hres _ _ _), hvars _ (fun _ _ => rfl), rfl, ?_, ?_⟩, ?_⟩
    · intro b off hp
      have hin : MemPlace.cell b off ∈ before := by rw [hps]; simpa using hp
      rw [hb.frozen (hlt _ hin)]
      exact hz b off hin
    · intro ha
      have := hn ha
      rw [hps] at this
      simpa using this
    · intro p hp _
      rw [hps]
      simpa using hp
end
theorem laidTail {P : Program} {x : String × DataW Unit} {r : List (String × DataW Unit)} {w : World} (h : laidMet P (x :: r) w) : laidMet P r w := by
  obtain ⟨ps, h1, h2, h3⟩ := h
  obtain ⟨n, d⟩ := x
  obtain ⟨g, t, cs, fuel, p, q, _, _, _, _, h9, rfl⟩ := h1
  exact ⟨q, h9, (List.nodup_append.1 h2).2.1, fun b off hm => h3 b off (List.mem_append_right _ hm)⟩
/-- all that lies in memory is kept for good -/
def gAll (W : World) : Mem := fun b => W.heap[b]?
theorem gAll_agree (W : World) : Agree (gAll W) W := fun b o h => h
theorem gAll_cell {W : World} {b i : Nat} {v : Value} (h : W.cell? ⟨b, i, none⟩ = some v) : gcell (gAll W) b i = some v := by
  unfold gcell gAll
  unfold World.cell? at h
  cases hb : W.heap[b]? with
  | none => simp [hb] at h
  | some o => cases o <;> simp_all
theorem gAll_tab {P : Program} {W : World} {G : Nat} (hg : P.globalNamed "internal/strconv.uint64pow10" = some G) (h : Lib.TabIs P W "internal/strconv.uint64pow10" .u64 Lib.pow10Tab) : TabG P (gAll W) := by
  intro w hw
  unfold Lib.TabIs World.var? at h ⊢
  rw [hg] at h ⊢
  simp only [Option.bind_some] at h ⊢
  cases hW : W.heap[G]? with
  | none => rw [hW] at h; cases h
  | some o => rw [hw G o hW]; rw [hW] at h; exact h
theorem walk_true {P : Program} {f : FuncId} {fn : Func} {c : Code} {vs : List Value} {W : World} {g : Mem} (hf : P.funcs[f]? = some fn) (hname : (fn.name == "runtime.NumGoroutine") = false) (hb : fn.body = some c) (h : CallTo P f vs.toArray W (Ret W g fun v g' => v = .bool true)) : Calls P f vs.toArray W fun e w' => e = .returned (.bool true) ∧ Below W.heap.size W w' := by
  rcases h with ⟨_, h⟩ | ⟨v, w', h, _⟩
  · refine h.mono ?_
    rintro e w' ⟨v, g', rfl, hst, rfl⟩
    exact ⟨rfl, hst.below⟩
  · rw [enters hf hname hb] at h
    cases h
def cellsD {H : Type} : DataW H → List Value
  | .lit (.int k z) => [.int k z]
  | .agg l => go l
  | _ => []
where go : List (DataW H) → List Value
  | [] => []
  | d :: r => cellsD d ++ go r
end Go.Proofs.Vc
