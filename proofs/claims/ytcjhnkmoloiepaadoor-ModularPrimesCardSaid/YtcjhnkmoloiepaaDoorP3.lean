/- Function values with captured variables: their making and their calls. General lemmas; no program occurs here. -/
import Derived.Test.YtcjhnkmoloiepaaDoorKF
namespace Go.Proofs.Vc
open Go Go.RowKit
set_option linter.unusedVariables false
set_option linter.unusedSimpArgs false
set_option linter.unusedSectionVars false
section
variable {P : Program} {ops : Array Oper} {Q : Exit → Act → World → Prop} {S : World → Prop} {n i : Nat} {kn : Kn} {o oj : Oper} {w0 w : World} {M : List Nat} {g0 g g1 : Mem} {own own1 : List (Nat × Obj)} {d j t : Nat} {tail rest : List Oper} {r : List (Nat × Bool)} {b : Bool}
theorem does_makeFunc {f : FuncId} {cs : List Operand} {caps : List Value} (ho : o.op = .makeFunc (.func f) #[] cs.toArray) (hc : kevs kn cs = some caps) : Does P S kn o (.func (.func f) #[] caps.toArray) :=
  does_of fun ρ hρ w => by
    have h := kevs_eq hρ cs caps hc
    simp [execOp, ho, Instr.makeFunc, h]
theorem oper_callC {f : FuncId} {x : Operand} {caps : List Value} {args : List Operand} {ts : Array TypeId} {vs : List Value} {R : Ending → World → Prop} {K : Act → World → Prop} {a : Act} (ho : o.op = .call { callee := .value x, args := args.toArray, argTypes := ts })
    (ha : Knows n a kn) (hx : kev kn x = some (.func (.func f) #[] caps.toArray)) (hvs : kevs kn args = some vs) (hc : CallTo P f (vs ++ caps).toArray w R) (hK : ∀ e w', R e w' → ∃ v, e = .returned v ∧ K (a.put o.dst v) w') : o.wp P a w K Q := by
  have he : args.map a.eval = vs := kevs_eq (fun x u hu => ha.eval hu) args vs hvs
  have hf := ha.eval hx
  have hx : execOp a.eval o = callFunc f (vs ++ caps).toArray := by
    simp only [execOp, ho, resolve]
    have : Deferred.ofValue (a.eval x) vs.toArray = pure { target := .fn (.func f) caps.toArray, args := vs.toArray } := by rw [hf]; simp [Deferred.ofValue]
    simp only [List.map_toArray, he, this, pure_bind, invoke, List.append_toArray]
  unfold Oper.wp
  rw [hx]
  rcases hc with ⟨h1, h2⟩ | ⟨v, w', h1, h2⟩
  · rw [h1, Oper.upon_enter]
    refine h2.mono fun e w' hr => ?_
    obtain ⟨v, rfl, hk⟩ := hK e w' hr
    exact hk
  · rw [h1, Oper.upon_value]
    obtain ⟨v', e, hk⟩ := hK _ _ h2
    cases e
    exact hk
theorem stepK_callC {f : FuncId} {x : Operand} {caps : List Value} {args : List Operand} {ts : Array TypeId} {vs : List Value} {Post : Value → Mem → Prop} (hdst : o.dst = some d) (hg : o.guard = none) (hd : Nat.ble (d + 1) n = true) (ho : o.op = .call { callee := .value x, args := args.toArray, argTypes := ts }) (hx : kev kn x = some (.func (.func f) #[] caps.toArray))
    (hvs : kevs kn args = some vs) (hst : St w0 M g0 g own w) (hc : CallTo P f (vs ++ caps).toArray w (Ret w g Post))
    (h : ∀ v g' w', St w0 M g0 g' own w' → g.le g' → St w [] g g' [] w' → Post v g' → wpK P ops Q n rest ((d, v) :: kn) w') : wpK P ops Q n (o :: rest) kn w := by
  intro a ha
  refine wpList_plain hg fun K hK => ?_
  refine oper_callC ho ha hx hvs hc fun e w' hr => ?_
  obtain ⟨v, g', rfl, hs, hp⟩ := hr
  refine ⟨v, rfl, hK _ _ ?_⟩
  have hx := hst.call hs
  rw [hdst]
  exact h v g' w' hx.1 hx.2 hs hp _ (ha.put (Nat.le_of_ble_eq_true hd) v)
theorem stepE_callC {f : FuncId} {x : Operand} {caps : List Value} {args : List Operand} {ts : Array TypeId} {vs : List Value} {Post : Value → Mem → Prop} (hi : ops[i]? = some o) (hdst : o.dst = some d) (hg : o.guard = none) (hd : Nat.ble (d + 1) n = true)
    (ho : o.op = .call { callee := .value x, args := args.toArray, argTypes := ts }) (hx : kev kn x = some (.func (.func f) #[] caps.toArray)) (hvs : kevs kn args = some vs) (hst : St w0 M g0 g1 own1 w) (hc : CallTo P f (vs ++ caps).toArray w (Ret w g1 Post))
    (hkeep : ∀ g' w', St w0 M g0 g' own1 w' → g1.le g' → St w0 M g0 g own w')
    (h : ∀ v g' w', St w0 M g0 g' own1 w' → g1.le g' → St w [] g1 g' [] w' → Post v g' → wpE P ops Q n (St w0 M g0 g own) tail r ((d, v) :: kn) w') : wpE P ops Q n (St w0 M g0 g own) tail ((i, false) :: r) kn w :=
  ⟨o, d, hi, hdst, Nat.le_of_ble_eq_true hd, .inl fun a ha => ⟨by simp [Region.wanted, hg], oper_callC ho ha hx hvs hc fun e w' hr => by
    obtain ⟨v, g', rfl, hs, hp⟩ := hr
    have hx := hst.call hs
    exact ⟨v, rfl, v, by rw [hdst], hkeep g' w' hx.1 hx.2, h v g' w' hx.1 hx.2 hs hp⟩⟩⟩
theorem stepE_callC_guard {f : FuncId} {x : Operand} {caps : List Value} {args : List Operand} {ts : Array TypeId} {vs : List Value} {Post : Value → Mem → Prop} (hi : ops[i]? = some o) (hdst : o.dst = some d) (hg : o.guard = some (j, b)) (hj : ops[j]? = some oj) (ht : oj.dst = some t)
    (hb : kget kn t = some (.bool b)) (hd : Nat.ble (d + 1) n = true)
    (ho : o.op = .call { callee := .value x, args := args.toArray, argTypes := ts }) (hx : kev kn x = some (.func (.func f) #[] caps.toArray)) (hvs : kevs kn args = some vs) (hst : St w0 M g0 g1 own1 w) (hc : CallTo P f (vs ++ caps).toArray w (Ret w g1 Post))
    (hkeep : ∀ g' w', St w0 M g0 g' own1 w' → g1.le g' → St w0 M g0 g own w')
    (h : ∀ v g' w', St w0 M g0 g' own1 w' → g1.le g' → St w [] g1 g' [] w' → Post v g' → wpE P ops Q n (St w0 M g0 g own) tail r ((d, v) :: kn) w') : wpE P ops Q n (St w0 M g0 g own) tail ((i, false) :: r) kn w :=
  ⟨o, d, hi, hdst, Nat.le_of_ble_eq_true hd, .inl fun a ha => ⟨by
    have := tmp_of_getD (ha.get t _ hb)
    simp [Region.wanted, hg, yielded, hj, ht, this], oper_callC ho ha hx hvs hc fun e w' hr => by
    obtain ⟨v, g', rfl, hs, hp⟩ := hr
    have hx := hst.call hs
    exact ⟨v, rfl, v, by rw [hdst], hkeep g' w' hx.1 hx.2, h v g' w' hx.1 hx.2 hs hp⟩⟩⟩
end
end Go.Proofs.Vc
