/- Regions that draw their order, in which a call may be passed by. General lemmas; no program occurs here. -/
import Derived.Test.YtcjhnkmoloiepaaDoorQ3
namespace Go.Proofs.Vc
open Go Go.RowKit
set_option linter.unusedVariables false
set_option linter.unusedSimpArgs false
set_option linter.unusedSectionVars false
section
variable {P : Program} {ops : Array Oper} {Q : Exit → Act → World → Prop} {md : Region.Mode} {S : World → Prop}
/-- as wpD; a call whose guard says no is passed by in its turn -/
def wpE (P : Program) (ops : Array Oper) (Q : Exit → Act → World → Prop) (n : Nat) (S : World → Prop) (tail : List Oper) : List (Nat × Bool) → Kn → World → Prop
  | [], kn, w => wpK P ops Q n tail kn w
  | (i, true) :: r, kn, w => ∃ o d v, ops[i]? = some o ∧ o.dst = some d ∧ d < n ∧ (∀ a, Knows n a kn → YieldsIf P ops S o v a) ∧ wpE P ops Q n S tail r ((d, v) :: kn) w
  | (i, false) :: r, kn, w => ∃ o d, ops[i]? = some o ∧ o.dst = some d ∧ d < n ∧ ((∀ a, Knows n a kn → Region.wanted o (yielded ops a.tmps) = true ∧
      (o.wp P a w (fun a' w' => ∃ v, a' = a.put (some d) v ∧ S w' ∧ wpE P ops Q n S tail r ((d, v) :: kn) w') Q)) ∨
      ((∀ a, Knows n a kn → Region.wanted o (yielded ops a.tmps) = false) ∧ wpE P ops Q n S tail r ((d, undef) :: kn) w))
theorem wpE_sound {n m : Nat} {tail : List Oper} (htw : tailWaits md ops m = true) (hsel : Region.noSelect ops = true) (htail : ops.toList.drop m = tail)
    (hQ : ∀ c a d v w, Q (.panic c) (Act.put a (some d) v) w → Q (.panic c) a w) : ∀ (sched : List (Nat × Bool)) (fuel : Nat) (listed : Array Bool) (kn : Kn) (a : Act) (w : World), Closed md ops listed →
      schedOk md ops m fuel sched listed = true → Knows n a kn → S w → wpE P ops Q n S tail sched kn w → wpAnyT P md ops Q S m fuel listed a w
  | [], fuel, listed, kn, a, w, hcl, hc, ha, hS, h => by
    have hc' : tailNow m listed = true ∧ tailOk md ops fuel listed m = true := by
      cases fuel <;> simpa [schedOk] using hc
    have h1 := h a ha
    rw [← htail] at h1
    have h2 := tail_sound fuel listed m a w hc'.2 h1
    cases fuel with
    | zero => exact h2
    | succ fuel =>
      unfold wpAnyT
      rw [if_pos hc'.1]
      exact h2
  | (i, d) :: r, 0, listed, kn, a, w, hcl, hc, ha, hS, h => by simp [schedOk] at hc
  | (i, true) :: r, fuel + 1, listed, kn, a, w, hcl, hc, ha, hS, h => by
    simp only [schedOk, Bool.and_eq_true, if_true] at hc
    obtain ⟨o, d, v, ho, hd, hdn, hy, hnext⟩ := h
    have hr : i ∈ Region.ready md ops listed := by simpa using hc.1.1.2
    refine wpAnyT_first (show i < m by simpa using hc.1.1.1) htw ho (Region.noSelect_spec hsel) (by rw [hd]; exact fun c a w h => hQ c a d v w h) fuel listed a w hcl (Region.free_spec ho hc.1.2) hr (hy a ha) hS ?_
    rw [hd]
    exact wpE_sound htw hsel htail hQ r fuel _ _ _ w (hcl.step hr) hc.2 (ha.put hdn v) hS hnext
  | (i, false) :: r, fuel + 1, listed, kn, a, w, hcl, hc, ha, hS, h => by
    simp only [schedOk, Bool.and_eq_true, Bool.false_eq_true, if_false, beq_iff_eq] at hc
    obtain ⟨o, d, ho, hd, hdn, hE⟩ := h
    have hr : i ∈ Region.ready md ops listed := by simpa using hc.1.1.2
    have hnt : tailNow m listed = false := tailNow_false (show i < m by simpa using hc.1.1.1) (mem_ready.1 hr).1
    unfold wpAnyT
    rw [if_neg (by rw [hnt]; simp)]
    refine ⟨fun h0 => (by rw [h0] at hr; cases hr), fun j hj => ?_⟩
    rw [hc.1.2] at hj
    have hji : j = i := by simpa using hj
    subst hji
    rcases hE with hE | ⟨hE, hnext⟩
    · obtain ⟨hw, hwp⟩ := hE a ha
      unfold wpOp
      simp only [ho, hw, if_true]
      refine .inl (Oper.wp_mono (fun a' w' h' => ?_) hwp)
      obtain ⟨v, rfl, hS', hnext⟩ := h'
      exact ⟨hS', wpE_sound htw hsel htail hQ r fuel _ _ _ w' (hcl.step hr) hc.2 (ha.put hdn v) hS' hnext⟩
    · unfold wpOp
      simp only [ho, hE a ha, Bool.false_eq_true, if_false]
      rw [hd]
      exact ⟨hS, wpE_sound htw hsel htail hQ r fuel _ _ _ w (hcl.step hr) hc.2 (ha.put hdn undef) hS hnext⟩
theorem cp_drawnE {id n : Nat} {kn : Kn} {w : World} {l : List Oper} (hm : P.follows .mixedOrders = true) (m : Nat) (sched : List (Nat × Bool)) (tail : List Oper) (htail : l.drop m = tail)
    (hchk : schedOk .any l.toArray m l.length sched (Array.replicate l.length false) = true) (htw : tailWaits .any l.toArray m = true) (hsel : Region.noSelect l.toArray = true)
    (hQ : ∀ c a d v w, Q (.panic c) (Act.put a (some d) v) w → Q (.panic c) a w) (S : World → Prop) (hS : S w.drew) (h : wpE P l.toArray Q n S tail sched kn w.drew) :
    cpK P (.region id l.toArray true) Q n kn w := fun a ha =>
  wp_region_any hm (wpAny_of_T _ _ _ _ (by
    have := wpE_sound (md := .any) htw hsel (by simpa using htail) hQ sched l.toArray.size (Array.replicate l.toArray.size false) kn a w.drew (Closed.start _) (by simpa using hchk) ha hS h
    exact this))
theorem wpE_sub {n : Nat} {tail : List Oper} : ∀ (sched : List (Nat × Bool)) (kn kn' : Kn) (w : World), (∀ t u, kget kn' t = some u → kget kn t = some u) → wpE P ops Q n S tail sched kn' w → wpE P ops Q n S tail sched kn w
  | [], kn, kn', w, hk, h => fun a ha => h a ⟨ha.size, ha.defers, fun t u hu => ha.get t u (hk t u hu)⟩
  | (i, true) :: r, kn, kn', w, hk, h => by
    obtain ⟨o, d, v, h1, h2, h3, h4, h5⟩ := h
    refine ⟨o, d, v, h1, h2, h3, fun a ha => h4 a ⟨ha.size, ha.defers, fun t u hu => ha.get t u (hk t u hu)⟩, wpE_sub r _ _ w (fun t u hu => ?_) h5⟩
    simp only [kget] at hu ⊢
    cases hb : Nat.beq d t with
    | true => rw [hb] at hu; exact hu
    | false => rw [hb] at hu; exact hk t u hu
  | (i, false) :: r, kn, kn', w, hk, h => by
    obtain ⟨o, d, h1, h2, h3, h4⟩ := h
    have hput : ∀ v t u, kget ((d, v) :: kn') t = some u → kget ((d, v) :: kn) t = some u := fun v t u hu => by
      simp only [kget] at hu ⊢
      cases hb : Nat.beq d t with
      | true => rw [hb] at hu; exact hu
      | false => rw [hb] at hu; exact hk t u hu
    refine ⟨o, d, h1, h2, h3, ?_⟩
    rcases h4 with h4 | ⟨h4, h5⟩
    · refine .inl fun a ha => ?_
      obtain ⟨h5, h6⟩ := h4 a ⟨ha.size, ha.defers, fun t u hu => ha.get t u (hk t u hu)⟩
      refine ⟨h5, Oper.wp_mono (fun a' w' h7 => ?_) h6⟩
      obtain ⟨v, e, hS, hw⟩ := h7
      exact ⟨v, e, hS, wpE_sub r _ _ w' (hput v) hw⟩
    · exact .inr ⟨fun a ha => h4 a ⟨ha.size, ha.defers, fun t u hu => ha.get t u (hk t u hu)⟩, wpE_sub r _ _ w (hput undef) h5⟩
end
section
variable {P : Program} {ops : Array Oper} {Q : Exit → Act → World → Prop} {S : World → Prop} {n i : Nat} {kn : Kn} {o oj : Oper} {w0 w : World} {M : List Nat} {g0 g g1 : Mem} {own own1 : List (Nat × Obj)} {d j t : Nat} {tail : List Oper} {r : List (Nat × Bool)} {v : Value} {b c : Bool}
theorem stepE_d (ho : ops[i]? = some o) (hdst : o.dst = some d) (hg : o.guard = none) (hd : Nat.ble (d + 1) n = true)
    (hdo : Does P S kn o v) (h : wpE P ops Q n S tail r ((d, v) :: kn) w) : wpE P ops Q n S tail ((i, true) :: r) kn w :=
  ⟨o, d, v, ho, hdst, Nat.le_of_ble_eq_true hd, fun a ha => .inl ⟨by simp [Region.wanted, hg], fun w' hw' => hdo a.eval (fun x u hu => ha.eval hu) w' hw'⟩, h⟩
theorem stepE_guard (ho : ops[i]? = some o) (hdst : o.dst = some d) (hg : o.guard = some (j, b))
    (hj : ops[j]? = some oj) (ht : oj.dst = some t) (hb : kget kn t = some (.bool b)) (hd : Nat.ble (d + 1) n = true)
    (hdo : Does P S kn o v) (h : wpE P ops Q n S tail r ((d, v) :: kn) w) : wpE P ops Q n S tail ((i, true) :: r) kn w :=
  ⟨o, d, v, ho, hdst, Nat.le_of_ble_eq_true hd, fun a ha => .inl ⟨by
    have := tmp_of_getD (ha.get t _ hb)
    simp [Region.wanted, hg, yielded, hj, ht, this], fun w' hw' => hdo a.eval (fun x u hu => ha.eval hu) w' hw'⟩, h⟩
theorem not_wanted {a : Act} (ha : Knows n a kn) (hg : o.guard = some (j, b)) (hj : ops[j]? = some oj) (ht : oj.dst = some t) (hb : kget kn t = some (.bool c)) (hne : (c == b) = false) : Region.wanted o (yielded ops a.tmps) = false := by
  have := tmp_of_getD (ha.get t _ hb)
  simp [Region.wanted, hg, yielded, hj, ht, this]
  cases c <;> cases b <;> simp_all
theorem stepE_pass (ho : ops[i]? = some o) (hdst : o.dst = some d) (hg : o.guard = some (j, b))
    (hj : ops[j]? = some oj) (ht : oj.dst = some t) (hb : kget kn t = some (.bool c)) (hne : (c == b) = false) (hd : Nat.ble (d + 1) n = true)
    (h : wpE P ops Q n S tail r ((d, undef) :: kn) w) : wpE P ops Q n S tail ((i, true) :: r) kn w :=
  ⟨o, d, undef, ho, hdst, Nat.le_of_ble_eq_true hd, fun a ha => .inr ⟨not_wanted ha hg hj ht hb hne, rfl⟩, h⟩
theorem stepE_skip (ho : ops[i]? = some o) (hdst : o.dst = some d) (hg : o.guard = some (j, b))
    (hj : ops[j]? = some oj) (ht : oj.dst = some t) (hb : kget kn t = some (.bool c)) (hne : (c == b) = false) (hd : Nat.ble (d + 1) n = true)
    (h : wpE P ops Q n S tail r ((d, undef) :: kn) w) : wpE P ops Q n S tail ((i, false) :: r) kn w :=
  ⟨o, d, ho, hdst, Nat.le_of_ble_eq_true hd, .inr ⟨fun a ha => not_wanted ha hg hj ht hb hne, h⟩⟩
theorem stepE_tail (h : wpK P ops Q n tail kn w) : wpE P ops Q n S tail [] kn w := h
theorem stepE_call {f : FuncId} {args : List Operand} {ts : Array TypeId} {vs : List Value} {Post : Value → Mem → Prop} (hi : ops[i]? = some o) (hdst : o.dst = some d) (hg : o.guard = none) (hd : Nat.ble (d + 1) n = true)
    (ho : o.op = .call { callee := .value (.func f), args := args.toArray, argTypes := ts }) (hvs : kevs kn args = some vs) (hst : St w0 M g0 g1 own1 w) (hc : CallTo P f vs.toArray w (Ret w g1 Post))
    (hkeep : ∀ g' w', St w0 M g0 g' own1 w' → g1.le g' → St w0 M g0 g own w')
    (h : ∀ v g' w', St w0 M g0 g' own1 w' → g1.le g' → St w [] g1 g' [] w' → Post v g' → wpE P ops Q n (St w0 M g0 g own) tail r ((d, v) :: kn) w') : wpE P ops Q n (St w0 M g0 g own) tail ((i, false) :: r) kn w :=
  ⟨o, d, hi, hdst, Nat.le_of_ble_eq_true hd, .inl fun a ha => ⟨by simp [Region.wanted, hg], oper_call ho ha hvs hc fun e w' hr => by
    obtain ⟨v, g', rfl, hs, hp⟩ := hr
    have hx := hst.call hs
    exact ⟨v, rfl, v, by rw [hdst], hkeep g' w' hx.1 hx.2, h v g' w' hx.1 hx.2 hs hp⟩⟩⟩
theorem stepE_call_guard {f : FuncId} {args : List Operand} {ts : Array TypeId} {vs : List Value} {Post : Value → Mem → Prop} (hi : ops[i]? = some o) (hdst : o.dst = some d) (hg : o.guard = some (j, b)) (hj : ops[j]? = some oj) (ht : oj.dst = some t)
    (hb : kget kn t = some (.bool b)) (hd : Nat.ble (d + 1) n = true)
    (ho : o.op = .call { callee := .value (.func f), args := args.toArray, argTypes := ts }) (hvs : kevs kn args = some vs) (hst : St w0 M g0 g1 own1 w) (hc : CallTo P f vs.toArray w (Ret w g1 Post))
    (hkeep : ∀ g' w', St w0 M g0 g' own1 w' → g1.le g' → St w0 M g0 g own w')
    (h : ∀ v g' w', St w0 M g0 g' own1 w' → g1.le g' → St w [] g1 g' [] w' → Post v g' → wpE P ops Q n (St w0 M g0 g own) tail r ((d, v) :: kn) w') : wpE P ops Q n (St w0 M g0 g own) tail ((i, false) :: r) kn w :=
  ⟨o, d, hi, hdst, Nat.le_of_ble_eq_true hd, .inl fun a ha => ⟨by
    have := tmp_of_getD (ha.get t _ hb)
    simp [Region.wanted, hg, yielded, hj, ht, this], oper_call ho ha hvs hc fun e w' hr => by
    obtain ⟨v, g', rfl, hs, hp⟩ := hr
    have hx := hst.call hs
    exact ⟨v, rfl, v, by rw [hdst], hkeep g' w' hx.1 hx.2, h v g' w' hx.1 hx.2 hs hp⟩⟩⟩
theorem wpE_splitb (ht : kget kn t = some (.bool b)) (h1 : b = true → wpE P ops Q n S tail r ((t, .bool true) :: kn) w) (h2 : b = false → wpE P ops Q n S tail r ((t, .bool false) :: kn) w) : wpE P ops Q n S tail r kn w := by
  cases hb : b with
  | true => exact wpE_sub r _ _ w (lit_sub ht hb) (h1 hb)
  | false => exact wpE_sub r _ _ w (lit_sub ht hb) (h2 hb)
theorem wpE_split {p : Prop} [Decidable p] (ht : kget kn t = some (.bool (decide p))) (h1 : p → wpE P ops Q n S tail r ((t, .bool true) :: kn) w) (h2 : ¬ p → wpE P ops Q n S tail r ((t, .bool false) :: kn) w) : wpE P ops Q n S tail r kn w :=
  wpE_splitb ht (fun h => h1 (of_decide_eq_true h)) (fun h => h2 (of_decide_eq_false h))
end
end Go.Proofs.Vc
