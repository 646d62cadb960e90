/- A helper of the claim: general lemmas and walks of functions, printed by a program of this session. Conditions: none. -/
import Derived.OrdersHeld
import Derived.Tactics
import Derived.WalkKit
import Derived.WalkLawsBesides
import Derived.Laws.MakeOwn
import Derived.Maps.AppendAt
import Derived.Great.BuildSlice
import Derived.Laws.Externs
import Derived.Laws.Bits64b
import Derived.Laws.MathBits
import Derived.Lib.Strings
import Derived.Lib.Slices
import Derived.Lib.Small
import Derived.Lib.Walk
import Derived.Lib.BitFns
import Derived.Laws.CopyRow
namespace Go.Proofs.Vc
open Go Go.RowKit
set_option linter.unusedVariables false

abbrev Kn := List (Nat × Value)
def kget : Kn → Nat → Option Value
  | [], _ => none
  | (t, v) :: r, s => bif Nat.beq t s then some v else kget r s
def kev (kn : Kn) : Operand → Option Value
  | .tmp t => kget kn t
  | .const v => some v
  | .global g => some (.pointer (some ⟨g, 0, none⟩))
  | .func f => some (.func (.func f) #[] #[])

structure Knows (n : Nat) (a : Act) (kn : Kn) : Prop where
  size : a.tmps.size = n
  defers : a.defers = []
  get : ∀ t v, kget kn t = some v → a.tmps.getD t undef = v

theorem Knows.eval {n : Nat} {a : Act} {kn : Kn} {x : Operand} {v : Value} (h : Knows n a kn) (hx : kev kn x = some v) : a.eval x = v := by
  cases x with
  | tmp t => exact h.get t v hx
  | const c => simpa [kev, Act.eval] using hx
  | global g => simpa [kev, Act.eval] using hx
  | func f => simpa [kev, Act.eval] using hx

theorem Knows.put {n : Nat} {a : Act} {kn : Kn} (h : Knows n a kn) {d : Nat} (hd : d < n) (v : Value) : Knows n (a.put (some d) v) ((d, v) :: kn) := by
  refine ⟨?_, ?_, ?_⟩
  · simp [Act.put, h.size]
  · simp [Act.put, h.defers]
  · intro t u hu
    simp only [kget] at hu
    by_cases hdt : d = t
    · subst hdt
      simp at hu
      subst hu
      have : d < a.tmps.size := by rw [h.size]; exact hd
      simp [Act.put, this]
    · have hb : Nat.beq d t = false := by
        cases hh : Nat.beq d t with
        | false => rfl
        | true => exact absurd (Nat.eq_of_beq_eq_true hh) hdt
      rw [hb] at hu
      have := h.get t u hu
      simp only [Act.put]
      rw [← this]
      simp [Array.getElem?_setIfInBounds_ne hdt]

/-- every fact of the first list stands in the second -/
def knSub : Kn → Kn → Prop
  | [], _ => True
  | (t, v) :: r, kn => kget kn t = some v ∧ knSub r kn
theorem knSub.get {kn' kn : Kn} (h : knSub kn' kn) : ∀ t v, kget kn' t = some v → kget kn t = some v := by
  induction kn' with
  | nil => intro t v hv; simp [kget] at hv
  | cons p r ih =>
    obtain ⟨s, u⟩ := p
    intro t v hv
    simp only [kget] at hv
    cases hb : Nat.beq s t with
    | true =>
      rw [hb] at hv
      simp at hv
      subst hv
      have := Nat.eq_of_beq_eq_true hb
      subst this
      exact h.1
    | false => rw [hb] at hv; exact ih h.2 t v hv
theorem Knows.weaken {n : Nat} {a : Act} {kn kn' : Kn} (h : Knows n a kn) (hs : knSub kn' kn) : Knows n a kn' :=
  ⟨h.size, h.defers, fun t v hv => h.get t v (hs.get t v hv)⟩

/-! ### A list of operations, from a frame known in part -/
def wpK (P : Program) (ops : Array Oper) (Q : Exit → Act → World → Prop) (n : Nat) (rest : List Oper) (kn : Kn) (w : World) : Prop :=
  ∀ a, Knows n a kn → wpList P ops Q rest a w
def cpK (P : Program) (c : Code) (Q : Exit → Act → World → Prop) (n : Nat) (kn : Kn) (w : World) : Prop :=
  ∀ a, Knows n a kn → c.wp P Q a w
/-- what stands behind: the frame known so, the world so -/
def atK (K : Act → World → Prop) (n : Nat) (kn : Kn) (w : World) : Prop := ∀ a, Knows n a kn → K a w

/-- what a round of a loop must come to -/
def loopPost {ι : Type} (n : Nat) (knI : ι → Kn) (inv : ι → World → Prop) (μ : ι → Nat) (m : Nat) : Act → World → Prop := fun a' w' => ∃ i', Knows n a' (knI i') ∧ inv i' w' ∧ μ i' < m
section
variable {P : Program} {ops : Array Oper} {Q : Exit → Act → World → Prop} {n : Nat} {kn : Kn} {w : World}

theorem cp_weaken {c : Code} (kn' : Kn) (hs : knSub kn' kn) (h : cpK P c Q n kn' w) : cpK P c Q n kn w := fun a ha => h a (ha.weaken hs)
theorem wpK_weaken {rest : List Oper} (kn' : Kn) (hs : knSub kn' kn) (h : wpK P ops Q n rest kn' w) : wpK P ops Q n rest kn w := fun a ha => h a (ha.weaken hs)
theorem cp_seq {c d : Code} (h : cpK P c (Exit.then (d.wp P Q) Q) n kn w) : cpK P (.seq c d) Q n kn w := fun a ha => wp_seq (h a ha)
theorem cp_then {d : Code} {Q' : Exit → Act → World → Prop} (h : cpK P d Q n kn w) : atK ((Exit.then (d.wp P Q) Q') .normal) n kn w := fun a ha => h a ha
theorem cp_skip (h : atK (Q .normal) n kn w) : cpK P .skip Q n kn w := fun a ha => wp_skip (h a ha)
theorem cp_ret (h : atK (Q .ret) n kn w) : cpK P .ret Q n kn w := fun a ha => wp_ret (h a ha)
theorem cp_exit {id : Nat} (h : atK (Q (.exit id)) n kn w) : cpK P (.exit id) Q n kn w := fun a ha => wp_exit (h a ha)
theorem cp_block {id : Nat} {c : Code} (h : cpK P c (Exit.inBlock id Q) n kn w) : cpK P (.block id c) Q n kn w := fun a ha => wp_block (h a ha)
theorem cp_cond {c : Operand} {x y : Code} {b : Bool} (hc : kev kn c = some (.bool b)) (ht : b = true → cpK P x Q n kn w) (hf : b = false → cpK P y Q n kn w) :
    cpK P (.cond c x y) Q n kn w := fun a ha => wp_cond_split (ha.eval hc) (fun h => ht h a ha) (fun h => hf h a ha)
theorem cp_cond_true {c : Operand} {x y : Code} (hc : kev kn c = some (.bool true)) (ht : cpK P x Q n kn w) :
    cpK P (.cond c x y) Q n kn w := fun a ha => wp_cond_true (ha.eval hc) (ht a ha)
theorem cp_cond_false {c : Operand} {x y : Code} (hc : kev kn c = some (.bool false)) (hf : cpK P y Q n kn w) :
    cpK P (.cond c x y) Q n kn w := fun a ha => wp_cond_false (ha.eval hc) (hf a ha)
theorem cp_region {id : Nat} {l : List Oper} (h : wpK P l.toArray Q n l kn w) : cpK P (.region id l.toArray false) Q n kn w := fun a ha => wp_region_lit (h a ha)
theorem wpK_nil (h : atK (Q .normal) n kn w) : wpK P ops Q n [] kn w := fun a ha => h a ha
theorem wpK_nil_then {d : Code} {Q' : Exit → Act → World → Prop} (h : cpK P d Q n kn w) : wpK P ops (Exit.then (d.wp P Q) Q') n [] kn w := fun a ha => h a ha
/-- the end of a loop's body goes on to the relation; the end of a block's body goes on behind it -/
theorem wpK_nil_block {id : Nat} (h : atK (Q .normal) n kn w) : wpK P ops (Exit.inBlock id Q) n [] kn w := fun a ha => h a ha
theorem cp_exit_here {id : Nat} (h : atK (Q .normal) n kn w) : atK ((Exit.inBlock id Q) (.exit id)) n kn w := fun a ha => by
  simp only [Exit.inBlock, if_true]
  exact h a ha
theorem cp_exit_on {id id' : Nat} (hne : id' ≠ id) (h : atK (Q (.exit id')) n kn w) : atK ((Exit.inBlock id Q) (.exit id')) n kn w := fun a ha => by
  simp only [Exit.inBlock, hne, if_false]; exact h a ha

theorem cp_loop {c : Code} {ι : Type} (knI : ι → Kn) (inv : ι → World → Prop) (μ : ι → Nat) (i0 : ι) (hk : knSub (knI i0) kn) (h0 : inv i0 w)
    (round : ∀ i w, inv i w → cpK P c (Exit.then (loopPost n knI inv μ (μ i)) Q) n (knI i) w) : cpK P (.loop c) Q n kn w := by
  intro a ha b k cs
  have key : ∀ m i a w, μ i = m → Knows n a (knI i) → inv i w →
      ∃ e a' w', Q e a' w' ∧ Arrives P (lone (b.at a (.code c :: .inLoop c :: k)) cs w) b k cs e a' w' := by
    intro m
    induction m using Nat.strongRecOn with
    | _ m ih =>
      intro i a w hm hkn hI
      obtain ⟨e, a₁, w₁, hq, harr⟩ := round i w hI a hkn b (.inLoop c :: k) cs
      cases e with
      | normal =>
        obtain ⟨i', hk', hI', hlt⟩ := hq
        obtain ⟨e₂, a₂, w₂, hq₂, harr₂⟩ := ih (μ i') (hm ▸ hlt) i' a₁ w₁ rfl hk' hI'
        exact ⟨e₂, a₂, w₂, hq₂, .of_steps (Steps.trans harr (.one step_inLoop)) harr₂⟩
      | exit id => exact ⟨_, a₁, w₁, hq, .pass (x := .inLoop c) rfl (fun _ _ => .inl (by simp)) harr⟩
      | goto l => exact ⟨_, a₁, w₁, hq, .pass (x := .inLoop c) rfl (fun _ _ => .inl (by simp)) harr⟩
      | ret => exact ⟨_, a₁, w₁, hq, .pass (x := .inLoop c) rfl (fun _ _ => .inl (by simp)) harr⟩
      | panic ch => exact ⟨_, a₁, w₁, hq, .pass (x := .inLoop c) rfl (fun _ _ => .inl (by simp)) harr⟩
      | outgrown => exact ⟨_, a₁, w₁, hq, .pass (x := .inLoop c) rfl (fun _ _ => .inl (by simp)) harr⟩
  obtain ⟨e, a', w', hq, harr⟩ := key _ i0 a w rfl (ha.weaken hk) h0
  exact ⟨e, a', w', hq, .of_steps (.one step_loop) harr⟩
/-- the round's end -/
theorem round_end {ι : Type} {knI : ι → Kn} {inv : ι → World → Prop} {μ : ι → Nat} {m : Nat} {Q' : Exit → Act → World → Prop} (i' : ι) (hk : knSub (knI i') kn) (h : inv i' w) (hm : μ i' < m) :
    atK ((Exit.then (loopPost n knI inv μ m) Q') .normal) n kn w := fun a ha => ⟨i', ha.weaken hk, h, hm⟩
end

/-! ### One operation that leaves the world alone -/
/-- in every world of the class the operation yields v -/
def Does (P : Program) (S : World → Prop) (kn : Kn) (o : Oper) (v : Value) : Prop :=
  ∀ ρ : Operand → Value, (∀ x u, kev kn x = some u → ρ x = u) → ∀ w, S w → (execOp ρ o).run P w = .ok (.value v) w

section
variable {P : Program} {ops : Array Oper} {Q : Exit → Act → World → Prop} {n : Nat} {kn : Kn} {w : World} {S : World → Prop}
theorem stepK_d {o : Oper} {rest : List Oper} {v : Value} {d : Nat} (hdst : o.dst = some d) (hg : o.guard = none) (hd : Nat.ble (d + 1) n = true) (hS : S w) (hdo : Does P S kn o v)
    (h : wpK P ops Q n rest ((d, v) :: kn) w) : wpK P ops Q n (o :: rest) kn w := by
  intro a ha
  refine wpList_plain hg fun K hK => ?_
  have hr := hdo a.eval (fun x u hu => ha.eval hu) w hS
  unfold Oper.wp
  rw [hr, Oper.upon_value, hdst]
  exact hK _ _ (h _ (ha.put (Nat.le_of_ble_eq_true hd) v))
theorem tmp_of_getD {ts : Array Value} {t : Nat} {b : Bool} (h : ts.getD t undef = .bool b) : ts[t]? = some (.bool b) := by
  rw [Array.getD_eq_getD_getElem?] at h
  cases hc : ts[t]? with
  | none => rw [hc] at h; cases h
  | some u => rw [hc] at h; simpa using h
/-- an operation under a guard that is met -/
theorem stepK_guard {o : Oper} {rest : List Oper} {v : Value} {d j t : Nat} {oj : Oper} {b : Bool} (hdst : o.dst = some d) (hg : o.guard = some (j, b)) (hj : ops[j]? = some oj) (ht : oj.dst = some t)
    (hb : kget kn t = some (.bool b)) (hd : Nat.ble (d + 1) n = true) (hS : S w) (hdo : Does P S kn o v)
    (h : wpK P ops Q n rest ((d, v) :: kn) w) : wpK P ops Q n (o :: rest) kn w := by
  intro a ha
  have hw : Region.wanted o (yielded ops a.tmps) = true := by
    have := tmp_of_getD (ha.get t _ hb)
    simp [Region.wanted, hg, yielded, hj, ht, this]
  have hr := hdo a.eval (fun x u hu => ha.eval hu) w hS
  unfold wpList
  rw [if_pos hw]
  refine .inl ?_
  unfold Oper.wp
  rw [hr, Oper.upon_value, hdst]
  exact h _ (ha.put (Nat.le_of_ble_eq_true hd) v)
/-- an operation under a guard that is not met -/
theorem stepK_pass {o : Oper} {rest : List Oper} {d j t : Nat} {oj : Oper} {b c : Bool} (hdst : o.dst = some d) (hg : o.guard = some (j, b)) (hj : ops[j]? = some oj) (ht : oj.dst = some t)
    (hb : kget kn t = some (.bool c)) (hne : (c == b) = false) (hd : Nat.ble (d + 1) n = true)
    (h : wpK P ops Q n rest ((d, undef) :: kn) w) : wpK P ops Q n (o :: rest) kn w := by
  intro a ha
  have hw : Region.wanted o (yielded ops a.tmps) = false := by
    have := tmp_of_getD (ha.get t _ hb)
    simp [Region.wanted, hg, yielded, hj, ht, this]
    cases c <;> cases b <;> simp_all
  unfold wpList
  rw [if_neg (by simp [hw]), hdst]
  exact h _ (ha.put (Nat.le_of_ble_eq_true hd) undef)
end
end Go.Proofs.Vc

namespace Go.Proofs.Vc
open Go Go.RowKit
set_option linter.unusedVariables false

section
variable {P : Program} {ops : Array Oper} {Q : Exit → Act → World → Prop} {md : Region.Mode} {S : World → Prop}

/-- have all operations below m come up? -/
def tailNow (m : Nat) (listed : Array Bool) : Bool := (List.range m).all fun i => listed.getD i false

/-- whatever order is picked, S holding behind each operation till the first m have come up -/
def wpAnyT (P : Program) (md : Region.Mode) (ops : Array Oper) (Q : Exit → Act → World → Prop) (S : World → Prop) (m : Nat) : Nat → Array Bool → Act → World → Prop
  | 0, listed, a, w => Region.ready md ops listed = [] ∧ Q .normal a w
  | fuel + 1, listed, a, w =>
    if tailNow m listed = true then wpAny P md ops Q (fuel + 1) listed a w else
    (Region.ready md ops listed = [] → Q .normal a w) ∧
    ∀ i ∈ Region.ready md ops listed, wpOp P ops Q i (fun a' w' => S w' ∧ wpAnyT P md ops Q S m fuel (listed.setIfInBounds i true) a' w') a w

theorem wpAny_of_T {m : Nat} : ∀ (fuel : Nat) (listed : Array Bool) (a : Act) (w : World), wpAnyT P md ops Q S m fuel listed a w → wpAny P md ops Q fuel listed a w
  | 0, _, _, _, h => h
  | fuel + 1, listed, a, w, h => by
    unfold wpAnyT at h
    split at h
    · exact h
    · exact ⟨h.1, fun i hi => wpOp_mono (fun a' w' h' => wpAny_of_T fuel _ a' w' h'.2) (h.2 i hi)⟩

theorem listed_false {listed : Array Bool} {i : Nat} (h : listed.getD i true = false) : listed[i]? = some false := by
  rw [Array.getD_eq_getD_getElem?] at h
  cases hc : listed[i]? with
  | none => rw [hc] at h; cases h
  | some b => rw [hc] at h; simpa using h
theorem tailNow_false {m i : Nat} {listed : Array Bool} (hi : i < m) (h : listed.getD i true = false) : tailNow m listed = false := by
  unfold tailNow
  rw [Bool.eq_false_iff]
  intro hall
  rw [List.all_eq_true] at hall
  have h1 := hall i (List.mem_range.2 hi)
  simp [listed_false h] at h1

/-- what has come up had all that it waits for come up before it -/
def Closed (md : Region.Mode) (ops : Array Oper) (listed : Array Bool) : Prop :=
  ∀ j o, ops[j]? = some o → listed.getD j false = true → ∀ e ∈ o.after, Region.binds md e = true → listed.getD e.on false = true
theorem Closed.start (k : Nat) : Closed md ops (Array.replicate k false) := by
  intro j o _ h
  rw [Array.getD_eq_getD_getElem?, Array.getElem?_replicate] at h
  split at h <;> simp at h
theorem Closed.step {listed : Array Bool} {j : Nat} (h : Closed md ops listed) (hj : j ∈ Region.ready md ops listed) : Closed md ops (listed.setIfInBounds j true) := by
  intro k o hk hl e he hb
  refine getD_set_true ?_
  by_cases hjk : j = k
  · subst hjk
    obtain ⟨_, o', ho', hall⟩ := mem_ready.1 hj
    rw [ho'] at hk
    cases hk
    exact hall e he hb
  · rw [getD_set_ne false hjk] at hl
    exact h k o hk hl e he hb
def waitsFor (md : Region.Mode) (ops : Array Oper) : Nat → Nat → Nat → Bool
  | 0, _, _ => false
  | f + 1, j, i => match ops[j]? with
    | some o => o.after.any fun e => Region.binds md e && (e.on == i || waitsFor md ops f e.on i)
    | none => false
theorem waitsFor_spec {listed : Array Bool} (hcl : Closed md ops listed) {i : Nat} : ∀ (f j : Nat) (o : Oper), ops[j]? = some o → (∀ e ∈ o.after, Region.binds md e = true → listed.getD e.on false = true) →
    waitsFor md ops f j i = true → listed.getD i false = true
  | 0, _, _, _, _, h => by simp [waitsFor] at h
  | f + 1, j, o, ho, hall, h => by
    simp only [waitsFor, ho] at h
    rw [Array.any_eq_true'] at h
    obtain ⟨e, he, h3⟩ := h
    simp only [Bool.and_eq_true, Bool.or_eq_true, beq_iff_eq] at h3
    have h4 := hall e he h3.1
    rcases h3.2 with h5 | h5
    · rw [← h5]; exact h4
    · cases hoj : ops[e.on]? with
      | none => cases f <;> simp [waitsFor, hoj] at h5
      | some o' => exact waitsFor_spec hcl f e.on o' hoj (fun e' he' hb' => hcl e.on o' hoj h4 e' he' hb') h5
/-- each operation from m on waits for each below m -/
def tailWaits (md : Region.Mode) (ops : Array Oper) (m : Nat) : Bool :=
  (List.range ops.size).all fun j => Nat.blt j m || (List.range m).all fun i => waitsFor md ops 6 j i
theorem tailWaits_spec {m : Nat} (h : tailWaits md ops m = true) {listed : Array Bool} (hcl : Closed md ops listed) {i j : Nat} (him : i < m) (hi : listed.getD i true = false) (hj : j ∈ Region.ready md ops listed) : j < m := by
  obtain ⟨_, o, ho, hall⟩ := mem_ready.1 hj
  rcases Nat.lt_or_ge j m with hlt | hge
  · exact hlt
  · unfold tailWaits at h
    rw [List.all_eq_true] at h
    have h1 := h j (List.mem_range.2 (Array.getElem?_eq_some_iff.1 ho).1)
    simp only [Bool.or_eq_true] at h1
    rcases h1 with h1 | h1
    · have : j < m := by simpa using h1
      omega
    · rw [List.all_eq_true] at h1
      have h4 := waitsFor_spec hcl 6 j o ho hall (h1 i (List.mem_range.2 him))
      rw [Array.getD_eq_getD_getElem?, listed_false hi] at h4
      simp at h4

/-- an operation of the first m that may come up now, and yields its value in every world of the class, may be taken first -/
theorem wpAnyT_first {m i : Nat} (him : i < m) (htw : tailWaits md ops m = true) {oi : Oper} {v : Value} (hi : ops[i]? = some oi) (hsel : ∀ (j : Nat) (o : Oper) cs b, ops[j]? = some o → o.op ≠ .select cs b)
    (hQ : ∀ c a w, Q (.panic c) (a.put oi.dst v) w → Q (.panic c) a w) :
    ∀ (fuel : Nat) (listed : Array Bool) (a : Act) (w : World), Closed md ops listed →
      (∀ j oj, ops[j]? = some oj → j ≠ i → listed.getD j true = false → (∀ e ∈ oj.after, Region.binds md e = true → e.on ≠ i) → oi.apart ops oj = true) →
      i ∈ Region.ready md ops listed → YieldsIf P ops S oi v a → S w →
      wpAnyT P md ops Q S m fuel (listed.setIfInBounds i true) (a.put oi.dst v) w → wpAnyT P md ops Q S m (fuel + 1) listed a w := by
  intro fuel
  induction fuel with
  | zero =>
    intro listed a w _ _ hr hy hS H
    have hnt : tailNow m listed = false := tailNow_false him (mem_ready.1 hr).1
    unfold wpAnyT
    rw [if_neg (by rw [hnt]; simp)]
    refine ⟨fun h => (by rw [h] at hr; cases hr), fun j hj => ?_⟩
    by_cases hji : j = i
    · subst hji; exact hy.wpOp hi hS ⟨hS, H⟩
    · have := ready_mono hj hji
      rw [H.1] at this
      cases this
  | succ fuel ih =>
    intro listed a w hcl hfree hr hy hS H
    have hun := (mem_ready.1 hr).1
    have hnt : tailNow m listed = false := tailNow_false him hun
    unfold wpAnyT
    rw [if_neg (by rw [hnt]; simp)]
    refine ⟨fun h => (by rw [h] at hr; cases hr), fun j hj => ?_⟩
    by_cases hji : j = i
    · subst hji; exact hy.wpOp hi hS ⟨hS, H⟩
    · have hjm : j < m := tailWaits_spec htw hcl him hun hj
      obtain ⟨hjun, oj, hoj, hall⟩ := mem_ready.1 hj
      have hnot : ∀ e ∈ oj.after, Region.binds md e = true → e.on ≠ i := fun e he hb heq => by
        have h1 := hall e he hb
        rw [heq, Array.getD_eq_getD_getElem?, listed_false hun] at h1
        simp at h1
      have hnti : tailNow m (listed.setIfInBounds i true) = false := tailNow_false hjm (mem_ready.1 (ready_mono hj hji)).1
      have h1 : wpOp P ops Q j (fun a' w' => S w' ∧ wpAnyT P md ops Q S m fuel ((listed.setIfInBounds i true).setIfInBounds j true) a' w') (a.put oi.dst v) w := by
        unfold wpAnyT at H
        rw [if_neg (by rw [hnti]; simp)] at H
        exact H.2 j (ready_mono hj hji)
      have h2 := wpOp_putIf hoj (hfree j oj hoj hji hjun hnot) (fun cs b => hsel i oi cs b hi) (fun cs b => hsel j oj cs b hoj) hQ hy h1
      have hfree' : ∀ k ok, ops[k]? = some ok → k ≠ i → (listed.setIfInBounds j true).getD k true = false →
          (∀ e ∈ ok.after, Region.binds md e = true → e.on ≠ i) → oi.apart ops ok = true := fun k ok hk hki hun hno => by
        refine hfree k ok hk hki ?_ hno
        by_cases hjk : j = k
        · subst hjk; exact hjun
        · rw [getD_set_ne true hjk] at hun; exact hun
      refine wpOp_mono (fun a' w' h3 => ⟨h3.2.1, ih (listed.setIfInBounds j true) a' w' (hcl.step hj) hfree' (ready_mono hr (Ne.symm hji)) h3.1 h3.2.1 ?_⟩) h2
      rw [Array.setIfInBounds_comm _ _ hji]
      exact h3.2.2

/-! ### The tail: one order alone -/
def tailOk (md : Region.Mode) (ops : Array Oper) : Nat → Array Bool → Nat → Bool
  | 0, listed, k => (Region.ready md ops listed == []) && k == ops.size
  | fuel + 1, listed, k => (Region.ready md ops listed == [k]) && tailOk md ops fuel (listed.setIfInBounds k true) (k + 1)
theorem tail_sound : ∀ (fuel : Nat) (listed : Array Bool) (k : Nat) (a : Act) (w : World), tailOk md ops fuel listed k = true → wpList P ops Q (ops.toList.drop k) a w → wpAny P md ops Q fuel listed a w
  | 0, listed, k, a, w, hc, h => by
    simp only [tailOk, Bool.and_eq_true, beq_iff_eq] at hc
    refine ⟨hc.1, ?_⟩
    rw [List.drop_of_length_le (by simp [hc.2])] at h
    exact h
  | fuel + 1, listed, k, a, w, hc, h => by
    simp only [tailOk, Bool.and_eq_true, beq_iff_eq] at hc
    refine ⟨fun h0 => (by rw [hc.1] at h0; cases h0), fun i hi => ?_⟩
    rw [hc.1] at hi
    have hik : i = k := by simpa using hi
    subst hik
    have hk : i ∈ Region.ready md ops listed := by rw [hc.1]; simp
    obtain ⟨_, o, ho, _⟩ := mem_ready.1 hk
    have hlt : i < ops.size := (Array.getElem?_eq_some_iff.1 ho).1
    have hoo : ops[i] = o := (Array.getElem?_eq_some_iff.1 ho).2
    rw [List.drop_eq_getElem_cons (by simpa using hlt)] at h
    have he : ops.toList[i]'(by simpa using hlt) = o := by simpa using hoo
    rw [he] at h
    unfold wpOp
    simp only [ho]
    unfold wpList at h
    split
    · rename_i hw
      rw [if_pos hw] at h
      exact h.imp (Oper.wp_mono (fun a w h => tail_sound fuel _ (i + 1) a w hc.2 h)) id
    · rename_i hw
      rw [if_neg hw] at h
      exact tail_sound fuel _ (i + 1) _ w hc.2 h

/-! ### The schedule -/
/-- 'sched': the first m operations in the order in which they are taken; true: it leaves the world alone and yields one value in the whole class -/
def schedOk (md : Region.Mode) (ops : Array Oper) (m : Nat) : Nat → List (Nat × Bool) → Array Bool → Bool
  | fuel, [], listed => tailNow m listed && tailOk md ops fuel listed m
  | 0, _ :: _, _ => false
  | fuel + 1, (i, d) :: r, listed => Nat.blt i m && (Region.ready md ops listed).contains i && (if d then Region.free md ops listed i else Region.ready md ops listed == [i]) &&
      schedOk md ops m fuel r (listed.setIfInBounds i true)

def wpD (P : Program) (ops : Array Oper) (Q : Exit → Act → World → Prop) (n : Nat) (S : World → Prop) (tail : List Oper) : List (Nat × Bool) → Kn → World → Prop
  | [], kn, w => wpK P ops Q n tail kn w
  | (i, true) :: r, kn, w => ∃ o d v, ops[i]? = some o ∧ o.dst = some d ∧ d < n ∧ (∀ a, Knows n a kn → YieldsIf P ops S o v a) ∧ wpD P ops Q n S tail r ((d, v) :: kn) w
  | (i, false) :: r, kn, w => ∃ o d, ops[i]? = some o ∧ o.dst = some d ∧ d < n ∧ ∀ a, Knows n a kn → Region.wanted o (yielded ops a.tmps) = true ∧
      (o.wp P a w (fun a' w' => ∃ v, a' = a.put (some d) v ∧ S w' ∧ wpD P ops Q n S tail r ((d, v) :: kn) w') Q)

theorem wpD_sound {n m : Nat} {tail : List Oper} (htw : tailWaits md ops m = true) (hsel : Region.noSelect ops = true) (htail : ops.toList.drop m = tail)
    (hQ : ∀ c a d v w, Q (.panic c) (Act.put a (some d) v) w → Q (.panic c) a w) : ∀ (sched : List (Nat × Bool)) (fuel : Nat) (listed : Array Bool) (kn : Kn) (a : Act) (w : World), Closed md ops listed →
      schedOk md ops m fuel sched listed = true → Knows n a kn → S w → wpD P ops Q n S tail sched kn w → wpAnyT P md ops Q S m fuel listed a w
  | [], fuel, listed, kn, a, w, hcl, hc, ha, hS, h => by
    have hc' : tailNow m listed = true ∧ tailOk md ops fuel listed m = true := by
      cases fuel <;> simpa [schedOk] using hc
    have h1 := h a ha
    rw [← htail] at h1
    have h2 := tail_sound fuel listed m a w hc'.2 h1
    cases fuel with
    | zero => exact h2
    | succ fuel =>
      unfold wpAnyT
      rw [if_pos hc'.1]
      exact h2
  | (i, d) :: r, 0, listed, kn, a, w, hcl, hc, ha, hS, h => by simp [schedOk] at hc
  | (i, true) :: r, fuel + 1, listed, kn, a, w, hcl, hc, ha, hS, h => by
    simp only [schedOk, Bool.and_eq_true, if_true] at hc
    obtain ⟨o, d, v, ho, hd, hdn, hy, hnext⟩ := h
    have hr : i ∈ Region.ready md ops listed := by simpa using hc.1.1.2
    refine wpAnyT_first (show i < m by simpa using hc.1.1.1) htw ho (Region.noSelect_spec hsel) (by rw [hd]; exact fun c a w h => hQ c a d v w h) fuel listed a w hcl (Region.free_spec ho hc.1.2) hr (hy a ha) hS ?_
    rw [hd]
    exact wpD_sound htw hsel htail hQ r fuel _ _ _ w (hcl.step hr) hc.2 (ha.put hdn v) hS hnext
  | (i, false) :: r, fuel + 1, listed, kn, a, w, hcl, hc, ha, hS, h => by
    simp only [schedOk, Bool.and_eq_true, Bool.false_eq_true, if_false, beq_iff_eq] at hc
    obtain ⟨o, d, ho, hd, hdn, hE⟩ := h
    have hr : i ∈ Region.ready md ops listed := by simpa using hc.1.1.2
    have hnt : tailNow m listed = false := tailNow_false (show i < m by simpa using hc.1.1.1) (mem_ready.1 hr).1
    unfold wpAnyT
    rw [if_neg (by rw [hnt]; simp)]
    refine ⟨fun h0 => (by rw [h0] at hr; cases hr), fun j hj => ?_⟩
    rw [hc.1.2] at hj
    have hji : j = i := by simpa using hj
    subst hji
    obtain ⟨hw, hwp⟩ := hE a ha
    unfold wpOp
    simp only [ho, hw, if_true]
    refine .inl (Oper.wp_mono (fun a' w' h' => ?_) hwp)
    obtain ⟨v, rfl, hS', hnext⟩ := h'
    exact ⟨hS', wpD_sound htw hsel htail hQ r fuel _ _ _ w' (hcl.step hr) hc.2 (ha.put hdn v) hS' hnext⟩

theorem cp_drawn {id n : Nat} {kn : Kn} {w : World} {l : List Oper} (hm : P.follows .mixedOrders = true) (m : Nat) (sched : List (Nat × Bool)) (tail : List Oper) (htail : l.drop m = tail)
    (hchk : schedOk .any l.toArray m l.length sched (Array.replicate l.length false) = true) (htw : tailWaits .any l.toArray m = true) (hsel : Region.noSelect l.toArray = true)
    (hQ : ∀ c a d v w, Q (.panic c) (Act.put a (some d) v) w → Q (.panic c) a w) (S : World → Prop) (hS : S w.drew) (h : wpD P l.toArray Q n S tail sched kn w.drew) :
    cpK P (.region id l.toArray true) Q n kn w := fun a ha =>
  wp_region_any hm (wpAny_of_T _ _ _ _ (by
    have := wpD_sound (md := .any) htw hsel (by simpa using htail) hQ sched l.toArray.size (Array.replicate l.toArray.size false) kn a w.drew (Closed.start _) (by simpa using hchk) ha hS h
    exact this))

theorem stepD_d {n i : Nat} {kn : Kn} {w : World} {tail : List Oper} {r : List (Nat × Bool)} {o : Oper} {d : Nat} {v : Value} (ho : ops[i]? = some o) (hdst : o.dst = some d) (hg : o.guard = none) (hd : Nat.ble (d + 1) n = true)
    (hdo : Does P S kn o v) (h : wpD P ops Q n S tail r ((d, v) :: kn) w) : wpD P ops Q n S tail ((i, true) :: r) kn w :=
  ⟨o, d, v, ho, hdst, Nat.le_of_ble_eq_true hd, fun a ha => .inl ⟨by simp [Region.wanted, hg], fun w' hw' => hdo a.eval (fun x u hu => ha.eval hu) w' hw'⟩, h⟩
theorem stepD_guard {n i : Nat} {kn : Kn} {w : World} {tail : List Oper} {r : List (Nat × Bool)} {o oj : Oper} {d j t : Nat} {b : Bool} {v : Value} (ho : ops[i]? = some o) (hdst : o.dst = some d) (hg : o.guard = some (j, b))
    (hj : ops[j]? = some oj) (ht : oj.dst = some t) (hb : kget kn t = some (.bool b)) (hd : Nat.ble (d + 1) n = true)
    (hdo : Does P S kn o v) (h : wpD P ops Q n S tail r ((d, v) :: kn) w) : wpD P ops Q n S tail ((i, true) :: r) kn w :=
  ⟨o, d, v, ho, hdst, Nat.le_of_ble_eq_true hd, fun a ha => .inl ⟨by
    have := tmp_of_getD (ha.get t _ hb)
    simp [Region.wanted, hg, yielded, hj, ht, this], fun w' hw' => hdo a.eval (fun x u hu => ha.eval hu) w' hw'⟩, h⟩
theorem stepD_pass {n i : Nat} {kn : Kn} {w : World} {tail : List Oper} {r : List (Nat × Bool)} {o oj : Oper} {d j t : Nat} {b c : Bool} (ho : ops[i]? = some o) (hdst : o.dst = some d) (hg : o.guard = some (j, b))
    (hj : ops[j]? = some oj) (ht : oj.dst = some t) (hb : kget kn t = some (.bool c)) (hne : (c == b) = false) (hd : Nat.ble (d + 1) n = true)
    (h : wpD P ops Q n S tail r ((d, undef) :: kn) w) : wpD P ops Q n S tail ((i, true) :: r) kn w :=
  ⟨o, d, undef, ho, hdst, Nat.le_of_ble_eq_true hd, fun a ha => .inr ⟨by
    have := tmp_of_getD (ha.get t _ hb)
    simp [Region.wanted, hg, yielded, hj, ht, this]
    cases c <;> cases b <;> simp_all, rfl⟩, h⟩
theorem stepD_tail {n : Nat} {kn : Kn} {w : World} {tail : List Oper} (h : wpK P ops Q n tail kn w) : wpD P ops Q n S tail [] kn w := h
end
end Go.Proofs.Vc

namespace Go.Proofs.Vc
open Go Go.RowKit
set_option linter.unusedVariables false
set_option linter.unusedSimpArgs false
set_option linter.unusedSectionVars false

section
variable {P : Program} {kn : Kn} {S : World → Prop} {o : Oper}

theorem int_beq (a b : Int) : (a == b) = decide (a = b) := by by_cases h : a = b <;> simp [h]
theorem does_of {v : Value} (h : ∀ ρ : Operand → Value, (∀ x u, kev kn x = some u → ρ x = u) → ∀ w, (execOp ρ o).run P w = .ok (.value v) w) : Does P S kn o v := fun ρ hρ w _ => h ρ hρ w

theorem does_move {x : Operand} {v : Value} (ho : o.op = .move x) (hx : kev kn x = some v) : Does P S kn o v :=
  does_of fun ρ hρ w => by simp [execOp, ho, hρ x v hx, Sem.run]
theorem does_assign {x : Operand} {v : Value} (ho : o.op = .assign x) (hx : kev kn x = some v) : Does P S kn o v :=
  does_of fun ρ hρ w => by simp [execOp, ho, hρ x v hx, Sem.run]
theorem does_pick_true {c x y : Operand} {v : Value} (ho : o.op = .pick c x y) (hc : kev kn c = some (.bool true)) (hx : kev kn x = some v) : Does P S kn o v :=
  does_of fun ρ hρ w => by simp [execOp, ho, hρ x v hx, hρ c _ hc, asBool]
theorem does_pick_false {c x y : Operand} {v : Value} (ho : o.op = .pick c x y) (hc : kev kn c = some (.bool false)) (hy : kev kn y = some v) : Does P S kn o v :=
  does_of fun ρ hρ w => by simp [execOp, ho, hρ y v hy, hρ c _ hc, asBool]

/-! whole numbers -/
theorem does_bin {op : BinOp} {t yt : TypeId} {x y : Operand} {k k' : IntKind} {a b : Int} {v : Value} (ho : o.op = .binOp op t x y yt) (hx : kev kn x = some (.int k a)) (hy : kev kn y = some (.int k' b))
    (hr : ∀ w, (binOp op t (.int k a) (.int k' b)).run P w = .ok v w) : Does P S kn o v :=
  does_of fun ρ hρ w => by
    have hg : eqGuard op t x y (.int k a) (.int k' b) = pure () := eqGuard_at_int ..
    simp [execOp, ho, hρ x _ hx, hρ y _ hy, hg, hr w]
theorem does_add {t yt : TypeId} {x y : Operand} {k : IntKind} {a b : Int} (ho : o.op = .binOp .add t x y yt) (hx : kev kn x = some (.int k a)) (hy : kev kn y = some (.int k b)) : Does P S kn o (.int k (k.wrap (a + b))) :=
  does_bin ho hx hy fun w => by simp [binOp, Op.intArith]
theorem does_sub {t yt : TypeId} {x y : Operand} {k : IntKind} {a b : Int} (ho : o.op = .binOp .sub t x y yt) (hx : kev kn x = some (.int k a)) (hy : kev kn y = some (.int k b)) : Does P S kn o (.int k (k.wrap (a - b))) :=
  does_bin ho hx hy fun w => by simp [binOp, Op.intArith]
theorem does_mul {t yt : TypeId} {x y : Operand} {k : IntKind} {a b : Int} (ho : o.op = .binOp .mul t x y yt) (hx : kev kn x = some (.int k a)) (hy : kev kn y = some (.int k b)) : Does P S kn o (.int k (k.wrap (a * b))) :=
  does_bin ho hx hy fun w => by simp [binOp, Op.intArith]
theorem does_quo {t yt : TypeId} {x y : Operand} {k : IntKind} {a b : Int} (ho : o.op = .binOp .quo t x y yt) (hx : kev kn x = some (.int k a)) (hy : kev kn y = some (.int k b)) (hb : b ≠ 0) : Does P S kn o (.int k (k.wrap (a.tdiv b))) :=
  does_bin ho hx hy fun w => by simp [binOp, Op.intDiv, hb]
theorem does_rem {t yt : TypeId} {x y : Operand} {k : IntKind} {a b : Int} (ho : o.op = .binOp .rem t x y yt) (hx : kev kn x = some (.int k a)) (hy : kev kn y = some (.int k b)) (hb : b ≠ 0) : Does P S kn o (.int k (a.tmod b)) :=
  does_bin ho hx hy fun w => by simp [binOp, Op.intDiv, hb]
theorem does_lss {t yt : TypeId} {x y : Operand} {k : IntKind} {a b : Int} (ho : o.op = .binOp .lss t x y yt) (hx : kev kn x = some (.int k a)) (hy : kev kn y = some (.int k b)) : Does P S kn o (.bool (decide (a < b))) :=
  does_bin ho hx hy fun w => by simp [binOp, Op.intCmp]
theorem does_leq {t yt : TypeId} {x y : Operand} {k : IntKind} {a b : Int} (ho : o.op = .binOp .leq t x y yt) (hx : kev kn x = some (.int k a)) (hy : kev kn y = some (.int k b)) : Does P S kn o (.bool (decide (a ≤ b))) :=
  does_bin ho hx hy fun w => by simp [binOp, Op.intCmp]
theorem does_gtr {t yt : TypeId} {x y : Operand} {k : IntKind} {a b : Int} (ho : o.op = .binOp .gtr t x y yt) (hx : kev kn x = some (.int k a)) (hy : kev kn y = some (.int k b)) : Does P S kn o (.bool (decide (b < a))) :=
  does_bin ho hx hy fun w => by simp [binOp, Op.intCmp]
theorem does_geq {t yt : TypeId} {x y : Operand} {k : IntKind} {a b : Int} (ho : o.op = .binOp .geq t x y yt) (hx : kev kn x = some (.int k a)) (hy : kev kn y = some (.int k b)) : Does P S kn o (.bool (decide (b ≤ a))) :=
  does_bin ho hx hy fun w => by simp [binOp, Op.intCmp]
theorem does_eql {t yt : TypeId} {x y : Operand} {k : IntKind} {a b : Int} (ho : o.op = .binOp .eql t x y yt) (hx : kev kn x = some (.int k a)) (hy : kev kn y = some (.int k b)) : Does P S kn o (.bool (decide (a = b))) :=
  does_bin ho hx hy fun w => by simp [binOp, Op.intCmp, int_beq]
theorem does_neq {t yt : TypeId} {x y : Operand} {k : IntKind} {a b : Int} (ho : o.op = .binOp .neq t x y yt) (hx : kev kn x = some (.int k a)) (hy : kev kn y = some (.int k b)) : Does P S kn o (.bool (decide (a ≠ b))) :=
  does_bin ho hx hy fun w => by simp [binOp, Op.intCmp, bne, int_beq]
theorem does_shl {t yt : TypeId} {x y : Operand} {k k' : IntKind} {a b : Int} (ho : o.op = .binOp .shl t x y yt) (hx : kev kn x = some (.int k a)) (hy : kev kn y = some (.int k' b)) (hb : 0 ≤ b) :
    Does P S kn o (.int k (k.wrap (a * 2 ^ (min b.toNat k.bits)))) :=
  does_bin ho hx hy fun w => by simp [binOp, Op.shift, show ¬ b < 0 by omega]
theorem does_shr {t yt : TypeId} {x y : Operand} {k k' : IntKind} {a b : Int} (ho : o.op = .binOp .shr t x y yt) (hx : kev kn x = some (.int k a)) (hy : kev kn y = some (.int k' b)) (hb : 0 ≤ b) :
    Does P S kn o (.int k (a.fdiv (2 ^ (min b.toNat k.bits)))) :=
  does_bin ho hx hy fun w => by simp [binOp, Op.shift, show ¬ b < 0 by omega]
theorem does_and {t yt : TypeId} {x y : Operand} {k : IntKind} {a b : Int} (ho : o.op = .binOp .and t x y yt) (hx : kev kn x = some (.int k a)) (hy : kev kn y = some (.int k b)) : Does P S kn o (.int k (bits .and k a b)) :=
  does_bin ho hx hy fun w => by simp [binOp, intBits_and]
theorem does_or {t yt : TypeId} {x y : Operand} {k : IntKind} {a b : Int} (ho : o.op = .binOp .or t x y yt) (hx : kev kn x = some (.int k a)) (hy : kev kn y = some (.int k b)) : Does P S kn o (.int k (bits .or k a b)) :=
  does_bin ho hx hy fun w => by simp [binOp, intBits_or]
theorem does_neg {t : TypeId} {x : Operand} {k : IntKind} {a : Int} (ho : o.op = .unOp .neg t x) (hx : kev kn x = some (.int k a)) : Does P S kn o (.int k (k.wrap (-a))) :=
  does_of fun ρ hρ w => by simp [execOp, ho, hρ x _ hx, Op.unary, Op.intArith]
theorem does_not {t : TypeId} {x : Operand} {b : Bool} (ho : o.op = .unOp .not t x) (hx : kev kn x = some (.bool b)) : Does P S kn o (.bool (!b)) :=
  does_of fun ρ hρ w => by simp [execOp, ho, hρ x _ hx, Op.unary]
theorem does_conv {s d : TypeId} {x : Operand} {k k' : IntKind} {a : Int} (ho : o.op = .convert s d x) (hs : (P.underlying s).isSome = true) (hd : P.underlying d = some (.int k')) (hx : kev kn x = some (.int k a)) : Does P S kn o (.int k' (k'.wrap a)) :=
  does_of fun ρ hρ w => by
    obtain ⟨u, hu⟩ := Option.isSome_iff_exists.1 hs
    have h1 : (convert s d (.int k a)).run P w = .ok (.int k' (k'.wrap a)) w := by
      unfold convert
      simp [run_underlying hu, run_underlying hd, Conv.intToInt]
    simp [execOp, ho, hρ x _ hx, h1]
/-- a result by an equation -/
theorem Does.cast {v v' : Value} (h : Does P S kn o v) (e : v = v') : Does P S kn o v' := e ▸ h
theorem Does.int {k : IntKind} {a b : Int} (h : Does P S kn o (.int k a)) (e : a = b) : Does P S kn o (.int k b) := e ▸ h
theorem Does.nat {k : IntKind} {a : Int} {b : Nat} (h : Does P S kn o (.int k a)) (e : a = (b : Int)) : Does P S kn o (.int k (b : Int)) := e ▸ h
theorem Does.bool {p q : Prop} [Decidable p] [Decidable q] (h : Does P S kn o (.bool (decide p))) (e : p ↔ q) : Does P S kn o (.bool (decide q)) := by
  have : decide p = decide q := by simp [e]
  rw [← this]
  exact h
theorem Does.btrue {p : Prop} [Decidable p] (h : Does P S kn o (.bool (decide p))) (hp : p) : Does P S kn o (.bool true) := by
  have : decide p = true := by simp [hp]
  rw [← this]
  exact h
theorem Does.bfalse {p : Prop} [Decidable p] (h : Does P S kn o (.bool (decide p))) (hp : ¬ p) : Does P S kn o (.bool false) := by
  have : decide p = false := by simp [hp]
  rw [← this]
  exact h
end
end Go.Proofs.Vc

namespace Go.Proofs.Vc
open Go Go.RowKit
set_option linter.unusedVariables false
set_option linter.unusedSimpArgs false
set_option linter.unusedSectionVars false

/-- is it a struct or an array? -/
def aggOf (P : Program) (t : TypeId) : Option Bool := (P.underlying t).map fun d => match d with
  | .struct _ | .array _ _ => true
  | _ => false
def sizeB (P : Program) (t : TypeId) : Option Nat := (P.info? t).map (·.size)
/-- offset, size, is it a struct or an array -/
def fieldOf (P : Program) (t : TypeId) (i : Nat) : Option (Nat × Nat × Bool) := match P.underlying t with
  | some (.struct fs) => match fs[i]? with
    | some f => match P.info? f.type, aggOf P f.type with
      | some x, some b => some (f.offset, x.size, b)
      | _, _ => none
    | none => none
  | _ => none
def takeN : List Value → Nat → Option (List Value)
  | _, 0 => some []
  | [], _ + 1 => none
  | x :: r, n + 1 => match takeN r n with
    | some l => some (x :: l)
    | none => none
def dropN : List Value → Nat → List Value
  | l, 0 => l
  | [], _ + 1 => []
  | _ :: r, n + 1 => dropN r n
theorem dropN_eq : ∀ (n : Nat) (l : List Value), dropN l n = l.drop n
  | 0, l => by cases l <;> rfl
  | n + 1, [] => rfl
  | n + 1, x :: l => by simp [dropN, dropN_eq n l]
theorem takeN_eq : ∀ (n : Nat) (l r : List Value), takeN l n = some r → l.take n = r ∧ n ≤ l.length
  | 0, l, r, h => by cases l <;> simp [takeN] at h <;> subst h <;> simp
  | n + 1, [], r, h => by simp [takeN] at h
  | n + 1, x :: l, r, h => by
    simp only [takeN] at h
    split at h
    · rename_i l' hl'
      have := takeN_eq n l l' hl'
      simp at h
      subst h
      simp [this.1, this.2]
    · cases h

def getL : List Value → Nat → Option Value
  | [], _ => none
  | v :: _, 0 => some v
  | _ :: r, n + 1 => getL r n
theorem getL_eq : ∀ (l : List Value) (i : Nat), getL l i = l[i]?
  | [], _ => by simp [getL]
  | v :: _, 0 => by simp [getL]
  | _ :: r, n + 1 => by simp [getL, getL_eq r n]
section
variable {P : Program} {kn : Kn} {S : World → Prop} {o : Oper} {w : World}

theorem run_isAggB {t : TypeId} {b : Bool} (h : aggOf P t = some b) (w : World) : (isAgg t).run P w = .ok b w := by
  cases hu : P.underlying t with
  | none => simp [aggOf, hu] at h
  | some d =>
    simp only [aggOf, hu, Option.map_some, Option.some.injEq] at h
    subst h
    unfold isAgg
    cases d <;> simp [run_underlying hu]
theorem run_sizeB {t : TypeId} {n : Nat} (h : sizeB P t = some n) (w : World) : (sizeOf t).run P w = .ok n w := by
  unfold sizeB at h
  cases hi : P.info? t with
  | none => rw [hi] at h; cases h
  | some i => rw [hi] at h; simp at h; simp [sizeOf, typeInfo, hi, h]
theorem run_part1 {t : TypeId} {cs : Array Value} {off : Nat} {v : Value} (ha : aggOf P t = some false) (hv : cs[off]? = some v) (w : World) : (part t cs off).run P w = .ok v w := by
  simp [part, run_isAggB ha, hv]
theorem run_partN {t : TypeId} {cs : Array Value} {off n : Nat} (ha : aggOf P t = some true) (hs : sizeB P t = some n) (w : World) : (part t cs off).run P w = .ok (.agg (cs.extract off (off + n))) w := by
  simp [part, run_isAggB ha, run_sizeB hs]
theorem fieldOf_spec {t : TypeId} {i off sz : Nat} {b : Bool} (h : fieldOf P t i = some (off, sz, b)) :
    ∃ fs f, P.underlying t = some (.struct fs) ∧ fs[i]? = some f ∧ f.offset = off ∧ sizeB P f.type = some sz ∧ aggOf P f.type = some b := by
  unfold fieldOf at h
  split at h
  · rename_i fs hu
    split at h
    · rename_i f hfi
      split at h
      · rename_i x b' hi hb
        simp at h
        exact ⟨fs, f, hu, hfi, h.1, by simp [sizeB, hi, h.2.1], by rw [hb, h.2.2]⟩
      · cases h
    · cases h
  · cases h
theorem does_field1 {t : TypeId} {x : Operand} {i off sz : Nat} {l : List Value} {v : Value} (ho : o.op = .field t x i) (hf : fieldOf P t i = some (off, sz, false)) (hx : kev kn x = some (.agg l.toArray)) (hv : getL l off = some v) : Does P S kn o v :=
  does_of fun ρ hρ w => by
    replace hv : l.toArray[off]? = some v := by rw [getL_eq] at hv; simpa using hv
    obtain ⟨fs, f, hu, hfi, rfl, hs, ha⟩ := fieldOf_spec hf
    simp [execOp, ho, hρ x _ hx, Instr.field, run_underlying hu, hfi, asAgg, run_part1 ha hv]
theorem does_fieldN {t : TypeId} {x : Operand} {i off sz : Nat} {l r : List Value} (ho : o.op = .field t x i) (hf : fieldOf P t i = some (off, sz, true)) (hx : kev kn x = some (.agg l.toArray)) (hv : takeN (dropN l off) sz = some r) : Does P S kn o (.agg r.toArray) :=
  does_of fun ρ hρ w => by
    obtain ⟨fs, f, hu, hfi, rfl, hs, ha⟩ := fieldOf_spec hf
    have he : l.toArray.extract f.offset (f.offset + sz) = r.toArray := by
      have := (takeN_eq _ _ _ hv).1
      rw [dropN_eq] at this
      simp [List.extract_toArray, ← this, List.extract]
    simp [execOp, ho, hρ x _ hx, Instr.field, run_underlying hu, hfi, asAgg, run_partN ha hs, he]
theorem does_extract {x : Operand} {i : Nat} {l : List Value} {v : Value} (ho : o.op = .extract x i) (hx : kev kn x = some (.tuple l.toArray)) (hv : getL l i = some v) : Does P S kn o v :=
  does_of fun ρ hρ w => by
    replace hv : l.toArray[i]? = some v := by rw [getL_eq] at hv; simpa using hv
    simp [execOp, ho, hρ x _ hx, Instr.extract, hv]
theorem does_nilCheck {x : Operand} {a : Addr} (ho : o.op = .nilCheck x) (hx : kev kn x = some (.pointer (some a))) : Does P S kn o (.pointer (some a)) :=
  does_of fun ρ hρ w => by simp [execOp, ho, hρ x _ hx]
theorem addr_add (b off k : Nat) : (⟨b, off, none⟩ : Addr).add k = ⟨b, off + k, none⟩ := by unfold Addr.add; split <;> simp_all
theorem does_fieldAddr {t : TypeId} {x : Operand} {i off sz : Nat} {ag : Bool} {b p : Nat} (ho : o.op = .fieldAddr t x i) (hf : fieldOf P t i = some (off, sz + 1, ag)) (hx : kev kn x = some (.pointer (some ⟨b, p, none⟩))) : Does P S kn o (.pointer (some ⟨b, p + off, none⟩)) :=
  does_of fun ρ hρ w => by
    obtain ⟨fs, f, hu, hfi, rfl, hs, ha⟩ := fieldOf_spec hf
    simp [execOp, ho, hρ x _ hx, Instr.fieldAt, run_underlying hu, hfi, Instr.sureAddr, fieldPlace, run_sizeB hs, addr_add]
theorem does_len_slice {t : TypeId} {x : Operand} {e : TypeId} {A : Option Addr} {n c : Nat} (ho : o.op = .call { callee := .builtin .len, args := #[x], argTypes := #[t] }) (hu : P.underlying t = some (.slice e)) (hx : kev kn x = some (.slice A n c)) : Does P S kn o (.int .i64 (n : Int)) :=
  does_of fun ρ hρ w => by simp [execOp, ho, resolve, invoke, builtin, hρ x _ hx, Builtin.len_, run_underlying hu, goInt]
theorem does_len_string {t : TypeId} {x : Operand} {s : ByteArray} (ho : o.op = .call { callee := .builtin .len, args := #[x], argTypes := #[t] }) (hu : P.underlying t = some .string) (hx : kev kn x = some (.string s)) : Does P S kn o (.int .i64 (s.size : Int)) :=
  does_of fun ρ hρ w => by simp [execOp, ho, resolve, invoke, builtin, hρ x _ hx, Builtin.len_, run_underlying hu, goInt]
theorem does_cap_slice {t : TypeId} {x : Operand} {e : TypeId} {A : Option Addr} {n c : Nat} (ho : o.op = .call { callee := .builtin .cap, args := #[x], argTypes := #[t] }) (hu : P.underlying t = some (.slice e)) (hx : kev kn x = some (.slice A n c)) : Does P S kn o (.int .i64 (c : Int)) :=
  does_of fun ρ hρ w => by simp [execOp, ho, resolve, invoke, builtin, hρ x _ hx, Builtin.cap_, run_underlying hu, goInt]
theorem does_min {t t' : TypeId} {x y : Operand} {k : IntKind} {a b : Int} (ho : o.op = .call { callee := .builtin .min, args := #[x, y], argTypes := #[t, t'] }) (hx : kev kn x = some (.int k a)) (hy : kev kn y = some (.int k b)) : Does P S kn o (.int k (if b < a then b else a)) :=
  does_of fun ρ hρ w => by simp [execOp, ho, resolve, invoke, builtin, hρ x _ hx, hρ y _ hy, Builtin.min_, Builtin.min2]
theorem does_max {t t' : TypeId} {x y : Operand} {k : IntKind} {a b : Int} (ho : o.op = .call { callee := .builtin .max, args := #[x, y], argTypes := #[t, t'] }) (hx : kev kn x = some (.int k a)) (hy : kev kn y = some (.int k b)) : Does P S kn o (.int k (if b > a then b else a)) :=
  does_of fun ρ hρ w => by simp [execOp, ho, resolve, invoke, builtin, hρ x _ hx, hρ y _ hy, Builtin.max_, Builtin.max2]

/-! elements -/
theorem does_indexAddr {t e : TypeId} {x y : Operand} {b off n c sz j : Nat} {k : IntKind} {i : Int} (ho : o.op = .indexAddr t x y) (hu : P.underlying t = some (.slice e)) (hs : sizeB P e = some sz)
    (hx : kev kn x = some (.slice (some ⟨b, off, none⟩) n c)) (hy : kev kn y = some (.int k i)) (hj : i = (j : Int)) (hlt : j < n) : Does P S kn o (.pointer (some ⟨b, off + j * sz, none⟩)) :=
  does_of fun ρ hρ w => by
    subst hj
    simp [execOp, ho, hρ x _ hx, hρ y _ hy, Instr.indexAt, asIntOf, run_underlying hu, hlt, run_sizeB hs, addr_add]
theorem does_indexAddr1 {t e : TypeId} {x y : Operand} {b off n c j : Nat} {k : IntKind} {i : Int} (ho : o.op = .indexAddr t x y) (hu : P.underlying t = some (.slice e)) (hs : sizeB P e = some 1)
    (hx : kev kn x = some (.slice (some ⟨b, off, none⟩) n c)) (hy : kev kn y = some (.int k i)) (hj : i = (j : Int)) (hlt : j < n) : Does P S kn o (.pointer (some ⟨b, off + j, none⟩)) := by
  have := does_indexAddr (S := S) ho hu hs hx hy hj hlt
  rwa [Nat.mul_one] at this
theorem does_indexAddr_arr {t e : TypeId} {x y : Operand} {b off n sz j : Nat} {k : IntKind} {i : Int} (ho : o.op = .indexAddr t x y) (hu : P.underlying t = some (.array n e)) (hs : sizeB P e = some sz)
    (hx : kev kn x = some (.pointer (some ⟨b, off, none⟩))) (hy : kev kn y = some (.int k i)) (hj : i = (j : Int)) (hlt : j < n) : Does P S kn o (.pointer (some ⟨b, off + j * sz, none⟩)) :=
  does_of fun ρ hρ w => by
    subst hj
    simp [execOp, ho, hρ x _ hx, hρ y _ hy, Instr.indexAt, asIntOf, run_underlying hu, hlt, run_sizeB hs, addr_add, Instr.sureAddr]
theorem does_index_string {t : TypeId} {x y : Operand} {s : ByteArray} {k : IntKind} {i : Int} {j : Nat} (ho : o.op = .index t x y) (hu : P.underlying t = some .string) (hx : kev kn x = some (.string s)) (hy : kev kn y = some (.int k i)) (hj : i = (j : Int)) (hlt : j < s.size) :
    Does P S kn o (.int .u8 (((s[j]'hlt).toNat : Nat) : Int)) :=
  does_of fun ρ hρ w => by
    subst hj
    have : s[j]? = some (s[j]'hlt) := by simp [hlt]
    simp [execOp, ho, hρ x _ hx, hρ y _ hy, Instr.index, asIntOf, run_underlying hu, this]

/-! slicing -/
theorem run_bound {y : Nat} {code : BoundsCode} {k : IntKind} {i : Int} {j : Nat} (hj : i = (j : Int)) (hle : j ≤ y) (w : World) : (Instr.sliceBound (.int k i) y code).run P w = .ok j w := by
  subst hj
  simp [Instr.sliceBound, asIntOf, hle]
theorem does_slice_string {t : TypeId} {x : Operand} {lo hi : Option Operand} {s : ByteArray} {l h : Nat} (ho : o.op = .slice t x lo hi none) (hu : P.underlying t = some .string) (hx : kev kn x = some (.string s))
    (hl : match lo with | some y => ∃ k i, kev kn y = some (.int k i) ∧ i = (l : Int) | none => l = 0) (hh : match hi with | some y => ∃ k i, kev kn y = some (.int k i) ∧ i = (h : Int) | none => h = s.size) (h1 : l ≤ h) (h2 : h ≤ s.size) :
    Does P S kn o (.string (s.extract l h)) :=
  does_of fun ρ hρ w => by
    have hb : (Instr.sliceBounds false s.size s.size (lo.map ρ) (hi.map ρ) none).run P w = .ok (l, h, s.size) w := by
      unfold Instr.sliceBounds
      cases lo with
      | none =>
        cases hi with
        | none => simp at hl hh; subst hl; subst hh; simp
        | some y => obtain ⟨k, i, e, hi'⟩ := hh; simp at hl; subst hl; simp [hρ y _ e, run_bound hi' h2]
      | some z =>
        obtain ⟨kz, iz, ez, hiz⟩ := hl
        cases hi with
        | none => simp at hh; subst hh; simp [hρ z _ ez, run_bound hiz h1]
        | some y => obtain ⟨k, i, e, hi'⟩ := hh; simp [hρ z _ ez, hρ y _ e, run_bound hi' h2, run_bound hiz h1]
    simp [execOp, ho, hρ x _ hx, Instr.sliceAt, Instr.slice, run_underlying hu, hb]
theorem does_slice {t e : TypeId} {x : Operand} {lo hi : Option Operand} {A : Option Addr} {n c sz l h : Nat} (ho : o.op = .slice t x lo hi none) (hu : P.underlying t = some (.slice e)) (hs : sizeB P e = some sz) (hx : kev kn x = some (.slice A n c))
    (hl : match lo with | some y => ∃ k i, kev kn y = some (.int k i) ∧ i = (l : Int) | none => l = 0) (hh : match hi with | some y => ∃ k i, kev kn y = some (.int k i) ∧ i = (h : Int) | none => h = n) (h1 : l ≤ h) (h2 : h ≤ c) :
    Does P S kn o (.slice (if c = l then A else A.map (·.add (l * sz))) (h - l) (c - l)) :=
  does_of fun ρ hρ w => by
    have hb : (Instr.sliceBounds true n c (lo.map ρ) (hi.map ρ) none).run P w = .ok (l, h, c) w := by
      unfold Instr.sliceBounds
      cases lo with
      | none =>
        cases hi with
        | none => simp at hl hh; subst hl; subst hh; simp
        | some y => obtain ⟨k, i, e, hi'⟩ := hh; simp at hl; subst hl; simp [hρ y _ e, run_bound hi' h2]
      | some z =>
        obtain ⟨kz, iz, ez, hiz⟩ := hl
        cases hi with
        | none => simp at hh; subst hh; simp [hρ z _ ez, run_bound hiz h1]
        | some y => obtain ⟨k, i, e, hi'⟩ := hh; simp [hρ z _ ez, hρ y _ e, run_bound hi' h2, run_bound hiz h1]
    simp [execOp, ho, hρ x _ hx, Instr.sliceAt, Instr.slice, run_underlying hu, hb, run_sizeB hs]
/-- s[:h] -/
theorem does_slice_to {t e : TypeId} {x y : Operand} {A : Option Addr} {n c h sz : Nat} {k : IntKind} {i : Int} (ho : o.op = .slice t x none (some y) none) (hu : P.underlying t = some (.slice e)) (hs : sizeB P e = some sz) (hx : kev kn x = some (.slice A n c))
    (hy : kev kn y = some (.int k i)) (hj : i = (h : Int)) (h2 : h ≤ c) : Does P S kn o (.slice A h c) := by
  have := does_slice (S := S) (l := 0) (h := h) ho hu hs hx rfl ⟨k, i, hy, hj⟩ (Nat.zero_le _) h2
  refine this.cast ?_
  have e1 : A.map (·.add (0 * sz)) = A := by
    rw [Nat.zero_mul]
    cases A with
    | none => rfl
    | some a => simp [Addr.add]
  rw [e1]
  simp

/-! strings, truth values, pointers compared -/
theorem does_bin' {op : BinOp} {t yt : TypeId} {x y : Operand} {a b v : Value} (ho : o.op = .binOp op t x y yt) (hx : kev kn x = some a) (hy : kev kn y = some b) (hg : ∀ w, (eqGuard op t x y a b).run P w = .ok () w)
    (hr : ∀ w, (binOp op t a b).run P w = .ok v w) : Does P S kn o v :=
  does_of fun ρ hρ w => by simp [execOp, ho, hρ x _ hx, hρ y _ hy, hg, hr w]
theorem bytes_beq (a b : ByteArray) : (a.toList == b.toList) = decide (a = b) := by
  by_cases h : a = b
  · subst h; simp
  · have : a.toList ≠ b.toList := fun e => h (by
      apply ByteArray.ext
      apply Array.ext'
      rw [← ByteArray.toList_eq, ← ByteArray.toList_eq, e])
    simp [h, this]
theorem does_eql_string {t yt : TypeId} {x y : Operand} {a b : ByteArray} (ho : o.op = .binOp .eql t x y yt) (hx : kev kn x = some (.string a)) (hy : kev kn y = some (.string b)) : Does P S kn o (.bool (decide (a = b))) :=
  does_bin' ho hx hy (fun w => by rw [eqGuard_at_string]; rfl) fun w => by simp [binOp, Op.stringOp, bytes_beq]
theorem does_neq_string {t yt : TypeId} {x y : Operand} {a b : ByteArray} (ho : o.op = .binOp .neq t x y yt) (hx : kev kn x = some (.string a)) (hy : kev kn y = some (.string b)) : Does P S kn o (.bool (decide (a ≠ b))) :=
  does_bin' ho hx hy (fun w => by rw [eqGuard_at_string]; rfl) fun w => by simp [binOp, Op.stringOp, bytes_beq]
theorem does_add_string {t yt : TypeId} {x y : Operand} {a b : ByteArray} (ho : o.op = .binOp .add t x y yt) (hx : kev kn x = some (.string a)) (hy : kev kn y = some (.string b)) (hl : a.size + b.size ≤ 9223372036854775807) : Does P S kn o (.string (a ++ b)) :=
  does_bin' ho hx hy (fun w => by rw [eqGuard_at_string]; rfl) fun w => by
    have : ¬ ((a.size : Int) + (b.size : Int) > IntKind.i64.max) := by
      have : IntKind.i64.max = 9223372036854775807 := by decide
      omega
    simp [binOp, Op.stringOp]
    omega
theorem does_eql_bool {t yt : TypeId} {x y : Operand} {a b : Bool} (ho : o.op = .binOp .eql t x y yt) (hu : P.underlying t = some .bool) (hx : kev kn x = some (.bool a)) (hy : kev kn y = some (.bool b)) : Does P S kn o (.bool (a == b)) :=
  does_bin' ho hx hy (fun w => by rw [eqGuard_at_bool]; rfl) fun w => run_eql_bool w t a b hu
theorem does_neq_bool {t yt : TypeId} {x y : Operand} {a b : Bool} (ho : o.op = .binOp .neq t x y yt) (hu : P.underlying t = some .bool) (hx : kev kn x = some (.bool a)) (hy : kev kn y = some (.bool b)) : Does P S kn o (.bool (!(a == b))) :=
  does_bin' ho hx hy (fun w => by rw [eqGuard_at_bool]; rfl) fun w => run_neq_bool w t a b hu
theorem pointee_of {t e : TypeId} (hu : P.underlying t = some (.pointer e)) : P.underlying t = some (.pointer (P.pointee t)) := by simp [Program.pointee, hu]
theorem does_eql_nil {t yt e : TypeId} {x y : Operand} {a : Option Addr} (ho : o.op = .binOp .eql t x y yt) (hu : P.underlying t = some (.pointer e)) (hx : kev kn x = some (.pointer a)) (hy : kev kn y = some (.pointer none)) : Does P S kn o (.bool a.isNone) :=
  does_bin' ho hx hy (fun w => by rw [eqGuard_at_pointer]; rfl) fun w => run_eql_pointer_nil w t a (pointee_of hu)
theorem does_neq_nil {t yt e : TypeId} {x y : Operand} {a : Option Addr} (ho : o.op = .binOp .neq t x y yt) (hu : P.underlying t = some (.pointer e)) (hx : kev kn x = some (.pointer a)) (hy : kev kn y = some (.pointer none)) : Does P S kn o (.bool (!a.isNone)) :=
  does_bin' ho hx hy (fun w => by rw [eqGuard_at_pointer]; rfl) fun w => run_neq_pointer_nil w t a (pointee_of hu)
end
end Go.Proofs.Vc

namespace Go.Proofs.Vc
open Go Go.RowKit
set_option linter.unusedVariables false
set_option linter.unusedSimpArgs false
set_option linter.unusedSectionVars false

/-- blocks that nobody writes any more, with what they hold -/
abbrev Mem := Nat → Option Obj
def Agree (g : Mem) (w : World) : Prop := ∀ b o, g b = some o → w.heap[b]? = some o
def Mem.le (g g' : Mem) : Prop := ∀ b o, g b = some o → g' b = some o
theorem Mem.le.refl (g : Mem) : g.le g := fun _ _ h => h
theorem Mem.le.trans {a b c : Mem} (h : a.le b) (k : b.le c) : a.le c := fun i o hi => k i o (h i o hi)
def gput (g : Mem) (b : Nat) (o : Obj) : Mem := fun k => if k = b then some o else g k
theorem gput_same (g : Mem) (b : Nat) (o : Obj) : gput g b o b = some o := by simp [gput]
theorem gput_other {g : Mem} {b k : Nat} {o : Obj} (h : k ≠ b) : gput g b o k = g k := by simp [gput, h]
theorem gput_le {g : Mem} {b : Nat} {o : Obj} (h : g b = none) : g.le (gput g b o) := fun i u hi => by
  by_cases hb : i = b
  · subst hb; rw [h] at hi; cases hi
  · rw [gput_other hb]; exact hi
/-- what cell i of block b holds -/
def gcell (g : Mem) (b i : Nat) : Option Value := match g b with
  | some (.cells c _ _) => c[i]?
  | _ => none
theorem gcell_le {g g' : Mem} (h : g.le g') {b i : Nat} {v : Value} (hc : gcell g b i = some v) : gcell g' b i = some v := by
  unfold gcell at hc ⊢
  cases hb : g b with
  | none => rw [hb] at hc; cases hc
  | some o => rw [h b o hb]; rw [hb] at hc; exact hc
theorem gcell_put (g : Mem) (b i : Nat) (c : Array Value) (t : TypeId) (f : Nat × Nat) : gcell (gput g b (.cells c t f)) b i = c[i]? := by simp [gcell, gput]
theorem Agree.cell {g : Mem} {w : World} (h : Agree g w) {b i : Nat} {v : Value} (hc : gcell g b i = some v) : w.cell? ⟨b, i, none⟩ = some v := by
  unfold gcell at hc
  cases hb : g b with
  | none => rw [hb] at hc; cases hc
  | some o =>
    rw [hb] at hc
    have := h b o hb
    unfold World.cell?
    rw [this]
    cases o <;> simp_all

/-- the state of a call that began in world w0 with g0 kept for good: now g is kept for good, and the blocks 'own' are the call's own. 'M': blocks that were there before and that it may write. -/
structure St (w0 : World) (M : List Nat) (g0 g : Mem) (own : List (Nat × Obj)) (w : World) : Prop where
  os : w.os = w0.os
  tape : w.tape = w0.tape
  output : w.output = w0.output
  size : w0.heap.size ≤ w.heap.size
  block : ∀ k, k < w0.heap.size → k ∉ M → w.heap[k]? = w0.heap[k]?
  agree : Agree g w
  le : g0.le g
  ext : ∀ b, b < w0.heap.size → g b = g0 b
  owns : ∀ p ∈ own, w.heap[p.1]? = some p.2 ∧ g p.1 = none ∧ (w0.heap.size ≤ p.1 ∨ p.1 ∈ M)
  nodup : (own.map Prod.fst).Nodup

section
variable {w0 w w' : World} {M : List Nat} {g0 g g' : Mem} {own : List (Nat × Obj)}
theorem St.init (h : Agree g w) : St w [] g g [] w :=
  ⟨rfl, rfl, rfl, Nat.le_refl _, fun _ _ _ => rfl, h, Mem.le.refl g, fun _ _ => rfl, fun _ h => (by cases h), by simp⟩
theorem St.initM (h : Agree g w) {b : Nat} {o : Obj} (hb : w.heap[b]? = some o) (hg : g b = none) : St w [b] g g [(b, o)] w :=
  ⟨rfl, rfl, rfl, Nat.le_refl _, fun _ _ _ => rfl, h, Mem.le.refl g, fun _ _ => rfl, fun p hp => by
    have : p = (b, o) := by simpa using hp
    subst this
    exact ⟨hb, hg, .inr (by simp)⟩, by simp⟩
theorem St.below (h : St w0 [] g0 g own w) : Below w0.heap.size w0 w := ⟨h.os, h.tape, h.output, h.size, fun k hk => h.block k hk (by simp)⟩
theorem St.drew (h : St w0 M g0 g own w) : St w0 M g0 g own w.drew := ⟨h.os, h.tape, h.output, h.size, h.block, h.agree, h.le, h.ext, h.owns, h.nodup⟩
theorem St.own_lt (h : St w0 M g0 g own w) {p : Nat × Obj} (hp : p ∈ own) : p.1 < w.heap.size := (Array.getElem?_eq_some_iff.1 (h.owns p hp).1).1
theorem St.lt_of_g (h : St w0 M g0 g own w) {b : Nat} {o : Obj} (hb : g b = some o) : b < w.heap.size := (Array.getElem?_eq_some_iff.1 (h.agree b o hb)).1
theorem St.new_none (h : St w0 M g0 g own w) : g w.heap.size = none := by
  cases hb : g w.heap.size with
  | none => rfl
  | some o => exact absurd (h.lt_of_g hb) (Nat.lt_irrefl _)
theorem St.alloc (h : St w0 M g0 g own w) (o : Obj) : St w0 M g0 g (own ++ [(w.heap.size, o)]) (w.alloc o) := by
  refine ⟨h.os, h.tape, h.output, ?_, ?_, ?_, h.le, h.ext, ?_, ?_⟩
  · have := h.size; simp; omega
  · intro k hk hM
    rw [Below.heap_alloc _ _ _ (by have := h.size; omega)]
    exact h.block k hk hM
  · intro b u hb
    rw [Below.heap_alloc _ _ _ (h.lt_of_g hb)]
    exact h.agree b u hb
  · intro p hp
    rw [List.mem_append] at hp
    rcases hp with hp | hp
    · rw [Below.heap_alloc _ _ _ (h.own_lt hp)]
      exact h.owns p hp
    · have : p = (w.heap.size, o) := by simpa using hp
      subst this
      exact ⟨heap_alloc_new w o, h.new_none, .inl h.size⟩
  · rw [List.map_append, List.nodup_append]
    refine ⟨h.nodup, by simp, ?_⟩
    intro a ha b hb
    obtain ⟨p, hp, rfl⟩ := List.mem_map.1 ha
    have : b = w.heap.size := by simpa using hb
    subst this
    have := h.own_lt hp
    omega
/-- the k-th own block is let go: it is written no more -/
theorem St.publish (h : St w0 [] g0 g own w) (k : Nat) {b : Nat} {o : Obj} (hk : own[k]? = some (b, o)) : St w0 [] g0 (gput g b o) (own.eraseIdx k) w ∧ g.le (gput g b o) := by
  have hm : (b, o) ∈ own := List.mem_of_getElem? hk
  obtain ⟨h1, h2, h3⟩ := h.owns _ hm
  have h4 : w0.heap.size ≤ b := by simpa using h3
  have hle : g.le (gput g b o) := gput_le h2
  refine ⟨⟨h.os, h.tape, h.output, h.size, h.block, ?_, h.le.trans hle, ?_, ?_, ?_⟩, hle⟩
  · intro i u hi
    by_cases hb : i = b
    · subst hb; rw [gput_same] at hi; cases hi; exact h1
    · rw [gput_other hb] at hi; exact h.agree i u hi
  · intro i hi
    rw [gput_other (by omega)]
    exact h.ext i hi
  · intro p hp
    have hp' := List.mem_of_mem_eraseIdx hp
    obtain ⟨e1, e2, e3⟩ := h.owns p hp'
    refine ⟨e1, ?_, e3⟩
    rw [gput_other]
    · exact e2
    · intro he
      obtain ⟨j, hj⟩ := List.mem_eraseIdx_iff_getElem?.1 hp
      have hn := h.nodup
      have e4 : (own.map Prod.fst)[j]? = some p.1 := by simp [hj.2]
      have e5 : (own.map Prod.fst)[k]? = some b := by simp [hk]
      rw [he] at e4
      have e6 := (List.getElem?_inj (i := j) (j := k) (by
        rcases Nat.lt_or_ge j (own.map Prod.fst).length with hl | hl
        · exact hl
        · rw [List.getElem?_eq_none hl] at e4; cases e4) hn).1 (e4.trans e5.symm)
      exact hj.1 e6
  · exact ((List.eraseIdx_sublist own k).map Prod.fst).nodup h.nodup
theorem St.forget (h : St w0 M g0 g own w) : St w0 M g0 g [] w := ⟨h.os, h.tape, h.output, h.size, h.block, h.agree, h.le, h.ext, fun _ h => (by cases h), by simp⟩
theorem St.weaken (h : St w0 M g0 g own w) (own' : List (Nat × Obj)) (hs : List.Sublist own' own) : St w0 M g0 g own' w :=
  ⟨h.os, h.tape, h.output, h.size, h.block, h.agree, h.le, h.ext, fun p hp => h.owns p (hs.mem hp), (hs.map Prod.fst).nodup h.nodup⟩
theorem St.cell_own (h : St w0 M g0 g own w) (k : Nat) {b i : Nat} {c : Array Value} {t : TypeId} {f : Nat × Nat} {v : Value} (hk : own[k]? = some (b, .cells c t f)) (hi : c[i]? = some v) : w.cell? ⟨b, i, none⟩ = some v := by
  have := (h.owns _ (List.mem_of_getElem? hk)).1
  simp only at this
  simp [World.cell?, this, hi]
/-- the k-th own block is written -/
theorem St.update (h : St w0 M g0 g own w) (k : Nat) {b : Nat} {o : Obj} (o' : Obj) (hk : own[k]? = some (b, o)) (h1 : w'.os = w.os) (h2 : w'.tape = w.tape) (h3 : w'.output = w.output) (h4 : w.heap.size ≤ w'.heap.size)
    (hset : w'.heap[b]? = some o') (hoth : ∀ j, j < w.heap.size → j ≠ b → w'.heap[j]? = w.heap[j]?) : St w0 M g0 g (own.set k (b, o')) w' := by
  have hm := List.mem_of_getElem? hk
  obtain ⟨e1, e2, e3⟩ := h.owns _ hm
  simp only at e1 e2 e3
  have hlt : k < own.length := by
    rcases Nat.lt_or_ge k own.length with hl | hl
    · exact hl
    · rw [List.getElem?_eq_none hl] at hk; cases hk
  refine ⟨h1.trans h.os, h2.trans h.tape, h3.trans h.output, Nat.le_trans h.size h4, ?_, ?_, h.le, h.ext, ?_, ?_⟩
  · intro j hj hM
    rw [hoth j (Nat.lt_of_lt_of_le hj h.size) (by
      intro e
      subst e
      rcases e3 with e3 | e3
      · omega
      · exact hM e3)]
    exact h.block j hj hM
  · intro j u hj
    rw [hoth j (h.lt_of_g hj) (by intro e; subst e; rw [e2] at hj; cases hj)]
    exact h.agree j u hj
  · intro p hp
    rw [List.mem_iff_getElem?] at hp
    obtain ⟨j, hj⟩ := hp
    by_cases hjk : k = j
    · subst hjk
      rw [List.getElem?_set_self hlt] at hj
      cases hj
      exact ⟨hset, e2, e3⟩
    · rw [List.getElem?_set_ne hjk] at hj
      obtain ⟨f1, f2, f3⟩ := h.owns p (List.mem_of_getElem? hj)
      refine ⟨?_, f2, f3⟩
      rw [hoth _ (h.own_lt (List.mem_of_getElem? hj)) (by
        intro e
        have hn := h.nodup
        have e4 : (own.map Prod.fst)[j]? = some p.1 := by simp [hj]
        have e5 : (own.map Prod.fst)[k]? = some b := by simp [hk]
        rw [e] at e4
        have e6 := (List.getElem?_inj (i := j) (j := k) (by
          rcases Nat.lt_or_ge j (own.map Prod.fst).length with hl | hl
          · exact hl
          · rw [List.getElem?_eq_none hl] at e4; cases e4) hn).1 (e4.trans e5.symm)
        exact hjk e6.symm)]
      exact f1
  · have : (own.set k (b, o')).map Prod.fst = own.map Prod.fst := by
      rw [List.map_set]
      apply List.ext_getElem?
      intro j
      by_cases hjk : k = j
      · subst hjk
        rw [List.getElem?_set_self (by simpa using hlt)]
        simp [hk]
      · rw [List.getElem?_set_ne hjk]
    rw [this]
    exact h.nodup
/-- a store into the k-th own block -/
theorem St.store (h : St w0 M g0 g own w) (k : Nat) {b : Nat} (i : Nat) {c : Array Value} {t : TypeId} (v : Value) (hk : own[k]? = some (b, .cells c t (0, 0))) :
    St w0 M g0 g (own.set k (b, .cells (c.setIfInBounds i v) t (0, 0))) (w.setCell ⟨b, i, none⟩ v) :=
  h.update k _ hk rfl rfl rfl (by simp) (by
    have h1 := (h.owns _ (List.mem_of_getElem? hk)).1
    simp only at h1
    simp [World.setCell, Array.getElem?_modify, h1]) (fun j _ hj => Below.heap_setCell _ _ _ _ hj)
theorem St.setRow (h : St w0 M g0 g own w) (k : Nat) {b : Nat} {c : Array Value} {t : TypeId} (c' : Array Value) (hk : own[k]? = some (b, .cells c t (0, 0))) :
    St w0 M g0 g (own.set k (b, .cells c' t (0, 0))) (w.setRow b c') :=
  have h1 := (h.owns _ (List.mem_of_getElem? hk)).1
  h.update k _ hk rfl rfl rfl (by simp) (setRow_heap w b c c' t (0, 0) h1) (fun j _ hj => setRow_other w b j c' hj)
/-- behind a call that writes nothing that was there -/
theorem St.call (h : St w0 M g0 g own w) (k : St w [] g g' [] w') : St w0 M g0 g' own w' ∧ g.le g' := by
  refine ⟨⟨k.os.trans h.os, k.tape.trans h.tape, k.output.trans h.output, Nat.le_trans h.size k.size, ?_, k.agree, h.le.trans k.le, ?_, ?_, h.nodup⟩, k.le⟩
  · intro j hj hM
    rw [k.block j (Nat.lt_of_lt_of_le hj h.size) (by simp)]
    exact h.block j hj hM
  · intro b hb
    rw [k.ext b (Nat.lt_of_lt_of_le hb h.size)]
    exact h.ext b hb
  · intro p hp
    obtain ⟨e1, e2, e3⟩ := h.owns p hp
    have := h.own_lt hp
    exact ⟨by rw [k.block _ this (by simp)]; exact e1, by rw [k.ext _ this]; exact e2, e3⟩
/-- what a call comes to: a value, and memory that has grown -/
def Ret (w : World) (g : Mem) (Post : Value → Mem → Prop) (e : Ending) (w' : World) : Prop := ∃ v g', e = .returned v ∧ St w [] g g' [] w' ∧ Post v g'
end
end Go.Proofs.Vc

namespace Go.Proofs.Vc
open Go Go.RowKit
set_option linter.unusedVariables false
set_option linter.unusedSimpArgs false
set_option linter.unusedSectionVars false

def copyL : List Value → Option (List Value)
  | [] => some []
  | x :: r => match copyL r with
    | some l => some (x :: l)
    | none => none
theorem copyL_eq : ∀ (l r : List Value), copyL l = some r → l = r
  | [], r, h => by simpa [copyL] using h
  | x :: l, r, h => by
    simp only [copyL] at h
    split at h
    · rename_i l' hl'
      simp at h
      rw [← h, copyL_eq l l' hl']
    · cases h
def cellsOf : Value → Option (List Value)
  | .agg cs => copyL cs.toList
  | .tuple _ => none
  | v => some [v]
theorem cellsOf_eq {v : Value} {l : List Value} (h : cellsOf v = some l) : v.cells = l.toArray := by
  unfold cellsOf at h
  split at h
  · rename_i cs
    rw [← copyL_eq _ _ h]
    simp [Value.cells]
  · cases h
  · simp at h
    subst h
    rename_i h1 h2
    cases v <;> simp_all [Value.cells]

section
variable {P : Program} {kn : Kn} {o : Oper} {w0 w : World} {M : List Nat} {g0 g : Mem} {own : List (Nat × Obj)} {S : World → Prop}

/-! loads -/
theorem run_load1 {t : TypeId} {a : Addr} {v : Value} (ha : aggOf P t = some false) {w : World} (hc : w.cell? a = some v) : (loadVar t a).run P w = .ok v w := by
  simp [loadVar, run_isAggB ha, load, Sem.run, hc]
theorem run_loadN {t : TypeId} {b i n : Nat} {l : List Value} (ha : aggOf P t = some true) (hs : sizeB P t = some n) (hl : l.length = n) {w : World} (hc : ∀ j v, l[j]? = some v → w.cell? ⟨b, i + j, none⟩ = some v) :
    (loadVar t ⟨b, i, none⟩).run P w = .ok (.agg l.toArray) w := by
  have h1 : (loadCells ⟨b, i, none⟩ l.length).run P w = .ok l.toArray w :=
    run_loadCells_list (P := P) w ⟨b, i, none⟩ l (fun j v hv => by rw [addr_add]; exact hc j v hv)
  rw [hl] at h1
  simp [loadVar, run_isAggB ha, run_sizeB hs, h1]
theorem does_load1 {t : TypeId} {x : Operand} {a : Addr} {v : Value} (ho : o.op = .load t x) (ha : aggOf P t = some false) (hx : kev kn x = some (.pointer (some a))) (hc : ∀ w, S w → w.cell? a = some v) : Does P S kn o v :=
  fun ρ hρ w hw => by simp [execOp, ho, hρ x _ hx, Instr.loadAt, Instr.sureAddr, run_load1 ha (hc w hw)]
theorem does_loadN {t : TypeId} {x : Operand} {b i n : Nat} {l : List Value} (ho : o.op = .load t x) (ha : aggOf P t = some true) (hs : sizeB P t = some n) (hx : kev kn x = some (.pointer (some ⟨b, i, none⟩))) (hl : l.length = n)
    (hc : ∀ w, S w → ∀ j v, l[j]? = some v → w.cell? ⟨b, i + j, none⟩ = some v) : Does P S kn o (.agg l.toArray) :=
  fun ρ hρ w hw => by simp [execOp, ho, hρ x _ hx, Instr.loadAt, Instr.sureAddr, run_loadN ha hs hl (hc w hw)]
/-- out of the k-th own block -/
theorem does_load_own1 {t : TypeId} {x : Operand} {b i : Nat} {c : Array Value} {e : TypeId} {f : Nat × Nat} {v : Value} (k : Nat) (ho : o.op = .load t x) (ha : aggOf P t = some false) (hx : kev kn x = some (.pointer (some ⟨b, i, none⟩))) (hk : own[k]? = some (b, .cells c e f)) (hi : c[i]? = some v) :
    Does P (St w0 M g0 g own) kn o v :=
  does_load1 ho ha hx fun w hw => hw.cell_own k hk hi
theorem does_load_ownL {t : TypeId} {x : Operand} {b i : Nat} {l : List Value} {e : TypeId} {f : Nat × Nat} {v : Value} (k : Nat) (ho : o.op = .load t x) (ha : aggOf P t = some false) (hx : kev kn x = some (.pointer (some ⟨b, i, none⟩))) (hk : own[k]? = some (b, .cells l.toArray e f)) (hi : getL l i = some v) :
    Does P (St w0 M g0 g own) kn o v :=
  does_load_own1 k ho ha hx hk (by rw [getL_eq] at hi; simpa using hi)
theorem does_load_ownN {t : TypeId} {x : Operand} {b i n : Nat} {l r : List Value} {e : TypeId} {f : Nat × Nat} (k : Nat) (ho : o.op = .load t x) (ha : aggOf P t = some true) (hs : sizeB P t = some n) (hx : kev kn x = some (.pointer (some ⟨b, i, none⟩)))
    (hk : own[k]? = some (b, .cells l.toArray e f)) (hi : takeN (dropN l i) n = some r) : Does P (St w0 M g0 g own) kn o (.agg r.toArray) := by
  have h1 := takeN_eq _ _ _ hi
  rw [dropN_eq] at h1
  refine does_loadN ho ha hs hx (by rw [← h1.1]; simp; simp at h1; omega) fun w hw j v hv => hw.cell_own k hk ?_
  rw [← h1.1, List.getElem?_take] at hv
  split at hv
  · simpa using hv
  · cases hv
/-- out of what is kept for good -/
theorem does_load_g1 {t : TypeId} {x : Operand} {b i : Nat} {v : Value} (ho : o.op = .load t x) (ha : aggOf P t = some false) (hx : kev kn x = some (.pointer (some ⟨b, i, none⟩))) (hc : gcell g b i = some v) : Does P (St w0 M g0 g own) kn o v :=
  does_load1 ho ha hx fun w hw => hw.agree.cell hc
theorem does_load_gN {t : TypeId} {x : Operand} {b i n : Nat} {l : List Value} (ho : o.op = .load t x) (ha : aggOf P t = some true) (hs : sizeB P t = some n) (hx : kev kn x = some (.pointer (some ⟨b, i, none⟩))) (hl : l.length = n)
    (hc : ∀ j v, l[j]? = some v → gcell g b (i + j) = some v) : Does P (St w0 M g0 g own) kn o (.agg l.toArray) :=
  does_loadN ho ha hs hx hl fun w hw j v hv => hw.agree.cell (hc j v hv)
end

section
variable {P : Program} {ops : Array Oper} {Q : Exit → Act → World → Prop} {n : Nat} {kn : Kn} {o : Oper} {rest : List Oper} {w0 w : World} {M : List Nat} {g0 g : Mem} {own : List (Nat × Obj)} {d : Nat}

/-- an operation that yields a value and a new world -/
theorem stepK_run {v : Value} {w' : World} (hdst : o.dst = some d) (hg : o.guard = none) (hd : Nat.ble (d + 1) n = true)
    (hr : ∀ ρ : Operand → Value, (∀ x u, kev kn x = some u → ρ x = u) → (execOp ρ o).run P w = .ok (.value v) w') (h : wpK P ops Q n rest ((d, v) :: kn) w') : wpK P ops Q n (o :: rest) kn w := by
  intro a ha
  refine wpList_plain hg fun K hK => ?_
  unfold Oper.wp
  rw [hr a.eval (fun x u hu => ha.eval hu), Oper.upon_value, hdst]
  exact hK _ _ (h _ (ha.put (Nat.le_of_ble_eq_true hd) v))
theorem stepD_run {S : World → Prop} {i : Nat} {tail : List Oper} {r : List (Nat × Bool)} {v : Value} {w' : World} (hi : ops[i]? = some o) (hdst : o.dst = some d) (hg : o.guard = none) (hd : Nat.ble (d + 1) n = true)
    (hr : ∀ ρ : Operand → Value, (∀ x u, kev kn x = some u → ρ x = u) → (execOp ρ o).run P w = .ok (.value v) w') (hS : S w') (h : wpD P ops Q n S tail r ((d, v) :: kn) w') : wpD P ops Q n S tail ((i, false) :: r) kn w :=
  ⟨o, d, hi, hdst, Nat.le_of_ble_eq_true hd, fun a ha => ⟨by simp [Region.wanted, hg], by
    unfold Oper.wp
    rw [hr a.eval (fun x u hu => ha.eval hu), Oper.upon_value, hdst]
    exact ⟨v, rfl, hS, h⟩⟩⟩

/-! a variable in memory -/
theorem run_box {elem : TypeId} {x : Operand} {v : Value} {l : List Value} (ho : o.op = .box elem x) (hx : kev kn x = some v) (hl : cellsOf v = some l) (ρ : Operand → Value) (hρ : ∀ x u, kev kn x = some u → ρ x = u) :
    (execOp ρ o).run P w = .ok (.value (.pointer (some ⟨w.heap.size, 0, none⟩))) (w.alloc (.cells l.toArray elem)) := by
  simp [execOp, ho, hρ x _ hx, Instr.box, newVar, newRow, cellsOf_eq hl]
theorem stepK_box {elem : TypeId} {x : Operand} {v : Value} {l : List Value} (hdst : o.dst = some d) (hg : o.guard = none) (hd : Nat.ble (d + 1) n = true) (ho : o.op = .box elem x) (hx : kev kn x = some v) (hl : cellsOf v = some l) (hst : St w0 M g0 g own w)
    (h : ∀ b w', St w0 M g0 g (own ++ [(b, .cells l.toArray elem (0, 0))]) w' → wpK P ops Q n rest ((d, .pointer (some ⟨b, 0, none⟩)) :: kn) w') : wpK P ops Q n (o :: rest) kn w :=
  stepK_run hdst hg hd (run_box ho hx hl) (h _ _ (hst.alloc _))
def zeroOf (P : Program) (t : TypeId) : Option Value := (P.info? t).bind (·.zero)
theorem run_zeroB {t : TypeId} {v : Value} (h : zeroOf P t = some v) (w : World) : (zeroValue t).run P w = .ok v w := by
  unfold zeroOf at h
  cases hi : P.info? t with
  | none => rw [hi] at h; cases h
  | some i => rw [hi] at h; simp at h; simp [zeroValue, typeInfo, hi, h]
theorem run_alloc {elem : TypeId} {v : Value} {l : List Value} (ho : o.op = .alloc elem) (hz : zeroOf P elem = some v) (hl : cellsOf v = some l) (ρ : Operand → Value) (hρ : ∀ x u, kev kn x = some u → ρ x = u) :
    (execOp ρ o).run P w = .ok (.value (.pointer (some ⟨w.heap.size, 0, none⟩))) (w.alloc (.cells l.toArray elem)) := by
  simp [execOp, ho, Instr.alloc, run_zeroB hz, newVar, newRow, cellsOf_eq hl]
theorem stepK_alloc {elem : TypeId} {v : Value} {l : List Value} (hdst : o.dst = some d) (hg : o.guard = none) (hd : Nat.ble (d + 1) n = true) (ho : o.op = .alloc elem) (hz : zeroOf P elem = some v) (hl : cellsOf v = some l) (hst : St w0 M g0 g own w)
    (h : ∀ b w', St w0 M g0 g (own ++ [(b, .cells l.toArray elem (0, 0))]) w' → wpK P ops Q n rest ((d, .pointer (some ⟨b, 0, none⟩)) :: kn) w') : wpK P ops Q n (o :: rest) kn w :=
  stepK_run hdst hg hd (run_alloc ho hz hl) (h _ _ (hst.alloc _))

/-! a store into an own block -/
def splice (c : Array Value) (i : Nat) (l : List Value) : Array Value := (c.toList.take i ++ l ++ c.toList.drop (i + l.length)).toArray
theorem splice_one (c : Array Value) (i : Nat) (v : Value) (h : i < c.size) : splice c i [v] = c.setIfInBounds i v := by
  apply Array.ext'
  have hl : i < c.toList.length := by simpa using h
  simp only [splice, Array.toList_setIfInBounds, List.length_singleton]
  rw [List.set_eq_take_append_cons_drop, if_pos hl]
  simp
theorem run_store {t : TypeId} {x y : Operand} {b i m : Nat} {v : Value} {l : List Value} {c : Array Value} {e : TypeId} (k : Nat) (ho : o.op = .store t x y) (hx : kev kn x = some (.pointer (some ⟨b, i, none⟩))) (hy : kev kn y = some v) (hl : cellsOf v = some l)
    (hs : sizeB P t = some m) (hm : l.length = m) (h1 : l.all (·.oneCell') = true) (hst : St w0 M g0 g own w) (hk : own[k]? = some (b, .cells c e (0, 0))) (hin : i + l.length ≤ c.size) (ρ : Operand → Value) (hρ : ∀ x u, kev kn x = some u → ρ x = u) :
    (execOp ρ o).run P w = .ok .skip (w.setRow b (splice c i l)) := by
  have hb := (hst.owns _ (List.mem_of_getElem? hk)).1
  simp only at hb
  have h2 := run_storeCells_at P b i e l 0 c w hb (by simpa using hin) (by simpa using h1)
  have hc := cellsOf_eq hl
  simp only [Nat.add_zero] at h2
  simp [execOp, ho, hρ x _ hx, hρ y _ hy, Instr.storeAt, Instr.sureAddr, storeVar, hc, run_sizeB hs, hm, h2, splice]
theorem stepK_store {t : TypeId} {x y : Operand} {b i m : Nat} {v : Value} {l : List Value} {c : Array Value} {e : TypeId} (k : Nat) (hdst : o.dst = none) (hg : o.guard = none) (ho : o.op = .store t x y) (hx : kev kn x = some (.pointer (some ⟨b, i, none⟩))) (hy : kev kn y = some v) (hl : cellsOf v = some l)
    (hs : sizeB P t = some m) (hm : l.length = m) (h1 : l.all (·.oneCell') = true) (hst : St w0 M g0 g own w) (hk : own[k]? = some (b, .cells c e (0, 0))) (hin : i + l.length ≤ c.size)
    (h : ∀ w', St w0 M g0 g (own.set k (b, .cells (splice c i l) e (0, 0))) w' → wpK P ops Q n rest kn w') : wpK P ops Q n (o :: rest) kn w := by
  intro a ha
  refine wpList_plain hg fun K hK => ?_
  unfold Oper.wp
  rw [run_store k ho hx hy hl hs hm h1 hst hk hin a.eval (fun x u hu => ha.eval hu), Oper.upon_skip, hdst]
  exact hK _ _ (h _ (hst.setRow k _ hk) a ha)

/-! calls -/
def kevs (kn : Kn) : List Operand → Option (List Value)
  | [] => some []
  | x :: r => match kev kn x, kevs kn r with
    | some v, some l => some (v :: l)
    | _, _ => none
theorem kevs_eq {ρ : Operand → Value} (hρ : ∀ x u, kev kn x = some u → ρ x = u) : ∀ (xs : List Operand) (vs : List Value), kevs kn xs = some vs → xs.map ρ = vs
  | [], vs, h => by simpa [kevs] using h
  | x :: r, vs, h => by
    simp only [kevs] at h
    split at h
    · rename_i v l hv hl
      simp at h
      rw [← h]
      simp [hρ x v hv, kevs_eq hρ r l hl]
    · cases h
/-- a call of function f comes to R: f has a body that is walked, or it has none and yields at once -/
def CallTo (P : Program) (f : FuncId) (vs : Array Value) (w : World) (R : Ending → World → Prop) : Prop :=
  ((callFunc f vs).run P w = .ok (.enter f vs) w ∧ Calls P f vs w R) ∨ (∃ v w', (callFunc f vs).run P w = .ok (.value v) w' ∧ R (.returned v) w')
theorem CallTo.mono {f : FuncId} {vs : Array Value} {R R' : Ending → World → Prop} (h : CallTo P f vs w R) (hr : ∀ e w', R e w' → R' e w') : CallTo P f vs w R' := by
  rcases h with ⟨h1, h2⟩ | ⟨v, w', h1, h2⟩
  · exact .inl ⟨h1, h2.mono hr⟩
  · exact .inr ⟨v, w', h1, hr _ _ h2⟩
theorem enters {f : FuncId} {fn : Func} {c : Code} (hf : P.funcs[f]? = some fn) (hname : (fn.name == "runtime.NumGoroutine") = false) (hb : fn.body = some c) (vs : Array Value) (w : World) : (callFunc f vs).run P w = .ok (.enter f vs) w := by
  have h1 : fn.name ≠ "runtime.NumGoroutine" := by simpa using hname
  simp [callFunc, hf, h1, hb, mark]
theorem CallTo.of_wp {f : FuncId} {fn : Func} {c : Code} {vs : Array Value} {R : Ending → World → Prop} (hf : P.funcs[f]? = some fn) (hname : (fn.name == "runtime.NumGoroutine") = false) (hb : fn.body = some c)
    (h : c.wp P (bodyPost P fn R) { tmps := vs ++ Array.replicate (fn.ntmps - vs.size) undef, defers := [] } w) : CallTo P f vs w R :=
  .inl ⟨enters hf hname hb vs w, calls_of_wp hf hb h⟩
theorem oper_call {f : FuncId} {args : List Operand} {ts : Array TypeId} {vs : List Value} {R : Ending → World → Prop} {K : Act → World → Prop} {a : Act} (ho : o.op = .call { callee := .value (.func f), args := args.toArray, argTypes := ts })
    (ha : Knows n a kn) (hvs : kevs kn args = some vs) (hc : CallTo P f vs.toArray w R) (hK : ∀ e w', R e w' → ∃ v, e = .returned v ∧ K (a.put o.dst v) w') : o.wp P a w K Q := by
  have he : args.map a.eval = vs := kevs_eq (fun x u hu => ha.eval hu) args vs hvs
  have hx : execOp a.eval o = callFunc f vs.toArray := by
    simp only [execOp, ho, resolve]
    have : Deferred.ofValue (a.eval (.func f)) vs.toArray = pure { target := .fn (.func f) #[], args := vs.toArray } := by simp [Act.eval, Deferred.ofValue]
    simp only [List.map_toArray, he, this, pure_bind, invoke, Array.append_empty]
  unfold Oper.wp
  rw [hx]
  rcases hc with ⟨h1, h2⟩ | ⟨v, w', h1, h2⟩
  · rw [h1, Oper.upon_enter]
    refine h2.mono fun e w' hr => ?_
    obtain ⟨v, rfl, hk⟩ := hK e w' hr
    exact hk
  · rw [h1, Oper.upon_value]
    obtain ⟨v', e, hk⟩ := hK _ _ h2
    cases e
    exact hk
theorem stepK_call {f : FuncId} {args : List Operand} {ts : Array TypeId} {vs : List Value} {Post : Value → Mem → Prop} (hdst : o.dst = some d) (hg : o.guard = none) (hd : Nat.ble (d + 1) n = true) (ho : o.op = .call { callee := .value (.func f), args := args.toArray, argTypes := ts })
    (hvs : kevs kn args = some vs) (hst : St w0 M g0 g own w) (hc : CallTo P f vs.toArray w (Ret w g Post))
    (h : ∀ v g' w', St w0 M g0 g' own w' → g.le g' → St w [] g g' [] w' → Post v g' → wpK P ops Q n rest ((d, v) :: kn) w') : wpK P ops Q n (o :: rest) kn w := by
  intro a ha
  refine wpList_plain hg fun K hK => ?_
  refine oper_call ho ha hvs hc fun e w' hr => ?_
  obtain ⟨v, g', rfl, hs, hp⟩ := hr
  refine ⟨v, rfl, hK _ _ ?_⟩
  have hx := hst.call hs
  rw [hdst]
  exact h v g' w' hx.1 hx.2 hs hp _ (ha.put (Nat.le_of_ble_eq_true hd) v)
/-- a call under a guard that is met -/
theorem stepK_call_guard {f : FuncId} {args : List Operand} {ts : Array TypeId} {vs : List Value} {Post : Value → Mem → Prop} {j t : Nat} {oj : Oper} {b : Bool} (hdst : o.dst = some d) (hg : o.guard = some (j, b)) (hj : ops[j]? = some oj) (ht : oj.dst = some t)
    (hb : kget kn t = some (.bool b)) (hd : Nat.ble (d + 1) n = true) (ho : o.op = .call { callee := .value (.func f), args := args.toArray, argTypes := ts })
    (hvs : kevs kn args = some vs) (hst : St w0 M g0 g own w) (hc : CallTo P f vs.toArray w (Ret w g Post))
    (h : ∀ v g' w', St w0 M g0 g' own w' → g.le g' → St w [] g g' [] w' → Post v g' → wpK P ops Q n rest ((d, v) :: kn) w') : wpK P ops Q n (o :: rest) kn w := by
  intro a ha
  have hw : Region.wanted o (yielded ops a.tmps) = true := by
    have := tmp_of_getD (ha.get t _ hb)
    simp [Region.wanted, hg, yielded, hj, ht, this]
  unfold wpList
  rw [if_pos hw]
  refine .inl (oper_call ho ha hvs hc fun e w' hr => ?_)
  obtain ⟨v, g', rfl, hs, hp⟩ := hr
  refine ⟨v, rfl, ?_⟩
  have hx := hst.call hs
  rw [hdst]
  exact h v g' w' hx.1 hx.2 hs hp _ (ha.put (Nat.le_of_ble_eq_true hd) v)
/-- what was the state at the region's start is still the state -/
theorem St.older {g' : Mem} {own' : List (Nat × Obj)} (h : St w0 M g0 g' own' w) (hle : g.le g') (hsub : List.Sublist own own') (hext : ∀ b, b < w0.heap.size → g b = g0 b) (hl0 : g0.le g) : St w0 M g0 g own w :=
  ⟨h.os, h.tape, h.output, h.size, h.block, fun b o hb => h.agree b o (hle b o hb), hl0, hext, fun p hp => by
    obtain ⟨e1, e2, e3⟩ := h.owns p (hsub.mem hp)
    refine ⟨e1, ?_, e3⟩
    cases hgp : g p.1 with
    | none => rfl
    | some u => (rw [hle _ _ hgp] at e2; cases e2), (hsub.map Prod.fst).nodup h.nodup⟩
theorem stepD_call {i : Nat} {tail : List Oper} {r : List (Nat × Bool)} {f : FuncId} {args : List Operand} {ts : Array TypeId} {vs : List Value} {Post : Value → Mem → Prop} {g1 : Mem} {own1 : List (Nat × Obj)} (hi : ops[i]? = some o) (hdst : o.dst = some d) (hg : o.guard = none) (hd : Nat.ble (d + 1) n = true)
    (ho : o.op = .call { callee := .value (.func f), args := args.toArray, argTypes := ts }) (hvs : kevs kn args = some vs) (hst : St w0 M g0 g1 own1 w) (hc : CallTo P f vs.toArray w (Ret w g1 Post))
    (hkeep : ∀ g' w', St w0 M g0 g' own1 w' → g1.le g' → St w0 M g0 g own w')
    (h : ∀ v g' w', St w0 M g0 g' own1 w' → g1.le g' → St w [] g1 g' [] w' → Post v g' → wpD P ops Q n (St w0 M g0 g own) tail r ((d, v) :: kn) w') : wpD P ops Q n (St w0 M g0 g own) tail ((i, false) :: r) kn w :=
  ⟨o, d, hi, hdst, Nat.le_of_ble_eq_true hd, fun a ha => ⟨by simp [Region.wanted, hg], oper_call ho ha hvs hc fun e w' hr => by
    obtain ⟨v, g', rfl, hs, hp⟩ := hr
    have hx := hst.call hs
    exact ⟨v, rfl, v, by rw [hdst], hkeep g' w' hx.1 hx.2, h v g' w' hx.1 hx.2 hs hp⟩⟩⟩
end
end Go.Proofs.Vc

namespace Go.Proofs.Vc
open Go Go.RowKit
set_option linter.unusedVariables false
set_option linter.unusedSimpArgs false
set_option linter.unusedSectionVars false

/-! ### Parts laid into cells -/
def putL : List Value → Nat → List Value → List Value
  | [], _, _ => []
  | x :: c, n + 1, vs => x :: putL c n vs
  | x :: c, 0, [] => x :: c
  | _ :: c, 0, v :: vs => v :: putL c 0 vs
theorem putL_length : ∀ (c : List Value) (n : Nat) (vs : List Value), (putL c n vs).length = c.length
  | [], _, _ => by simp [putL]
  | x :: c, n + 1, vs => by simp [putL, putL_length c n vs]
  | x :: c, 0, [] => by simp [putL]
  | _ :: c, 0, v :: vs => by simp [putL, putL_length c 0 vs]
theorem putL_get : ∀ (c : List Value) (n : Nat) (vs : List Value) (j : Nat), (putL c n vs)[j]? = if n ≤ j ∧ j < n + vs.length ∧ j < c.length then vs[j - n]? else c[j]?
  | [], n, vs, j => by simp [putL]
  | x :: c, n + 1, vs, 0 => by simp [putL]
  | x :: c, n + 1, vs, j + 1 => by
    simp only [putL, List.getElem?_cons_succ, putL_get c n vs j, List.length_cons]
    have : j + 1 - (n + 1) = j - n := by omega
    rw [this]
    by_cases h : n ≤ j ∧ j < n + vs.length ∧ j < c.length
    · rw [if_pos h, if_pos (by omega)]
    · rw [if_neg h, if_neg (by omega)]
  | x :: c, 0, [], j => by
    simp only [putL, List.length_nil]
    rw [if_neg (by omega)]
  | x :: c, 0, v :: vs, 0 => by simp [putL]
  | x :: c, 0, v :: vs, j + 1 => by
    simp only [putL, List.getElem?_cons_succ, putL_get c 0 vs j, List.length_cons, Nat.sub_zero]
    by_cases h : 0 ≤ j ∧ j < 0 + vs.length ∧ j < c.length
    · rw [if_pos h, if_pos (by omega)]
    · rw [if_neg h, if_neg (by omega)]
theorem foldl_put (l : List Value) (off : Nat) : ∀ (k : Nat) (c : Array Value), (l.zipIdx k).foldl (fun cs (x, j) => cs.setIfInBounds (off + j) x) c = (putL c.toList (off + k) l).toArray := by
  induction l with
  | nil =>
    intro k c
    simp only [List.zipIdx_nil, List.foldl_nil]
    apply Array.ext'
    simp only [List.toList_toArray]
    apply List.ext_getElem?
    intro j
    rw [putL_get]
    simp
    omega
  | cons x l ih =>
    intro k c
    simp only [List.zipIdx_cons, List.foldl_cons]
    rw [ih (k + 1)]
    congr 1
    apply List.ext_getElem?
    intro j
    rw [putL_get, putL_get]
    simp only [Array.toList_setIfInBounds, List.length_set, List.length_cons]
    by_cases h1 : j = off + k
    · subst h1
      rw [if_neg (by omega)]
      by_cases h2 : off + k < c.toList.length
      · rw [if_pos (by omega)]
        simp at h2
        simp [h2]
      · rw [if_neg (by omega)]
        rw [List.getElem?_eq_none (by simp at h2 ⊢; omega), List.getElem?_eq_none (by omega)]
    · rw [List.getElem?_set_ne (by omega)]
      by_cases h2 : off + (k + 1) ≤ j ∧ j < off + (k + 1) + l.length ∧ j < c.toList.length
      · rw [if_pos h2, if_pos (by omega)]
        have : j - (off + k) = (j - (off + (k + 1))) + 1 := by omega
        rw [this]
        simp
      · rw [if_neg h2, if_neg (by omega)]
def fillL (place : Nat → Option (Nat × Nat)) : List Value → List (Nat × Value) → Option (List Value)
  | c, [] => copyL c
  | c, (i, v) :: r => match place i, cellsOf v with
    | some (off, sz), some l => match Nat.beq l.length sz, Nat.ble (off + l.length) c.length with
      | true, true => fillL place (putL c off l) r
      | _, _ => none
    | _, _ => none
theorem fillL_eq (place : Nat → Option (Nat × Nat)) : ∀ (ps : List (Nat × Value)) (c r : List Value), fillL place c ps = some r → Instr.fill place c.toArray ps = some r.toArray
  | [], c, r, h => by rw [copyL_eq c r h]; rfl
  | (i, v) :: ps, c, r, h => by
    simp only [fillL] at h
    split at h
    · rename_i off sz l hp hl
      split at h
      · rename_i h1 h2
        have e1 : l.length = sz := Nat.eq_of_beq_eq_true h1
        have e2 : off + l.length ≤ c.length := Nat.le_of_ble_eq_true h2
        have e3 := cellsOf_eq hl
        simp only [Instr.fill, hp, e3]
        rw [if_neg (by simp; omega)]
        have e4 := foldl_put l off 0 c.toArray
        have e5 : (l.toArray.zipIdx.foldl (fun cs (x, j) => cs.setIfInBounds (off + j) x) c.toArray) = (putL c off l).toArray := by
          rw [← Array.foldl_toList]
          simpa using e4
        have e6 := fillL_eq place ps _ _ h
        rw [← e6]
        congr 1
      · cases h
    · cases h
def getP : List (Nat × Nat) → Nat → Option (Nat × Nat)
  | [], _ => none
  | p :: _, 0 => some p
  | _ :: r, n + 1 => getP r n
theorem getP_eq : ∀ (l : List (Nat × Nat)) (i : Nat), getP l i = l[i]?
  | [], _ => by simp [getP]
  | p :: _, 0 => by simp [getP]
  | _ :: r, n + 1 => by simp [getP, getP_eq r n]
/-- a struct's places, and its zero value's cells -/
def layOf (P : Program) (t : TypeId) : Option (List (Nat × Nat) × List Value) := match P.info? t, P.underlying t with
  | some it, some (.struct fields) => match it.zero, fields.toList.mapM (fun f => (P.info? f.type).map fun i => (f.offset, i.size)) with
    | some z, some places => some (places, z.cells.toList)
    | _, _ => none
  | _, _ => none
def kparts (kn : Kn) : List (Nat × Operand) → Option (List (Nat × Value))
  | [] => some []
  | (i, x) :: r => match kev kn x, kparts kn r with
    | some v, some l => some ((i, v) :: l)
    | _, _ => none
theorem kparts_eq {kn : Kn} {ρ : Operand → Value} (hρ : ∀ x u, kev kn x = some u → ρ x = u) : ∀ (xs : List (Nat × Operand)) (vs : List (Nat × Value)), kparts kn xs = some vs → xs.map (fun p => (p.1, ρ p.2)) = vs
  | [], vs, h => by simpa [kparts] using h
  | (i, x) :: r, vs, h => by
    simp only [kparts] at h
    split at h
    · rename_i v l hv hl
      simp at h
      rw [← h]
      simp [hρ x v hv, kparts_eq hρ r l hl]
    · cases h
/-- n times the zero value's cells -/
def repL : Nat → List Value → List Value
  | 0, _ => []
  | n + 1, z => z ++ repL n z
theorem repL_length (n : Nat) (z : List Value) : (repL n z).length = n * z.length := by
  induction n with
  | zero => simp [repL]
  | succ n ih => simp [repL, ih, Nat.add_mul, Nat.add_comm]
theorem repL_get (z : List Value) : ∀ (n j : Nat), j < n * z.length → (repL n z)[j]? = z[j % z.length]? := by
  intro n
  induction n with
  | zero => intro j h; simp at h
  | succ n ih =>
    intro j h
    simp only [repL]
    by_cases hj : j < z.length
    · rw [List.getElem?_append_left hj, Nat.mod_eq_of_lt hj]
    · rw [List.getElem?_append_right (by omega), ih _ (by rw [Nat.add_mul] at h; omega)]
      rw [Nat.mod_eq_sub_mod (by omega : j ≥ z.length)]
theorem repL_one (n : Nat) (v : Value) : repL n [v] = List.replicate n v := by
  induction n with
  | zero => rfl
  | succ n ih => simp [repL, ih, List.replicate_succ]
theorem made_eq (z : Array Value) (n : Nat) : madeCells z (n * z.size) = (repL n z.toList).toArray := by
  apply Array.ext'
  apply List.ext_getElem?
  intro j
  by_cases hj : j < n * z.size
  · have h1 : (repL n z.toList)[j]? = z.toList[j % z.toList.length]? := repL_get z.toList n j (by simpa using hj)
    have hz : 0 < z.size := by
      rcases Nat.eq_zero_or_pos z.size with h | h
      · rw [h] at hj; simp at hj
      · exact h
    have hm : j % z.size < z.size := Nat.mod_lt _ hz
    simp only [List.toList_toArray, h1]
    simp [madeCells, hj, hm]
  · rw [List.getElem?_eq_none (by simp [madeCells]; omega), List.getElem?_eq_none (by simp [repL_length]; omega)]

section
variable {P : Program} {kn : Kn} {o : Oper} {S : World → Prop}
theorem does_build {t : TypeId} {parts : List (Nat × Operand)} {places : List (Nat × Nat)} {zl l : List Value} {vs : List (Nat × Value)} (ho : o.op = .build t parts.toArray) (hlay : layOf P t = some (places, zl)) (hvs : kparts kn parts = some vs)
    (hf : fillL (getP places) zl vs = some l) : Does P S kn o (.agg l.toArray) :=
  does_of fun ρ hρ w => by
    have hb : P.built t vs = some l.toArray := by
      unfold layOf at hlay
      unfold Program.built
      split at hlay
      · rename_i it fields hit hu
        split at hlay
        · rename_i z pl hz hp
          simp at hlay
          simp only [hit, hu, hz, hp]
          have h1 := fillL_eq _ _ _ _ hf
          rw [← hlay.2, ← hlay.1] at h1
          simp only [Array.toArray_toList] at h1
          rw [← h1]
          congr 1
          funext i
          simp [getP_eq]
        · cases hlay
      · cases hlay
    have hm := kparts_eq hρ parts vs hvs
    have h2 := run_build (P := P) w t (parts.map (fun p => (p.1, ρ p.2))).toArray l.toArray (by simpa [hm] using hb)
    simp [execOp, ho, h2]
end

section
variable {P : Program} {ops : Array Oper} {Q : Exit → Act → World → Prop} {n : Nat} {kn : Kn} {o : Oper} {rest : List Oper} {w0 w : World} {M : List Nat} {g0 g : Mem} {own : List (Nat × Obj)} {d : Nat}

/-- what is known of an element's type: zero value, cells, bytes -/
def elemInfo (P : Program) (e : TypeId) : Option (Value × Nat × Nat) := (P.info? e).bind fun i => i.zero.map fun z => (z, i.size, i.bytes)
theorem elemInfo_spec {e : TypeId} {z : Value} {sz by_ : Nat} (h : elemInfo P e = some (z, sz, by_)) : ∃ i, P.info? e = some i ∧ i.zero = some z ∧ i.size = sz ∧ i.bytes = by_ := by
  unfold elemInfo at h
  cases hi : P.info? e with
  | none => rw [hi] at h; cases h
  | some i =>
    rw [hi] at h
    simp at h
    obtain ⟨z', hz, h1, h2, h3⟩ := h
    exact ⟨i, rfl, by rw [hz, h1], h2, h3⟩
theorem run_buildSlice' {t e : TypeId} {len : Nat} {parts : List (Nat × Operand)} {z : Value} {zl l : List Value} {sz by_ : Nat} {vs : List (Nat × Value)} (ho : o.op = .buildSlice t len parts.toArray) (hu : P.underlying t = some (.slice e)) (he : elemInfo P e = some (z, sz, by_))
    (hz : cellsOf z = some zl) (hzs : zl.length = sz) (hs : 0 < sz) (hlen : 0 < len) (hsm : len * sz ≤ 16777216) (hvs : kparts kn parts = some vs) (hf : fillL (fun i => some (i * sz, sz)) (repL len zl) vs = some l) (ρ : Operand → Value) (hρ : ∀ x u, kev kn x = some u → ρ x = u) :
    (execOp ρ o).run P w = .ok (.value (.slice (some ⟨w.heap.size, 0, none⟩) len len)) (w.alloc (.cells l.toArray e)) := by
  obtain ⟨i, hi, hz', hsz, hb⟩ := elemInfo_spec he
  have hm := kparts_eq hρ parts vs hvs
  have hzc := cellsOf_eq hz
  have h1 : (Instr.buildSlice t len (parts.map (fun p => (p.1, ρ p.2))).toArray).run P w = .ok (.slice (some ⟨w.heap.size, 0, none⟩) len len) (w.alloc (.cells l.toArray e)) := by
    have hpos : 0 < len * sz := Nat.mul_pos hlen hs
    refine run_buildSlice w t e len _ l.toArray i z hu hi hz' (by rw [hsz]; omega) (by rw [hsz]; omega) ?_
    have h2 := fillL_eq _ _ _ _ hf
    have h3 := made_eq z.cells len
    rw [hzc] at h3
    simp only [madeCells, List.size_toArray, hzs] at h3
    rw [hzc, hsz]
    simp only [List.size_toArray, hzs, hm]
    rw [h3]
    exact h2
  simp [execOp, ho, h1]
theorem stepK_buildSlice {t e : TypeId} {len : Nat} {parts : List (Nat × Operand)} {z : Value} {zl l : List Value} {sz by_ : Nat} {vs : List (Nat × Value)} (hdst : o.dst = some d) (hg : o.guard = none) (hd : Nat.ble (d + 1) n = true) (ho : o.op = .buildSlice t len parts.toArray) (hu : P.underlying t = some (.slice e)) (he : elemInfo P e = some (z, sz, by_))
    (hz : cellsOf z = some zl) (hzs : zl.length = sz) (hs : 0 < sz) (hlen : 0 < len) (hsm : len * sz ≤ 16777216) (hvs : kparts kn parts = some vs) (hf : fillL (fun i => some (i * sz, sz)) (repL len zl) vs = some l) (hst : St w0 M g0 g own w)
    (h : ∀ b w', St w0 M g0 g (own ++ [(b, .cells l.toArray e (0, 0))]) w' → wpK P ops Q n rest ((d, .slice (some ⟨b, 0, none⟩) len len) :: kn) w') : wpK P ops Q n (o :: rest) kn w :=
  stepK_run hdst hg hd (run_buildSlice' ho hu he hz hzs hs hlen hsm hvs hf) (h _ _ (hst.alloc _))
theorem run_make' {t e : TypeId} {x y : Operand} {k k' : IntKind} {a b : Int} {l c : Nat} {z : Value} {zl : List Value} {sz by_ : Nat} (ho : o.op = .makeSlice t x y) (hu : P.underlying t = some (.slice e)) (he : elemInfo P e = some (z, sz, by_)) (hz : cellsOf z = some zl) (hzs : zl.length = sz)
    (hx : kev kn x = some (.int k a)) (hy : kev kn y = some (.int k' b)) (ha : a = (l : Int)) (hb : b = (c : Int)) (hlc : l ≤ c) (hby : by_ * c ≤ 281474976710656) (hc : c ≤ 281474976710656) (ρ : Operand → Value) (hρ : ∀ x u, kev kn x = some u → ρ x = u) :
    (execOp ρ o).run P w = .ok (.value (.slice (some ⟨w.heap.size, 0, none⟩) l c)) (w.alloc (.cells (repL c zl).toArray e)) := by
  obtain ⟨i, hi, hz', hsz, hbb⟩ := elemInfo_spec he
  subst ha hb
  have h1 := run_make (P := P) w t e i z hu hi hz' k k' l c (by omega) (by omega) (by rw [hbb]; omega) (by omega)
  have hzc := cellsOf_eq hz
  have h3 := made_eq z.cells c
  rw [hzc] at h3
  simp only [List.size_toArray, hzs] at h3
  rw [hzc, hsz] at h1
  simp only [Int.toNat_natCast, h3] at h1
  simp [execOp, ho, hρ x _ hx, hρ y _ hy, h1]
theorem stepK_make {t e : TypeId} {x y : Operand} {k k' : IntKind} {a b : Int} {l c : Nat} {z : Value} {zl : List Value} {sz by_ : Nat} (hdst : o.dst = some d) (hg : o.guard = none) (hd : Nat.ble (d + 1) n = true) (ho : o.op = .makeSlice t x y) (hu : P.underlying t = some (.slice e)) (he : elemInfo P e = some (z, sz, by_)) (hz : cellsOf z = some zl) (hzs : zl.length = sz)
    (hx : kev kn x = some (.int k a)) (hy : kev kn y = some (.int k' b)) (ha : a = (l : Int)) (hb : b = (c : Int)) (hlc : l ≤ c) (hby : by_ * c ≤ 281474976710656) (hc : c ≤ 281474976710656) (hst : St w0 M g0 g own w)
    (h : ∀ b w', St w0 M g0 g (own ++ [(b, .cells (repL c zl).toArray e (0, 0))]) w' → wpK P ops Q n rest ((d, .slice (some ⟨b, 0, none⟩) l c) :: kn) w') : wpK P ops Q n (o :: rest) kn w :=
  stepK_run hdst hg hd (run_make' ho hu he hz hzs hx hy ha hb hlc hby hc) (h _ _ (hst.alloc _))

/-! ### A slice of the call's own that grows -/
theorem St.grown {w' : World} {row : Option Nat} (h : St w0 M g0 g own w) (hg : w.grownBy w' row) (hrow : ∀ k, row = some k → w0.heap.size ≤ k ∧ g k = none ∧ k ∉ own.map Prod.fst) : St w0 M g0 g own w' := by
  refine ⟨hg.os.trans h.os, hg.tape.trans h.tape, hg.output.trans h.output, Nat.le_trans h.size hg.size, ?_, ?_, h.le, h.ext, ?_, h.nodup⟩
  · intro k hk hM
    rw [hg.block k (Nat.lt_of_lt_of_le hk h.size) (fun e => by have := (hrow k e.symm).1; omega)]
    exact h.block k hk hM
  · intro b u hb
    rw [hg.block b (h.lt_of_g hb) (fun e => by have := (hrow b e.symm).2.1; rw [this] at hb; cases hb)]
    exact h.agree b u hb
  · intro p hp
    obtain ⟨e1, e2, e3⟩ := h.owns p hp
    refine ⟨?_, e2, e3⟩
    rw [hg.block p.1 (h.own_lt hp) (fun e => (hrow p.1 e.symm).2.2 (List.mem_map.2 ⟨p, hp, rfl⟩))]
    exact e1
theorem St.adopt (h : St w0 M g0 g own w) {b : Nat} {u : Obj} (hb : w.heap[b]? = some u) (hgn : g b = none) (hnew : w0.heap.size ≤ b) (hno : b ∉ own.map Prod.fst) : St w0 M g0 g (own ++ [(b, u)]) w := by
  refine ⟨h.os, h.tape, h.output, h.size, h.block, h.agree, h.le, h.ext, ?_, ?_⟩
  · intro p hp
    rw [List.mem_append] at hp
    rcases hp with hp | hp
    · exact h.owns p hp
    · have : p = (b, u) := by simpa using hp
      subst this
      exact ⟨hb, hgn, .inl hnew⟩
  · rw [List.map_append, List.nodup_append]
    refine ⟨h.nodup, by simp, ?_⟩
    intro a ha c hc
    have : c = b := by simpa using hc
    subst this
    intro e
    subst e
    exact hno ha
/-- nil, or a row of the call's own that may have spare room: n elements of size sz, their cells xs; beside it the state over 'own' -/
def Row (w0 : World) (M : List Nat) (g0 g : Mem) (own : List (Nat × Obj)) (e : TypeId) (sz : Nat) (v : Value) (n : Nat) (xs : List Value) (w : World) : Prop :=
  xs.length = n * sz ∧ ((v = .slice none 0 0 ∧ n = 0 ∧ St w0 M g0 g own w) ∨
    ∃ b cap cur, v = .slice (some ⟨b, 0, none⟩) n cap ∧ n ≤ cap ∧ cap ≤ maxLen ∧ cur.size = cap * sz ∧ cur.toList.take (n * sz) = xs ∧ w0.heap.size ≤ b ∧ St w0 M g0 g (own ++ [(b, .cells cur e (0, 0))]) w)
theorem Row.nil {e : TypeId} {sz : Nat} (h : St w0 M g0 g own w) : Row w0 M g0 g own e sz (.slice none 0 0) 0 [] w := ⟨by simp, .inl ⟨rfl, rfl, h⟩⟩
theorem Row.st {e : TypeId} {sz m : Nat} {v : Value} {xs : List Value} (h : Row w0 M g0 g own e sz v m xs w) : St w0 M g0 g own w := by
  rcases h.2 with ⟨_, _, h⟩ | ⟨b, cap, cur, _, _, _, _, _, _, h⟩
  · exact h
  · exact h.weaken _ (List.sublist_append_left _ _)
theorem Row.shape {e : TypeId} {sz m : Nat} {v : Value} {xs : List Value} (h : Row w0 M g0 g own e sz v m xs w) : ∃ A c, v = .slice A m c := by
  rcases h.2 with ⟨h1, h2, _⟩ | ⟨b, cap, cur, h1, _⟩
  · subst h2; exact ⟨_, _, h1⟩
  · exact ⟨_, _, h1⟩
theorem Row.call {w' : World} {g' : Mem} {e : TypeId} {sz m : Nat} {v : Value} {xs : List Value} (h : Row w0 M g0 g own e sz v m xs w) (k : St w [] g g' [] w') : Row w0 M g0 g' own e sz v m xs w' := by
  refine ⟨h.1, ?_⟩
  rcases h.2 with ⟨h1, h2, h3⟩ | ⟨b, cap, cur, h1, h2, h3, h4, h5, h6, h7⟩
  · exact .inl ⟨h1, h2, (h3.call k).1⟩
  · exact .inr ⟨b, cap, cur, h1, h2, h3, h4, h5, h6, (h7.call k).1⟩
theorem run_append_row {t ty e : TypeId} {z : Value} {sz by_ m : Nat} {v : Value} {xs : List Value} (hu : P.underlying t = some (.slice e)) (he : elemInfo P e = some (z, sz, by_)) (hzs : z.cells.size = sz) (hs : 0 < sz)
    (h : Row w0 M g0 g own e sz v m xs w) (a : Addr) (k c : Nat) (news : List Value) (hl : news.length = k * sz) (hnews : ∀ j u, news[j]? = some u → w.cell? (a.add j) = some u) (h1 : ∀ u ∈ news, u.oneCell' = true) (hb : (m + k) * by_ ≤ 140737488355328) (hm : m + k ≤ 140737488355328) :
    ∃ v' w', (Builtin.append_ #[t, t] ty #[v, .slice (some a) k c]).run P w = .ok v' w' ∧ Row w0 M g0 g own e sz v' (m + k) (xs ++ news) w' := by
  obtain ⟨i, hi, hz', hsz, hbb⟩ := elemInfo_spec he
  have hst := h.st
  have hown : w.ownsRow w0.heap.size e sz v m xs := by
    refine ⟨h.1, ?_⟩
    rcases h.2 with ⟨e1, e2, _⟩ | ⟨b, cap, cur, e1, e2, e3, e4, e5, e6, e7⟩
    · exact .inl ⟨e1, e2⟩
    · exact .inr ⟨b, cap, cur, e1, e6, (e7.owns (b, .cells cur e (0, 0)) (by simp)).1, e2, e3, e4, e5⟩
  obtain ⟨v', w', hr, ho', hg', hn', hat⟩ := run_append_own_at (P := P) w w0.heap.size t ty e i z sz by_ hu hi hz' hsz hbb hzs hs v m xs hown a k c news hl hnews h1 (by simp only [maxLen]; omega) hb hst.size
  refine ⟨v', w', hr, ho'.1, ?_⟩
  have hrow : ∀ b, v.ownBlock = some b → w0.heap.size ≤ b ∧ g b = none ∧ b ∉ own.map Prod.fst := by
    intro b hbv
    rcases h.2 with ⟨e1, _, _⟩ | ⟨b', cap, cur, e1, e2, e3, e4, e5, e6, e7⟩
    · rw [e1] at hbv; cases hbv
    · rw [e1] at hbv
      have : b' = b := by simpa [Value.ownBlock] using hbv
      subst this
      refine ⟨e6, (e7.owns (b', .cells cur e (0, 0)) (by simp)).2.1, ?_⟩
      have hn := e7.nodup
      rw [List.map_append, List.nodup_append] at hn
      intro hmem
      exact hn.2.2 b' hmem b' (by simp) rfl
  have hst' := hst.grown hg' hrow
  rcases ho'.2 with ⟨e1, e2⟩ | ⟨b, cap, cur, e1, e2, e3, e4, e5, e6, e7⟩
  · exact .inl ⟨e1, e2, hst'⟩
  · refine .inr ⟨b, cap, cur, e1, e4, e5, e6, e7, e2, hst'.adopt e3 ?_ e2 ?_⟩
    · rw [e1] at hat
      rcases hat with hat | hat
      · exact (hrow b hat.symm).2.1
      · have : b = w.heap.size := by simpa [Value.ownBlock] using hat
        rw [this]
        exact hst.new_none
    · rw [e1] at hat
      rcases hat with hat | hat
      · exact (hrow b hat.symm).2.2
      · have : b = w.heap.size := by simpa [Value.ownBlock] using hat
        rw [this]
        intro hmem
        obtain ⟨p, hp, e⟩ := List.mem_map.1 hmem
        have := hst.own_lt hp
        omega
end
end Go.Proofs.Vc

namespace Go.Proofs.Vc
open Go Go.RowKit
set_option linter.unusedVariables false
set_option linter.unusedSimpArgs false
set_option linter.unusedSectionVars false

def knOf : List Value → Nat → Kn
  | [], _ => []
  | v :: r, i => (i, v) :: knOf r (i + 1)
theorem knOf_get : ∀ (l : List Value) (i t : Nat) (v : Value), kget (knOf l i) t = some v → i ≤ t ∧ l[t - i]? = some v
  | [], _, _, _, h => by simp [knOf, kget] at h
  | x :: l, i, t, v, h => by
    simp only [knOf, kget] at h
    cases hb : Nat.beq i t with
    | true =>
      rw [hb] at h
      have := Nat.eq_of_beq_eq_true hb
      subst this
      simp at h
      simp [h]
    | false =>
      rw [hb] at h
      have hne : i ≠ t := fun e => by subst e; simp at hb
      obtain ⟨h1, h2⟩ := knOf_get l (i + 1) t v h
      refine ⟨by omega, ?_⟩
      have : t - i = (t - (i + 1)) + 1 := by omega
      rw [this]
      simpa using h2
theorem CallTo.enter {P : Program} {f : FuncId} {fn : Func} {c : Code} {vs : List Value} {n : Nat} {w : World} {R : Ending → World → Prop} (hf : P.funcs[f]? = some fn) (hname : (fn.name == "runtime.NumGoroutine") = false) (hb : fn.body = some c)
    (hn : fn.ntmps = n) (hl : Nat.ble vs.length n = true) (h : cpK P c (bodyPost P fn R) n (knOf vs 0) w) : CallTo P f vs.toArray w R := by
  refine CallTo.of_wp hf hname hb (h _ ⟨?_, rfl, ?_⟩)
  · have := Nat.le_of_ble_eq_true hl
    simp [hn]
    omega
  · intro t v ht
    obtain ⟨_, h2⟩ := knOf_get vs 0 t v ht
    have hlt : t < vs.length := by
      rcases Nat.lt_or_ge t vs.length with h | h
      · exact h
      · rw [Nat.sub_zero, List.getElem?_eq_none h] at h2; cases h2
    rw [Array.getD_eq_getD_getElem?, Array.getElem?_append_left (by simpa using hlt)]
    simp at h2
    simp [h2]

section
variable {P : Program} {fn : Func} {n : Nat} {kn : Kn} {w0 w : World} {g0 g : Mem} {own : List (Nat × Obj)} {Post : Value → Mem → Prop}
theorem Ret.mk {v : Value} (hst : St w0 [] g0 g own w) (h : Post v g) : Ret w0 g0 Post (.returned v) w := ⟨v, g, rfl, hst.forget, h⟩
theorem ret1 {t : Tmp} {v : Value} (hr : fn.results = #[.tmp t]) (hv : kget kn t = some v) (hst : St w0 [] g0 g own w) (h : Post v g) : atK (bodyPost P fn (Ret w0 g0 Post) .ret) n kn w := fun a ha =>
  ⟨ha.defers, v, by rw [results_tmp hr, ha.get t v hv], Ret.mk hst h⟩
theorem ret2 {t u : Tmp} {v1 v2 : Value} (hr : fn.results = #[.tmp t, .tmp u]) (h1 : kget kn t = some v1) (h2 : kget kn u = some v2) (hst : St w0 [] g0 g own w) (h : Post (.tuple #[v1, v2]) g) : atK (bodyPost P fn (Ret w0 g0 Post) .ret) n kn w := fun a ha =>
  ⟨ha.defers, _, by rw [results_tmp2 hr, ha.get t v1 h1, ha.get u v2 h2], Ret.mk hst h⟩
theorem ret3 {t u s : Tmp} {v1 v2 v3 : Value} (hr : fn.results = #[.tmp t, .tmp u, .tmp s]) (h1 : kget kn t = some v1) (h2 : kget kn u = some v2) (h3 : kget kn s = some v3) (hst : St w0 [] g0 g own w) (h : Post (.tuple #[v1, v2, v3]) g) : atK (bodyPost P fn (Ret w0 g0 Post) .ret) n kn w := fun a ha => by
  refine ⟨ha.defers, .tuple #[v1, v2, v3], ?_, Ret.mk hst h⟩
  have e1 := ha.get t v1 h1
  have e2 := ha.get u v2 h2
  have e3 := ha.get s v3 h3
  rw [Array.getD_eq_getD_getElem?] at e1 e2 e3
  simp [results, hr, e1, e2, e3]
/-- the result is a variable in memory -/
theorem ret1c {t : Tmp} {ty : TypeId} {b k m : Nat} {l : List Value} {e : TypeId} {f : Nat × Nat} (hr : fn.results = #[.cell t ty]) (hv : kget kn t = some (.pointer (some ⟨b, 0, none⟩))) (ha : aggOf P ty = some true) (hs : sizeB P ty = some m) (hl : l.length = m) (hst : St w0 [] g0 g own w) (hk : own[k]? = some (b, .cells l.toArray e f))
    (h : Post (.agg l.toArray) g) : atK (bodyPost P fn (Ret w0 g0 Post) .ret) n kn w := fun a hka => by
  refine ⟨hka.defers, .agg l.toArray, ?_, Ret.mk hst h⟩
  have e1 := hka.get t _ hv
  rw [Array.getD_eq_getD_getElem?] at e1
  have h1 := run_loadN (P := P) (b := b) (i := 0) ha hs hl (w := w) (fun j v hj => by
    rw [Nat.zero_add]
    exact hst.cell_own k hk (by simpa using hj))
  simp [results, hr, e1, asAddr, h1]
end

/-! ### math/bits: the functions that the machine has -/
theorem add64_call {P : Program} {f : FuncId} {fn : Func} (hf : P.funcs[f]? = some fn) (hname : (fn.name == "runtime.NumGoroutine") = false) (hb : fn.body.isNone = true) (hn : Extern.findNext fn = none) (he : Extern.find fn = some add64Entry)
    {g : Mem} {w : World} (hag : Agree g w) (x y c : Nat) (hc : c ≤ 1) :
    CallTo P f #[.int .u64 (x : Int), .int .u64 (y : Int), .int .u64 (c : Int)] w (Ret w g fun v g' => v = .tuple #[.int .u64 (((x + y + c) % 18446744073709551616 : Nat) : Int), .int .u64 (((x + y + c) / 18446744073709551616 : Nat) : Int)]) := by
  refine .inr ⟨.tuple #[.int .u64 (((x + y + c) % 18446744073709551616 : Nat) : Int), .int .u64 (((x + y + c) / 18446744073709551616 : Nat) : Int)], w, ?_, ⟨_, g, rfl, St.init hag, rfl⟩⟩
  rw [run_callFunc_extern hf hname hb hn he, run_add64 x y c (by omega) (by omega) (by omega) (by omega)]
  rfl
def sub64E : Array Value → Sem Value := ((Extern.MathBitsCarry.rows[1]?).map (·.2)).getD (fun _ => pure undef)
theorem run_sub64E {P : Program} (x y b : Nat) (hb : b ≤ 1) (w : World) : (sub64E #[.int .u64 x, .int .u64 y, .int .u64 b]).run P w =
    .ok (.tuple #[.int .u64 (((x + 18446744073709551616 - y - b) % 18446744073709551616 : Nat) : Int), .int .u64 ((if x < y + b then 1 else 0 : Nat) : Int)]) w := by
  have : b = 0 ∨ b = 1 := by omega
  rcases this with rfl | rfl <;> rfl
theorem sub64_call {P : Program} {f : FuncId} {fn : Func} (hf : P.funcs[f]? = some fn) (hname : (fn.name == "runtime.NumGoroutine") = false) (hb : fn.body.isNone = true) (hn : Extern.findNext fn = none) (he : Extern.find fn = some sub64E)
    {g : Mem} {w : World} (hag : Agree g w) (x y c : Nat) (hc : c ≤ 1) :
    CallTo P f #[.int .u64 (x : Int), .int .u64 (y : Int), .int .u64 (c : Int)] w (Ret w g fun v g' => v = .tuple #[.int .u64 (((x + 18446744073709551616 - y - c) % 18446744073709551616 : Nat) : Int), .int .u64 ((if x < y + c then 1 else 0 : Nat) : Int)]) := by
  refine .inr ⟨.tuple #[.int .u64 (((x + 18446744073709551616 - y - c) % 18446744073709551616 : Nat) : Int), .int .u64 ((if x < y + c then 1 else 0 : Nat) : Int)], w, ?_, ⟨_, g, rfl, St.init hag, rfl⟩⟩
  rw [run_callFunc_extern hf hname hb hn he, run_sub64E x y c (by omega)]
  rfl
end Go.Proofs.Vc

namespace Go.Proofs.Vc
open Go Go.RowKit
set_option linter.unusedVariables false
set_option linter.unusedSimpArgs false
set_option linter.unusedSectionVars false

section
variable {P : Program} {Q : Exit → Act → World → Prop} {n : Nat} {kn : Kn} {w : World}
theorem at_then_ret {K : Act → World → Prop} (h : atK (Q .ret) n kn w) : atK ((Exit.then K Q) .ret) n kn w := h
theorem at_block_ret {id : Nat} (h : atK (Q .ret) n kn w) : atK ((Exit.inBlock id Q) .ret) n kn w := h
theorem at_then_exit {K : Act → World → Prop} {id : Nat} (h : atK (Q (.exit id)) n kn w) : atK ((Exit.then K Q) (.exit id)) n kn w := h
theorem at_block_normal {id : Nat} (h : atK (Q .normal) n kn w) : atK ((Exit.inBlock id Q) .normal) n kn w := h
theorem cp_if {p : Prop} [Decidable p] {c : Operand} {x y : Code} (hc : kev kn c = some (.bool (decide p))) (ht : p → cpK P x Q n kn w) (hf : ¬ p → cpK P y Q n kn w) : cpK P (.cond c x y) Q n kn w :=
  cp_cond hc (fun h => ht (of_decide_eq_true h)) (fun h => hf (of_decide_eq_false h))
/-- what a piece of code must come to -/
def joinPost {ι : Type} (n : Nat) (knJ : ι → Kn) (inv : ι → World → Prop) : Act → World → Prop := fun a' w' => ∃ i, Knows n a' (knJ i) ∧ inv i w'
theorem cp_join {ι : Type} {c d : Code} (knJ : ι → Kn) (inv : ι → World → Prop) (h1 : cpK P c (Exit.then (joinPost n knJ inv) Q) n kn w) (h2 : ∀ i w', inv i w' → cpK P d Q n (knJ i) w') : cpK P (.seq c d) Q n kn w :=
  cp_seq fun a ha => wp_mono (h1 a ha) fun e a' w' he => by
    cases e with
    | normal => obtain ⟨i, hk, hi⟩ := he; exact h2 i w' hi a' hk
    | _ => exact he
theorem join_end {ι : Type} {knJ : ι → Kn} {inv : ι → World → Prop} (i : ι) (hk : knSub (knJ i) kn) (h : inv i w) : atK ((Exit.then (joinPost n knJ inv) Q) .normal) n kn w := fun a ha => ⟨i, ha.weaken hk, h⟩
end
section
variable {P : Program} {ops : Array Oper} {Q : Exit → Act → World → Prop} {n : Nat} {kn : Kn} {w : World} {S : World → Prop}
theorem Knows.lit {a : Act} {t : Nat} {b c : Bool} (h : Knows n a kn) (ht : kget kn t = some (.bool b)) (hb : b = c) : Knows n a ((t, .bool c) :: kn) := by
  subst hb
  refine ⟨h.size, h.defers, fun s u hu => ?_⟩
  simp only [kget] at hu
  cases hs : Nat.beq t s with
  | true =>
    rw [hs] at hu
    have := Nat.eq_of_beq_eq_true hs
    subst this
    simp at hu
    rw [← hu]
    exact h.get t _ ht
  | false => rw [hs] at hu; exact h.get s u hu
theorem wpK_splitb {rest : List Oper} {t : Nat} {b : Bool} (ht : kget kn t = some (.bool b)) (h1 : b = true → wpK P ops Q n rest ((t, .bool true) :: kn) w) (h2 : b = false → wpK P ops Q n rest ((t, .bool false) :: kn) w) : wpK P ops Q n rest kn w := fun a ha => by
  cases hb : b with
  | true => exact h1 hb a (ha.lit ht hb)
  | false => exact h2 hb a (ha.lit ht hb)
theorem wpK_split {rest : List Oper} {t : Nat} {p : Prop} [Decidable p] (ht : kget kn t = some (.bool (decide p))) (h1 : p → wpK P ops Q n rest ((t, .bool true) :: kn) w) (h2 : ¬ p → wpK P ops Q n rest ((t, .bool false) :: kn) w) : wpK P ops Q n rest kn w :=
  wpK_splitb ht (fun h => h1 (of_decide_eq_true h)) (fun h => h2 (of_decide_eq_false h))
theorem wpD_sub {tail : List Oper} : ∀ (r : List (Nat × Bool)) (kn kn' : Kn) (w : World), (∀ t u, kget kn' t = some u → kget kn t = some u) → wpD P ops Q n S tail r kn' w → wpD P ops Q n S tail r kn w
  | [], kn, kn', w, hk, h => fun a ha => h a ⟨ha.size, ha.defers, fun t u hu => ha.get t u (hk t u hu)⟩
  | (i, true) :: r, kn, kn', w, hk, h => by
    obtain ⟨o, d, v, h1, h2, h3, h4, h5⟩ := h
    refine ⟨o, d, v, h1, h2, h3, fun a ha => h4 a ⟨ha.size, ha.defers, fun t u hu => ha.get t u (hk t u hu)⟩, wpD_sub r _ _ w (fun t u hu => ?_) h5⟩
    simp only [kget] at hu ⊢
    cases hb : Nat.beq d t with
    | true => rw [hb] at hu; exact hu
    | false => rw [hb] at hu; exact hk t u hu
  | (i, false) :: r, kn, kn', w, hk, h => by
    obtain ⟨o, d, h1, h2, h3, h4⟩ := h
    refine ⟨o, d, h1, h2, h3, fun a ha => ?_⟩
    obtain ⟨h5, h6⟩ := h4 a ⟨ha.size, ha.defers, fun t u hu => ha.get t u (hk t u hu)⟩
    refine ⟨h5, Oper.wp_mono (fun a' w' h7 => ?_) h6⟩
    obtain ⟨v, e, hS, hw⟩ := h7
    refine ⟨v, e, hS, wpD_sub r _ _ w' (fun t u hu => ?_) hw⟩
    simp only [kget] at hu ⊢
    cases hb : Nat.beq d t with
    | true => rw [hb] at hu; exact hu
    | false => rw [hb] at hu; exact hk t u hu
theorem lit_sub {t : Nat} {b c : Bool} (ht : kget kn t = some (.bool b)) (hb : b = c) : ∀ s u, kget ((t, .bool c) :: kn) s = some u → kget kn s = some u := by
  subst hb
  intro s u hu
  simp only [kget] at hu
  cases hs : Nat.beq t s with
  | true =>
    rw [hs] at hu
    have := Nat.eq_of_beq_eq_true hs
    subst this
    simp at hu
    rw [← hu]
    exact ht
  | false => rw [hs] at hu; exact hu
theorem wpD_splitb {tail : List Oper} {r : List (Nat × Bool)} {t : Nat} {b : Bool} (ht : kget kn t = some (.bool b)) (h1 : b = true → wpD P ops Q n S tail r ((t, .bool true) :: kn) w) (h2 : b = false → wpD P ops Q n S tail r ((t, .bool false) :: kn) w) : wpD P ops Q n S tail r kn w := by
  cases hb : b with
  | true => exact wpD_sub r _ _ w (lit_sub ht hb) (h1 hb)
  | false => exact wpD_sub r _ _ w (lit_sub ht hb) (h2 hb)
theorem wpD_split {tail : List Oper} {r : List (Nat × Bool)} {t : Nat} {p : Prop} [Decidable p] (ht : kget kn t = some (.bool (decide p))) (h1 : p → wpD P ops Q n S tail r ((t, .bool true) :: kn) w) (h2 : ¬ p → wpD P ops Q n S tail r ((t, .bool false) :: kn) w) : wpD P ops Q n S tail r kn w :=
  wpD_splitb ht (fun h => h1 (of_decide_eq_true h)) (fun h => h2 (of_decide_eq_false h))
end
theorem kint {k : IntKind} {a b : Int} (h : a = b) : some (Value.int k a) = some (Value.int k b) := by rw [h]
theorem wrap_i64 {a : Int} (h1 : -9223372036854775808 ≤ a) (h2 : a ≤ 9223372036854775807) : IntKind.i64.wrap a = a := IntWalk.i64_in a ⟨h1, h2⟩
theorem wrap_i32 {a : Int} (h1 : -2147483648 ≤ a) (h2 : a ≤ 2147483647) : IntKind.i32.wrap a = a := IntWalk.i32_in a ⟨h1, h2⟩
theorem wrap_u64_nat (x : Nat) : IntKind.u64.wrap (x : Int) = ((x % 18446744073709551616 : Nat) : Int) := by rw [IntKind.wrap_u64]; omega
theorem wrap_u32_nat (x : Nat) : IntKind.u32.wrap (x : Int) = ((x % 4294967296 : Nat) : Int) := by rw [IntKind.wrap_u32]; omega
theorem wrap_u8_nat (x : Nat) : IntKind.u8.wrap (x : Int) = ((x % 256 : Nat) : Int) := by rw [IntKind.wrap_u8]; omega

section
variable {P : Program} {kn : Kn} {S : World → Prop} {o : Oper}
variable {t yt : TypeId} {x y : Operand} {k : IntKind} {a b : Nat}
theorem does_lss_n (ho : o.op = .binOp .lss t x y yt) (hx : kev kn x = some (.int k (a : Int))) (hy : kev kn y = some (.int k (b : Int))) : Does P S kn o (.bool (decide (a < b))) := Does.bool (does_lss ho hx hy) (by omega)
theorem does_leq_n (ho : o.op = .binOp .leq t x y yt) (hx : kev kn x = some (.int k (a : Int))) (hy : kev kn y = some (.int k (b : Int))) : Does P S kn o (.bool (decide (a ≤ b))) := Does.bool (does_leq ho hx hy) (by omega)
theorem does_gtr_n (ho : o.op = .binOp .gtr t x y yt) (hx : kev kn x = some (.int k (a : Int))) (hy : kev kn y = some (.int k (b : Int))) : Does P S kn o (.bool (decide (b < a))) := Does.bool (does_gtr ho hx hy) (by omega)
theorem does_geq_n (ho : o.op = .binOp .geq t x y yt) (hx : kev kn x = some (.int k (a : Int))) (hy : kev kn y = some (.int k (b : Int))) : Does P S kn o (.bool (decide (b ≤ a))) := Does.bool (does_geq ho hx hy) (by omega)
theorem does_eql_n (ho : o.op = .binOp .eql t x y yt) (hx : kev kn x = some (.int k (a : Int))) (hy : kev kn y = some (.int k (b : Int))) : Does P S kn o (.bool (decide (a = b))) := Does.bool (does_eql ho hx hy) (by omega)
theorem does_neq_n (ho : o.op = .binOp .neq t x y yt) (hx : kev kn x = some (.int k (a : Int))) (hy : kev kn y = some (.int k (b : Int))) : Does P S kn o (.bool (decide (a ≠ b))) := Does.bool (does_neq ho hx hy) (by omega)
theorem does_add_u64 (ho : o.op = .binOp .add t x y yt) (hx : kev kn x = some (.int .u64 (a : Int))) (hy : kev kn y = some (.int .u64 (b : Int))) : Does P S kn o (.int .u64 (((a + b) % 18446744073709551616 : Nat) : Int)) :=
  Does.int (does_add ho hx hy) (by rw [← Int.natCast_add, wrap_u64_nat])
theorem does_mul_u64 (ho : o.op = .binOp .mul t x y yt) (hx : kev kn x = some (.int .u64 (a : Int))) (hy : kev kn y = some (.int .u64 (b : Int))) : Does P S kn o (.int .u64 (((a * b) % 18446744073709551616 : Nat) : Int)) :=
  Does.int (does_mul ho hx hy) (by rw [← Int.natCast_mul, wrap_u64_nat])
theorem does_sub_u64 (ho : o.op = .binOp .sub t x y yt) (hx : kev kn x = some (.int .u64 (a : Int))) (hy : kev kn y = some (.int .u64 (b : Int))) : Does P S kn o (.int .u64 (((a + (18446744073709551616 - b % 18446744073709551616)) % 18446744073709551616 : Nat) : Int)) :=
  Does.int (does_sub ho hx hy) (by rw [IntKind.wrap_u64]; omega)
theorem does_add_u32 (ho : o.op = .binOp .add t x y yt) (hx : kev kn x = some (.int .u32 (a : Int))) (hy : kev kn y = some (.int .u32 (b : Int))) : Does P S kn o (.int .u32 (((a + b) % 4294967296 : Nat) : Int)) :=
  Does.int (does_add ho hx hy) (by rw [← Int.natCast_add, wrap_u32_nat])
theorem does_mul_u32 (ho : o.op = .binOp .mul t x y yt) (hx : kev kn x = some (.int .u32 (a : Int))) (hy : kev kn y = some (.int .u32 (b : Int))) : Does P S kn o (.int .u32 (((a * b) % 4294967296 : Nat) : Int)) :=
  Does.int (does_mul ho hx hy) (by rw [← Int.natCast_mul, wrap_u32_nat])
theorem does_sub_u32 (ho : o.op = .binOp .sub t x y yt) (hx : kev kn x = some (.int .u32 (a : Int))) (hy : kev kn y = some (.int .u32 (b : Int))) : Does P S kn o (.int .u32 (((a + (4294967296 - b % 4294967296)) % 4294967296 : Nat) : Int)) :=
  Does.int (does_sub ho hx hy) (by rw [IntKind.wrap_u32]; omega)
theorem does_add_u8 (ho : o.op = .binOp .add t x y yt) (hx : kev kn x = some (.int .u8 (a : Int))) (hy : kev kn y = some (.int .u8 (b : Int))) : Does P S kn o (.int .u8 (((a + b) % 256 : Nat) : Int)) :=
  Does.int (does_add ho hx hy) (by rw [← Int.natCast_add, wrap_u8_nat])
theorem does_sub_u8 (ho : o.op = .binOp .sub t x y yt) (hx : kev kn x = some (.int .u8 (a : Int))) (hy : kev kn y = some (.int .u8 (b : Int))) : Does P S kn o (.int .u8 (((a + (256 - b % 256)) % 256 : Nat) : Int)) :=
  Does.int (does_sub ho hx hy) (by rw [IntKind.wrap_u8]; omega)
theorem does_neg_u64 (ho : o.op = .unOp .neg t x) (hx : kev kn x = some (.int .u64 (a : Int))) : Does P S kn o (.int .u64 (((18446744073709551616 - a % 18446744073709551616) % 18446744073709551616 : Nat) : Int)) :=
  Does.int (does_neg ho hx) (by rw [IntKind.wrap_u64]; omega)
theorem wrap_le_n {k : IntKind} (hk : k = .u64 ∨ k = .u32 ∨ k = .u8) {q : Nat} {a : Nat} (h : q ≤ a) (ha : k.wrap (a : Int) = (a : Int)) : k.wrap (q : Int) = (q : Int) := by
  rcases hk with rfl | rfl | rfl
  · rw [wrap_u64_nat] at *; omega
  · rw [wrap_u32_nat] at *; omega
  · rw [wrap_u8_nat] at *; omega
theorem does_quo_u64 (ho : o.op = .binOp .quo t x y yt) (hx : kev kn x = some (.int .u64 (a : Int))) (hy : kev kn y = some (.int .u64 (b : Int))) (hb : b ≠ 0) (ha : a < 18446744073709551616) : Does P S kn o (.int .u64 ((a / b : Nat) : Int)) :=
  Does.int (does_quo ho hx hy (by omega)) (by
    rw [show Int.tdiv (a : Int) (b : Int) = ((a / b : Nat) : Int) from rfl, wrap_u64_nat, Nat.mod_eq_of_lt]
    exact Nat.lt_of_le_of_lt (Nat.div_le_self a b) ha)
theorem does_quo_u32 (ho : o.op = .binOp .quo t x y yt) (hx : kev kn x = some (.int .u32 (a : Int))) (hy : kev kn y = some (.int .u32 (b : Int))) (hb : b ≠ 0) (ha : a < 4294967296) : Does P S kn o (.int .u32 ((a / b : Nat) : Int)) :=
  Does.int (does_quo ho hx hy (by omega)) (by
    rw [show Int.tdiv (a : Int) (b : Int) = ((a / b : Nat) : Int) from rfl, wrap_u32_nat, Nat.mod_eq_of_lt]
    exact Nat.lt_of_le_of_lt (Nat.div_le_self a b) ha)
theorem does_rem_n (ho : o.op = .binOp .rem t x y yt) (hx : kev kn x = some (.int k (a : Int))) (hy : kev kn y = some (.int k (b : Int))) (hb : b ≠ 0) : Does P S kn o (.int k ((a % b : Nat) : Int)) :=
  Does.int (does_rem ho hx hy (by omega)) rfl
/-- int: a is not negative -/
theorem does_quo_p (ho : o.op = .binOp .quo t x y yt) (hx : kev kn x = some (.int .i64 (a : Int))) (hy : kev kn y = some (.int .i64 (b : Int))) (hb : b ≠ 0) (ha : a < 9223372036854775808) : Does P S kn o (.int .i64 ((a / b : Nat) : Int)) :=
  Does.int (does_quo ho hx hy (by omega)) (by
    rw [show Int.tdiv (a : Int) (b : Int) = ((a / b : Nat) : Int) from rfl]
    have : a / b ≤ a := Nat.div_le_self a b
    generalize a / b = q at *
    exact wrap_i64 (by omega) (by omega))
theorem does_rem_p (ho : o.op = .binOp .rem t x y yt) (hx : kev kn x = some (.int .i64 (a : Int))) (hy : kev kn y = some (.int .i64 (b : Int))) (hb : b ≠ 0) : Does P S kn o (.int .i64 ((a % b : Nat) : Int)) :=
  Does.int (does_rem ho hx hy (by omega)) rfl
theorem does_shr_u64 (ho : o.op = .binOp .shr t x y yt) {k' : IntKind} (hx : kev kn x = some (.int .u64 (a : Int))) (hy : kev kn y = some (.int k' (b : Int))) : Does P S kn o (.int .u64 ((a / 2 ^ (min b 64) : Nat) : Int)) :=
  Does.int (does_shr ho hx hy (by omega)) (by
    simp only [Int.toNat_natCast, IntKind.bits]
    rw [Int.fdiv_eq_ediv_of_nonneg _ (by exact Int.le_of_lt (Int.pow_pos (by decide)))]
    simp)
theorem does_shr_u32 (ho : o.op = .binOp .shr t x y yt) {k' : IntKind} (hx : kev kn x = some (.int .u32 (a : Int))) (hy : kev kn y = some (.int k' (b : Int))) : Does P S kn o (.int .u32 ((a / 2 ^ (min b 32) : Nat) : Int)) :=
  Does.int (does_shr ho hx hy (by omega)) (by
    simp only [Int.toNat_natCast, IntKind.bits]
    rw [Int.fdiv_eq_ediv_of_nonneg _ (by exact Int.le_of_lt (Int.pow_pos (by decide)))]
    simp)
theorem does_shl_u64 (ho : o.op = .binOp .shl t x y yt) {k' : IntKind} (hx : kev kn x = some (.int .u64 (a : Int))) (hy : kev kn y = some (.int k' (b : Int))) : Does P S kn o (.int .u64 (((a * 2 ^ (min b 64)) % 18446744073709551616 : Nat) : Int)) :=
  Does.int (does_shl ho hx hy (by omega)) (by
    simp only [Int.toNat_natCast, IntKind.bits]
    rw [← wrap_u64_nat]
    simp)
theorem does_shl_u32 (ho : o.op = .binOp .shl t x y yt) {k' : IntKind} (hx : kev kn x = some (.int .u32 (a : Int))) (hy : kev kn y = some (.int k' (b : Int))) : Does P S kn o (.int .u32 (((a * 2 ^ (min b 32)) % 4294967296 : Nat) : Int)) :=
  Does.int (does_shl ho hx hy (by omega)) (by
    simp only [Int.toNat_natCast, IntKind.bits]
    rw [← wrap_u32_nat]
    simp)
theorem does_shr_u64c {c pw : Nat} (ho : o.op = .binOp .shr t x y yt) {k' : IntKind} (hx : kev kn x = some (.int .u64 (a : Int))) (hy : kev kn y = some (.int k' (c : Int))) (hp : 2 ^ (min c 64) = pw) : Does P S kn o (.int .u64 ((a / pw : Nat) : Int)) := by
  subst hp
  exact does_shr_u64 ho hx hy
theorem does_and_u64 (ho : o.op = .binOp .and t x y yt) (hx : kev kn x = some (.int .u64 (a : Int))) (hy : kev kn y = some (.int .u64 (b : Int))) (ha : a < 18446744073709551616) (hb : b < 18446744073709551616) : Does P S kn o (.int .u64 ((a &&& b : Nat) : Int)) :=
  Does.int (does_and ho hx hy) (bits_and_u64_nat a b ha hb)
theorem does_or_u64 (ho : o.op = .binOp .or t x y yt) (hx : kev kn x = some (.int .u64 (a : Int))) (hy : kev kn y = some (.int .u64 (b : Int))) (ha : a < 18446744073709551616) (hb : b < 18446744073709551616) : Does P S kn o (.int .u64 ((a ||| b : Nat) : Int)) :=
  Does.int (does_or ho hx hy) (bits_or_u64_nat a b ha hb)
/-- the low 32 bits -/
theorem does_and_mask32 (ho : o.op = .binOp .and t x y yt) (hx : kev kn x = some (.int .u64 (a : Int))) (hy : kev kn y = some (.int .u64 4294967295)) (ha : a < 18446744073709551616) : Does P S kn o (.int .u64 ((a % 4294967296 : Nat) : Int)) :=
  Does.int (does_and_u64 (b := 4294967295) ho hx hy ha (by decide)) (by rw [show a &&& 4294967295 = a % 4294967296 from Nat.and_two_pow_sub_one_eq_mod a 32])
/-! conversions -/
variable {s d : TypeId}
theorem does_conv_n_u64 {k : IntKind} (ho : o.op = .convert s d x) (hs : (P.underlying s).isSome = true) (hd : P.underlying d = some (.int .u64)) (hx : kev kn x = some (.int k (a : Int))) : Does P S kn o (.int .u64 ((a % 18446744073709551616 : Nat) : Int)) :=
  Does.int (does_conv ho hs hd hx) (wrap_u64_nat a)
theorem does_conv_n_u32 {k : IntKind} (ho : o.op = .convert s d x) (hs : (P.underlying s).isSome = true) (hd : P.underlying d = some (.int .u32)) (hx : kev kn x = some (.int k (a : Int))) : Does P S kn o (.int .u32 ((a % 4294967296 : Nat) : Int)) :=
  Does.int (does_conv ho hs hd hx) (wrap_u32_nat a)
theorem does_conv_n_u8 {k : IntKind} (ho : o.op = .convert s d x) (hs : (P.underlying s).isSome = true) (hd : P.underlying d = some (.int .u8)) (hx : kev kn x = some (.int k (a : Int))) : Does P S kn o (.int .u8 ((a % 256 : Nat) : Int)) :=
  Does.int (does_conv ho hs hd hx) (wrap_u8_nat a)
theorem does_conv_n_i64 {k : IntKind} (ho : o.op = .convert s d x) (hs : (P.underlying s).isSome = true) (hd : P.underlying d = some (.int .i64)) (hx : kev kn x = some (.int k (a : Int))) (ha : a < 9223372036854775808) : Does P S kn o (.int .i64 (a : Int)) :=
  Does.int (does_conv ho hs hd hx) (wrap_i64 (by omega) (by omega))
theorem does_conv_i_u64 {k : IntKind} {z : Int} (ho : o.op = .convert s d x) (hs : (P.underlying s).isSome = true) (hd : P.underlying d = some (.int .u64)) (hx : kev kn x = some (.int k z)) : Does P S kn o (.int .u64 (((z % 18446744073709551616).toNat : Nat) : Int)) :=
  Does.int (does_conv ho hs hd hx) (by rw [IntKind.wrap_u64]; omega)
theorem does_conv_i_i64 {k : IntKind} {z : Int} (ho : o.op = .convert s d x) (hs : (P.underlying s).isSome = true) (hd : P.underlying d = some (.int .i64)) (hx : kev kn x = some (.int k z)) (h1 : -9223372036854775808 ≤ z) (h2 : z ≤ 9223372036854775807) : Does P S kn o (.int .i64 z) :=
  Does.int (does_conv ho hs hd hx) (wrap_i64 h1 h2)
end

/-! memory steps inside a region that draws its order -/
section
variable {P : Program} {ops : Array Oper} {Q : Exit → Act → World → Prop} {n : Nat} {kn : Kn} {o : Oper} {w0 w : World} {M : List Nat} {g0 g g1 : Mem} {own own1 : List (Nat × Obj)} {d i : Nat} {tail : List Oper} {r : List (Nat × Bool)}
theorem stepD_box {elem : TypeId} {x : Operand} {v : Value} {l : List Value} (hi : ops[i]? = some o) (hdst : o.dst = some d) (hg : o.guard = none) (hd : Nat.ble (d + 1) n = true) (ho : o.op = .box elem x) (hx : kev kn x = some v) (hl : cellsOf v = some l) (hst : St w0 M g0 g1 own1 w)
    (hkeep : ∀ own2 w', St w0 M g0 g1 own2 w' → List.Sublist own1 own2 → St w0 M g0 g own w')
    (h : ∀ b w', St w0 M g0 g1 (own1 ++ [(b, .cells l.toArray elem (0, 0))]) w' → wpD P ops Q n (St w0 M g0 g own) tail r ((d, .pointer (some ⟨b, 0, none⟩)) :: kn) w') : wpD P ops Q n (St w0 M g0 g own) tail ((i, false) :: r) kn w :=
  stepD_run hi hdst hg hd (run_box ho hx hl) (hkeep _ _ (hst.alloc _) (List.sublist_append_left _ _)) (h _ _ (hst.alloc _))
theorem stepD_alloc {elem : TypeId} {v : Value} {l : List Value} (hi : ops[i]? = some o) (hdst : o.dst = some d) (hg : o.guard = none) (hd : Nat.ble (d + 1) n = true) (ho : o.op = .alloc elem) (hz : zeroOf P elem = some v) (hl : cellsOf v = some l) (hst : St w0 M g0 g1 own1 w)
    (hkeep : ∀ own2 w', St w0 M g0 g1 own2 w' → List.Sublist own1 own2 → St w0 M g0 g own w')
    (h : ∀ b w', St w0 M g0 g1 (own1 ++ [(b, .cells l.toArray elem (0, 0))]) w' → wpD P ops Q n (St w0 M g0 g own) tail r ((d, .pointer (some ⟨b, 0, none⟩)) :: kn) w') : wpD P ops Q n (St w0 M g0 g own) tail ((i, false) :: r) kn w :=
  stepD_run hi hdst hg hd (run_alloc ho hz hl) (hkeep _ _ (hst.alloc _) (List.sublist_append_left _ _)) (h _ _ (hst.alloc _))
theorem stepD_buildSlice {t e : TypeId} {len : Nat} {parts : List (Nat × Operand)} {z : Value} {zl l : List Value} {sz by_ : Nat} {vs : List (Nat × Value)} (hi : ops[i]? = some o) (hdst : o.dst = some d) (hg : o.guard = none) (hd : Nat.ble (d + 1) n = true) (ho : o.op = .buildSlice t len parts.toArray) (hu : P.underlying t = some (.slice e)) (he : elemInfo P e = some (z, sz, by_))
    (hz : cellsOf z = some zl) (hzs : zl.length = sz) (hs : 0 < sz) (hlen : 0 < len) (hsm : len * sz ≤ 16777216) (hvs : kparts kn parts = some vs) (hf : fillL (fun i => some (i * sz, sz)) (repL len zl) vs = some l) (hst : St w0 M g0 g1 own1 w)
    (hkeep : ∀ own2 w', St w0 M g0 g1 own2 w' → List.Sublist own1 own2 → St w0 M g0 g own w')
    (h : ∀ b w', St w0 M g0 g1 (own1 ++ [(b, .cells l.toArray e (0, 0))]) w' → wpD P ops Q n (St w0 M g0 g own) tail r ((d, .slice (some ⟨b, 0, none⟩) len len) :: kn) w') : wpD P ops Q n (St w0 M g0 g own) tail ((i, false) :: r) kn w :=
  stepD_run hi hdst hg hd (run_buildSlice' ho hu he hz hzs hs hlen hsm hvs hf) (hkeep _ _ (hst.alloc _) (List.sublist_append_left _ _)) (h _ _ (hst.alloc _))
/-- the state at the region's start still holds behind an allocation -/
theorem keep_alloc (h0 : St w0 M g0 g own w) (hle : g.le g1) (hsub : List.Sublist own own1) : ∀ own2 w', St w0 M g0 g1 own2 w' → List.Sublist own1 own2 → St w0 M g0 g own w' :=
  fun own2 w' h hs => h.older hle (hsub.trans hs) h0.ext h0.le
end
end Go.Proofs.Vc

namespace Go.Proofs.Vc
open Go Go.RowKit
set_option linter.unusedVariables false

def uN (k : IntKind) (ws : List Nat) : List Value := ws.map fun (x : Nat) => .int k (x : Int)
theorem uN_length (k : IntKind) (ws : List Nat) : (uN k ws).length = ws.length := by simp [uN]
theorem uN_get (k : IntKind) (ws : List Nat) (j : Nat) : (uN k ws)[j]? = (ws[j]?).map fun (x : Nat) => Value.int k (x : Int) := by simp [uN]
theorem uN_set (k : IntKind) (ws : List Nat) (j x : Nat) : (uN k ws).set j (.int k (x : Int)) = uN k (ws.set j x) := by simp [uN, List.map_set]
theorem uN_one (k : IntKind) (x : Nat) : uN k [x] = [.int k (x : Int)] := rfl
theorem uN_rep (k : IntKind) (n : Nat) : repL n [.int k 0] = uN k (List.replicate n 0) := by rw [repL_one]; simp [uN]
theorem uN_arr_get {k : IntKind} {ws : List Nat} {j x : Nat} (h : ws[j]? = some x) : (uN k ws).toArray[j]? = some (.int k (x : Int)) := by simp [uN, h]
theorem splice_uN (k : IntKind) (ws : List Nat) (j x : Nat) (h : j < ws.length) : splice (uN k ws).toArray j [.int k (x : Int)] = (uN k (ws.set j x)).toArray := by
  rw [splice_one _ _ _ (by simpa [uN] using h), ← uN_set]
  simp
theorem uN_append (k : IntKind) (a b : List Nat) : uN k (a ++ b) = uN k a ++ uN k b := by simp [uN]
theorem uN_take (k : IntKind) (a : List Nat) (n : Nat) : (uN k a).take n = uN k (a.take n) := by simp [uN, List.map_take]

structure CellsN (g : Mem) (k : IntKind) (b off : Nat) (ws : List Nat) : Prop where
  at_ : ∀ (j x : Nat), ws[j]? = some x → gcell g b (off + j) = some (.int k (x : Int))
theorem CellsN.mono {g g' : Mem} {k : IntKind} {b off : Nat} {ws : List Nat} (h : CellsN g k b off ws) (hle : g.le g') : CellsN g' k b off ws := ⟨fun j x hj => gcell_le hle (h.at_ j x hj)⟩
theorem CellsN.put {g : Mem} {k : IntKind} {b : Nat} {ws : List Nat} {t : TypeId} {f : Nat × Nat} {cur : Array Value} (h : ∀ (j x : Nat), ws[j]? = some x → cur[j]? = some (.int k (x : Int))) : CellsN (gput g b (.cells cur t f)) k b 0 ws :=
  ⟨fun j x hj => by rw [Nat.zero_add, gcell_put]; exact h j x hj⟩
/-- a slice of n whole numbers -/
def SlN (g : Mem) (k : IntKind) (A : Option Addr) (n : Nat) (ws : List Nat) : Prop := ws.length = n ∧ (n = 0 ∨ ∃ b off, A = some ⟨b, off, none⟩ ∧ CellsN g k b off ws)
theorem SlN.mono {g g' : Mem} {k : IntKind} {A : Option Addr} {n : Nat} {ws : List Nat} (h : SlN g k A n ws) (hle : g.le g') : SlN g' k A n ws :=
  ⟨h.1, h.2.imp id fun ⟨b, off, e, hc⟩ => ⟨b, off, e, hc.mono hle⟩⟩
theorem SlN.nil (g : Mem) (k : IntKind) : SlN g k none 0 [] := ⟨rfl, .inl rfl⟩
theorem SlN.some_ {g : Mem} {k : IntKind} {A : Option Addr} {n : Nat} {ws : List Nat} (h : SlN g k A n ws) (hn : 0 < n) : ∃ b off, A = some ⟨b, off, none⟩ ∧ CellsN g k b off ws := by
  rcases h.2 with h0 | h0
  · omega
  · exact h0
theorem SlN.put {g : Mem} {k : IntKind} {b n : Nat} {ws : List Nat} {t : TypeId} {f : Nat × Nat} {cur : Array Value} (hl : ws.length = n) (h : ∀ (j x : Nat), ws[j]? = some x → cur[j]? = some (.int k (x : Int))) : SlN (gput g b (.cells cur t f)) k (some ⟨b, 0, none⟩) n ws :=
  ⟨hl, .inr ⟨b, 0, rfl, CellsN.put h⟩⟩
theorem SlN.put_uN {g : Mem} {k : IntKind} {b : Nat} {ws : List Nat} {t : TypeId} {f : Nat × Nat} : SlN (gput g b (.cells (uN k ws).toArray t f)) k (some ⟨b, 0, none⟩) ws.length ws :=
  SlN.put rfl fun j x h => uN_arr_get h
/-- the first m of them -/
theorem SlN.take {g : Mem} {k : IntKind} {A : Option Addr} {n m : Nat} {ws : List Nat} (h : SlN g k A n ws) (hm : m ≤ n) : SlN g k A m (ws.take m) := by
  refine ⟨by rw [List.length_take, h.1]; omega, ?_⟩
  rcases Nat.eq_zero_or_pos m with h0 | h0
  · exact .inl h0
  · obtain ⟨b, off, e, hc⟩ := h.some_ (by omega)
    refine .inr ⟨b, off, e, ⟨fun j x hj => hc.at_ j x ?_⟩⟩
    rw [List.getElem?_take] at hj
    split at hj
    · exact hj
    · cases hj

/-- base 2^64, the lowest word first -/
def val : List Nat → Nat
  | [] => 0
  | x :: r => x + 18446744073709551616 * val r
theorem val_append (a b : List Nat) : val (a ++ b) = val a + 18446744073709551616 ^ a.length * val b := by
  induction a with
  | nil => simp [val]
  | cons x r ih =>
    simp only [List.cons_append, val, ih, List.length_cons, Nat.pow_succ]
    rw [Nat.mul_add, ← Nat.add_assoc, ← Nat.mul_assoc, Nat.mul_comm (18446744073709551616 ^ r.length)]
def Words (ws : List Nat) : Prop := ∀ x ∈ ws, x < 18446744073709551616
theorem Words.nil : Words [] := fun _ h => by cases h
theorem Words.cons {x : Nat} {r : List Nat} (h : x < 18446744073709551616) (hr : Words r) : Words (x :: r) := fun y hy => by
  rcases List.mem_cons.1 hy with rfl | hy
  · exact h
  · exact hr y hy
theorem Words.append {a b : List Nat} (h : Words a) (hb : Words b) : Words (a ++ b) := fun y hy => by
  rcases List.mem_append.1 hy with hy | hy
  · exact h y hy
  · exact hb y hy
theorem Words.get {ws : List Nat} (h : Words ws) {j x : Nat} (hj : ws[j]? = some x) : x < 18446744073709551616 := h x (List.mem_of_getElem? hj)
theorem Words.set {ws : List Nat} (h : Words ws) {j x : Nat} (hx : x < 18446744073709551616) : Words (ws.set j x) := fun y hy => by
  rcases List.mem_or_eq_of_mem_set hy with hy | rfl
  · exact h y hy
  · exact hx
theorem Words.take {ws : List Nat} (h : Words ws) (n : Nat) : Words (ws.take n) := fun y hy => h y (List.mem_of_mem_take hy)
theorem Words.drop {ws : List Nat} (h : Words ws) (n : Nat) : Words (ws.drop n) := fun y hy => h y (List.mem_of_mem_drop hy)
theorem Words.rep (n : Nat) : Words (List.replicate n 0) := fun y hy => by rw [(List.mem_replicate.1 hy).2]; omega
theorem val_lt {ws : List Nat} (h : Words ws) : val ws < 18446744073709551616 ^ ws.length := by
  induction ws with
  | nil => simp [val]
  | cons x r ih =>
    have h1 := ih fun y hy => h y (List.mem_cons_of_mem _ hy)
    have h2 := h x (List.mem_cons_self ..)
    simp only [val, List.length_cons, Nat.pow_succ]
    generalize 18446744073709551616 ^ r.length = p at *
    omega
theorem val_rep (n : Nat) : val (List.replicate n 0) = 0 := by
  induction n with
  | zero => rfl
  | succ n ih => simp [List.replicate_succ, val, ih]
/-- no zero at the end -/
def Trimmed (ws : List Nat) : Prop := ws.getLast? ≠ some 0
theorem trimmed_lower {ws : List Nat} (ht : Trimmed ws) (hn : 0 < ws.length) : 18446744073709551616 ^ (ws.length - 1) ≤ val ws := by
  have h1 : ws = ws.dropLast ++ [ws.getLast (by intro e; subst e; simp at hn)] := (List.dropLast_concat_getLast _).symm
  have h2 : ws.getLast (by intro e; subst e; simp at hn) ≠ 0 := by
    intro e
    apply ht
    rw [List.getLast?_eq_some_getLast (by intro e; subst e; simp at hn), e]
  rw [h1, val_append]
  simp only [List.length_append, List.length_dropLast, List.length_singleton, val, Nat.mul_zero, Nat.add_zero]
  have h3 : ws.length - 1 + 1 - 1 = ws.length - 1 := by omega
  rw [h3]
  have h4 : 1 ≤ ws.getLast (by intro e; subst e; simp at hn) := Nat.one_le_iff_ne_zero.2 h2
  exact Nat.le_trans (Nat.le_mul_of_pos_right _ h4) (Nat.le_add_left _ _)
theorem val_pos {ws : List Nat} (ht : Trimmed ws) (hn : 0 < ws.length) : 0 < val ws := Nat.lt_of_lt_of_le (Nat.pow_pos (by decide)) (trimmed_lower ht hn)
theorem val_zero_iff {ws : List Nat} (ht : Trimmed ws) : val ws = 0 ↔ ws = [] := by
  constructor
  · intro h
    cases ws with
    | nil => rfl
    | cons x r => have := val_pos ht (by simp); omega
  · rintro rfl; rfl
theorem trimmed_len_lt {a b : List Nat} (ha : Words a) (hb : Trimmed b) (h : a.length < b.length) : val a < val b := by
  have h1 := val_lt ha
  have h2 := trimmed_lower hb (by omega)
  exact Nat.lt_of_lt_of_le (Nat.lt_of_lt_of_le h1 (Nat.pow_le_pow_right (by decide) (by omega))) h2

/-- a slice that stands for the natural number N, as the program keeps it: without zeros at the end -/
def IsNat (g : Mem) (A : Option Addr) (n : Nat) (N : Nat) : Prop := ∃ ws, SlN g .u64 A n ws ∧ Words ws ∧ Trimmed ws ∧ val ws = N
theorem IsNat.mono {g g' : Mem} {A : Option Addr} {n N : Nat} (h : IsNat g A n N) (hle : g.le g') : IsNat g' A n N :=
  let ⟨ws, h1, h2⟩ := h
  ⟨ws, h1.mono hle, h2⟩
theorem IsNat.nil (g : Mem) : IsNat g none 0 0 := ⟨[], SlN.nil g .u64, Words.nil, by simp [Trimmed], rfl⟩
theorem IsNat.zero_iff {g : Mem} {A : Option Addr} {n N : Nat} (h : IsNat g A n N) : n = 0 ↔ N = 0 := by
  obtain ⟨ws, h1, h2, h3, h4⟩ := h
  rw [← h4, val_zero_iff h3, ← h1.1]
  simp
theorem IsNat.lt {g : Mem} {A : Option Addr} {n N : Nat} (h : IsNat g A n N) : N < 18446744073709551616 ^ n := by
  obtain ⟨ws, h1, h2, h3, h4⟩ := h
  rw [← h4, ← h1.1]
  exact val_lt h2
theorem IsNat.le {g : Mem} {A : Option Addr} {n N : Nat} (h : IsNat g A n N) (hn : 0 < n) : 18446744073709551616 ^ (n - 1) ≤ N := by
  obtain ⟨ws, h1, h2, h3, h4⟩ := h
  rw [← h4, ← h1.1]
  exact trimmed_lower h3 (by rw [h1.1]; exact hn)
theorem IsNat.len {g : Mem} {A : Option Addr} {n N k : Nat} (h : IsNat g A n N) (hk : N < 18446744073709551616 ^ k) : n ≤ k := by
  rcases Nat.eq_zero_or_pos n with h0 | h0
  · omega
  · have h1 := h.le h0
    have h2 : n - 1 < k := (Nat.pow_lt_pow_iff_right (by decide)).1 (Nat.lt_of_le_of_lt h1 hk)
    omega
/-- numbers that a machine can hold -/
def Fits (N : Nat) : Prop := N < 18446744073709551616 ^ 1099511627776
theorem IsNat.room {g : Mem} {A : Option Addr} {n N : Nat} (h : IsNat g A n N) (hk : Fits N) : n ≤ 1099511627776 := h.len hk
theorem Fits.le {a b : Nat} (h : Fits b) (hab : a ≤ b) : Fits a := Nat.lt_of_le_of_lt hab h
theorem getLast_take {ws : List Nat} {m : Nat} (h : m ≤ ws.length) (hm : 0 < m) : (ws.take m).getLast? = ws[m - 1]? := by
  rw [List.getLast?_eq_getElem?, List.length_take, Nat.min_eq_left h, List.getElem?_take, if_pos (by omega)]
theorem take_succ_get {ws : List Nat} {m x : Nat} (h : ws[m]? = some x) : ws.take (m + 1) = ws.take m ++ [x] := by
  rw [List.take_add_one, h]
  rfl
theorem val_take_zero {ws : List Nat} {m : Nat} (hm : 0 < m) (h : ws[m - 1]? = some 0) : val (ws.take (m - 1)) = val (ws.take m) := by
  have h1 := take_succ_get h
  rw [Nat.sub_add_cancel hm] at h1
  rw [h1, val_append]
  simp [val]
theorem get_of_lt {ws : List Nat} {j : Nat} (h : j < ws.length) : ∃ x, ws[j]? = some x := ⟨ws[j], by simp [h]⟩
/-- a row of words without the zeros at its end -/
theorem IsNat.of_take {g : Mem} {A : Option Addr} {n m : Nat} {ws : List Nat} (hs : SlN g .u64 A n ws) (hw : Words ws) (hm : m ≤ n) (hlast : m = 0 ∨ ∃ x, ws[m - 1]? = some x ∧ x ≠ 0) : IsNat g A m (val (ws.take m)) := by
  refine ⟨ws.take m, hs.take hm, hw.take m, ?_, rfl⟩
  unfold Trimmed
  rcases hlast with rfl | ⟨x, hx, hne⟩
  · simp
  · rcases Nat.eq_zero_or_pos m with h0 | h0
    · subst h0; simp
    · rw [getLast_take (by rw [hs.1]; exact hm) h0, hx]
      simpa using hne
end Go.Proofs.Vc

namespace Go.Proofs.Vc
open Go Go.RowKit
set_option linter.unusedVariables false
set_option linter.unusedSimpArgs false
set_option linter.unusedSectionVars false
section
variable {P : Program} {ops : Array Oper} {Q : Exit → Act → World → Prop} {n : Nat} {kn : Kn} {o : Oper} {rest : List Oper} {w0 w : World} {M : List Nat} {g0 g : Mem} {own own' : List (Nat × Obj)} {d : Nat}
theorem St.perm (h : St w0 M g0 g own w) (hp : List.Perm own own') : St w0 M g0 g own' w :=
  ⟨h.os, h.tape, h.output, h.size, h.block, h.agree, h.le, h.ext, fun p hm => h.owns p (hp.mem_iff.2 hm), (hp.map Prod.fst).nodup_iff.1 h.nodup⟩
/-- an own block as a row -/
theorem Row.of_own {e : TypeId} {sz m cap b : Nat} {cur : Array Value} {xs : List Value} (h : St w0 M g0 g (own ++ [(b, .cells cur e (0, 0))]) w) (hb : w0.heap.size ≤ b) (hm : m ≤ cap) (hc : cap ≤ 281474976710656) (hs : cur.size = cap * sz) (ht : cur.toList.take (m * sz) = xs) (hl : xs.length = m * sz) :
    Row w0 M g0 g own e sz (.slice (some ⟨b, 0, none⟩) m cap) m xs w := ⟨hl, .inr ⟨b, cap, cur, rfl, hm, by simp only [maxLen]; omega, hs, ht, hb, h⟩⟩
theorem St.own_new (h : St w0 [] g0 g own w) {p : Nat × Obj} (hp : p ∈ own) : w0.heap.size ≤ p.1 := by
  have := (h.owns p hp).2.2
  simpa using this
theorem stepK_append {t e : TypeId} {x y : Operand} {z : Value} {sz by_ m k c : Nat} {v : Value} {xs news : List Value} {ad : Addr} (hdst : o.dst = some d) (hg : o.guard = none) (hd : Nat.ble (d + 1) n = true)
    (ho : o.op = .call { callee := .builtin .append, args := #[x, y], argTypes := #[t, t] }) (hu : P.underlying t = some (.slice e)) (he : elemInfo P e = some (z, sz, by_)) (hzs : z.cells.size = sz) (hs : 0 < sz)
    (hx : kev kn x = some v) (hy : kev kn y = some (.slice (some ad) k c)) (hrow : Row w0 M g0 g own e sz v m xs w) (hl : news.length = k * sz) (hnews : ∀ j u, news[j]? = some u → w.cell? (ad.add j) = some u) (h1 : ∀ u ∈ news, u.oneCell' = true)
    (hb : (m + k) * by_ ≤ 140737488355328) (hm : m + k ≤ 140737488355328)
    (h : ∀ v' w', Row w0 M g0 g own e sz v' (m + k) (xs ++ news) w' → wpK P ops Q n rest ((d, v') :: kn) w') : wpK P ops Q n (o :: rest) kn w := by
  obtain ⟨v', w', hr, hrow'⟩ := run_append_row (P := P) (ty := o.type) hu he hzs hs hrow ad k c news hl hnews h1 hb hm
  refine stepK_run hdst hg hd (v := v') (w' := w') (fun ρ hρ => ?_) (h v' w' hrow')
  have h2 : ρ x = v := hρ x v hx
  have h3 : ρ y = .slice (some ad) k c := hρ y _ hy
  simp only [execOp, ho, resolve, invoke, builtin, Sem.run_bind, Sem.run_pure, Result.andThen_ok, List.map_toArray, List.map_cons, List.map_nil, h2, h3, hr]
/-- a slice of values, flat: n elements of sz cells, the cells xs -/
structure SlV (g : Mem) (A : Option Addr) (n : Nat) (xs : List Value) : Prop where
  cells : n = 0 ∨ ∃ b off, A = some ⟨b, off, none⟩ ∧ ∀ (j : Nat) u, xs[j]? = some u → gcell g b (off + j) = some u
theorem SlV.mono {g g' : Mem} {A : Option Addr} {n : Nat} {xs : List Value} (h : SlV g A n xs) (hle : g.le g') : SlV g' A n xs :=
  ⟨h.cells.imp id fun ⟨b, off, e, hc⟩ => ⟨b, off, e, fun j u hj => gcell_le hle (hc j u hj)⟩⟩
/-- a row is let go -/
theorem Row.publish {e : TypeId} {sz m : Nat} {v : Value} {xs : List Value} (h : Row w0 [] g0 g own e sz v m xs w) : ∃ g' A c, v = .slice A m c ∧ m ≤ c ∧ St w0 [] g0 g' own w ∧ g.le g' ∧ SlV g' A m xs := by
  rcases h.2 with ⟨h1, h2, h3⟩ | ⟨b, cap, cur, h1, h2, h3, h4, h5, h6, h7⟩
  · subst h2
    exact ⟨g, none, 0, h1, Nat.le_refl _, h3, Mem.le.refl g, ⟨.inl rfl⟩⟩
  · have hk : (own ++ [(b, Obj.cells cur e (0, 0))])[own.length]? = some (b, .cells cur e (0, 0)) := by simp
    obtain ⟨h8, h9⟩ := h7.publish own.length hk
    have he : (own ++ [(b, Obj.cells cur e (0, 0))]).eraseIdx own.length = own := by
      rw [List.eraseIdx_append_of_length_le (Nat.le_refl _)]
      simp
    rw [he] at h8
    refine ⟨_, _, cap, h1, h2, h8, h9, ⟨.inr ⟨b, 0, rfl, fun j u hj => ?_⟩⟩⟩
    rw [Nat.zero_add, gcell_put]
    rw [← h5, List.getElem?_take] at hj
    split at hj
    · simpa using hj
    · cases hj
theorem SlV.toN {g : Mem} {A : Option Addr} {n : Nat} {k : IntKind} {ws : List Nat} (h : SlV g A n (uN k ws)) (hl : ws.length = n) : SlN g k A n ws :=
  ⟨hl, h.cells.imp id fun ⟨b, off, e, hc⟩ => ⟨b, off, e, ⟨fun j x hj => hc j _ (by rw [uN_get, hj]; rfl)⟩⟩⟩
end
end Go.Proofs.Vc

namespace Go.Proofs.Vc
set_option linter.unusedVariables false
theorem val_take_succ {ws : List Nat} {i x : Nat} (h : ws[i]? = some x) : val (ws.take (i + 1)) = val (ws.take i) + 18446744073709551616 ^ i * x := by
  have hl : i < ws.length := by
    rcases Nat.lt_or_ge i ws.length with h' | h'
    · exact h'
    · rw [List.getElem?_eq_none h'] at h; cases h
  rw [take_succ_get h, val_append]
  simp only [val, List.length_take, Nat.min_eq_left (Nat.le_of_lt hl), Nat.mul_zero, Nat.add_zero]
theorem val_take_past {ws : List Nat} {i : Nat} (h : ws.length ≤ i) : val (ws.take (i + 1)) = val (ws.take i) := by
  rw [List.take_of_length_le h, List.take_of_length_le (by omega)]
theorem take_set_le {ws : List Nat} {i z : Nat} : (ws.set i z).take i = ws.take i := by
  rw [List.take_set]
  rw [List.set_eq_of_length_le (by rw [List.length_take]; omega)]
theorem val_take_set {ws : List Nat} {i z : Nat} (h : i < ws.length) : val ((ws.set i z).take (i + 1)) = val (ws.take i) + 18446744073709551616 ^ i * z := by
  rw [val_take_succ (x := z) (by rw [List.getElem?_set_self h]), take_set_le]
theorem val_all {ws : List Nat} {n : Nat} (h : ws.length ≤ n) : val (ws.take n) = val ws := by rw [List.take_of_length_le h]
theorem val_split (ws : List Nat) (k : Nat) (h : k ≤ ws.length) : val ws = val (ws.take k) + 18446744073709551616 ^ k * val (ws.drop k) := by
  have h1 := List.take_append_drop k ws
  rw [← h1, val_append, List.length_take, Nat.min_eq_left h, h1]
theorem drop_cons_get {ws : List Nat} {k x : Nat} (h : ws[k]? = some x) : ws.drop k = x :: ws.drop (k + 1) := by
  have hl : k < ws.length := by
    rcases Nat.lt_or_ge k ws.length with h' | h'
    · exact h'
    · rw [List.getElem?_eq_none h'] at h; cases h
  have : ws[k] = x := by
    rw [List.getElem?_eq_getElem hl] at h
    simpa using h
  rw [List.drop_eq_getElem_cons hl, this]

/-- -1, 0 or 1 -/
def cmpN (a b : Nat) : Int := if a < b then -1 else if a = b then 0 else 1
theorem cmpN_lt {a b : Nat} (h : a < b) : cmpN a b = -1 := by simp [cmpN, h]
theorem cmpN_gt {a b : Nat} (h : b < a) : cmpN a b = 1 := by unfold cmpN; rw [if_neg (by omega), if_neg (by omega)]
theorem cmpN_eq {a b : Nat} (h : a = b) : cmpN a b = 0 := by unfold cmpN; rw [if_neg (by omega), if_pos h]
/-- the words above k are alike, those at k are x and y -/
theorem words_lt {xs ys : List Nat} {k x y : Nat} (hl : xs.length = ys.length) (hx : Words xs) (hxk : xs[k]? = some x) (hyk : ys[k]? = some y) (hd : xs.drop (k + 1) = ys.drop (k + 1)) (h : x < y) : val xs < val ys := by
  have hk : k < xs.length := by
    rcases Nat.lt_or_ge k xs.length with h' | h'
    · exact h'
    · rw [List.getElem?_eq_none h'] at hxk; cases hxk
  rw [val_split xs k (by omega), val_split ys k (by omega), drop_cons_get hxk, drop_cons_get hyk, hd]
  have h1 := val_lt (hx.take k)
  rw [List.length_take, Nat.min_eq_left (by omega)] at h1
  simp only [val]
  generalize 18446744073709551616 ^ k = p at *
  generalize val (ys.drop (k + 1)) = r
  have h2 : p * (x + 18446744073709551616 * r) + p ≤ p * (y + 18446744073709551616 * r) := by
    rw [← Nat.mul_succ]
    exact Nat.mul_le_mul_left _ (by omega)
  omega
theorem sum_step {i x y c A X Y p : Nat} (h : A + c * p = X + Y) : A + p * ((x + y + c) % 18446744073709551616) + (x + y + c) / 18446744073709551616 * (p * 18446744073709551616) = X + p * x + (Y + p * y) := by
  have h1 := Nat.mod_add_div (x + y + c) 18446744073709551616
  generalize (x + y + c) % 18446744073709551616 = z at *
  generalize (x + y + c) / 18446744073709551616 = q at *
  have h2 : p * z + q * (p * 18446744073709551616) = p * (z + 18446744073709551616 * q) := by grind
  have h3 : p * (x + y + c) = p * x + p * y + c * p := by grind
  rw [Nat.add_assoc, h2, h1, h3]
  omega
theorem less_step {x y c A X Y p : Nat} (hx : x < 18446744073709551616) (hy : y < 18446744073709551616) (hc : c ≤ 1) (h : A + Y = X + c * p) :
    A + p * ((x + 18446744073709551616 - y - c) % 18446744073709551616) + (Y + p * y) = X + p * x + (if x < y + c then 1 else 0) * (p * 18446744073709551616) := by
  by_cases hlt : x < y + c
  · rw [if_pos hlt, Nat.mod_eq_of_lt (by omega)]
    have h1 : x + 18446744073709551616 - y - c + y + c = x + 18446744073709551616 := by omega
    generalize x + 18446744073709551616 - y - c = z at *
    have h2 : p * z + p * y + c * p = p * x + p * 18446744073709551616 := by
      have : p * z + p * y + c * p = p * (z + y + c) := by grind
      rw [this, h1]
      grind
    omega
  · rw [if_neg hlt]
    have h0 : (x + 18446744073709551616 - y - c) % 18446744073709551616 = x - y - c := by omega
    rw [h0]
    have h1 : x - y - c + y + c = x := by omega
    generalize x - y - c = z at *
    have h2 : p * z + p * y + c * p = p * x := by
      have : p * z + p * y + c * p = p * (z + y + c) := by grind
      rw [this, h1]
    omega
theorem pow_succ64 (i : Nat) : 18446744073709551616 ^ (i + 1) = 18446744073709551616 ^ i * 18446744073709551616 := Nat.pow_succ ..
theorem trimmed_append_one {ws : List Nat} {c : Nat} (hc : c ≠ 0) : Trimmed (ws ++ [c]) := by simp [Trimmed, hc]
theorem trimmed_of_ge {ws : List Nat} {n : Nat} (hw : Words ws) (hl : ws.length = n) (h : n = 0 ∨ 18446744073709551616 ^ (n - 1) ≤ val ws) : Trimmed ws := by
  intro hlast
  rcases h with h | h
  · subst h
    rw [List.length_eq_zero_iff.1 hl] at hlast
    simp at hlast
  · have hn : 0 < ws.length := by
      rcases Nat.eq_zero_or_pos ws.length with h0 | h0
      · rw [List.length_eq_zero_iff.1 h0] at hlast; simp at hlast
      · exact h0
    rw [List.getLast?_eq_getElem?] at hlast
    have h1 := val_split ws (ws.length - 1) (by omega)
    rw [drop_cons_get hlast, show ws.length - 1 + 1 = ws.length by omega, List.drop_length] at h1
    have h2 := val_lt (hw.take (ws.length - 1))
    rw [List.length_take, Nat.min_eq_left (by omega)] at h2
    simp only [val, Nat.mul_zero, Nat.add_zero] at h1
    rw [hl] at h1 h2
    omega
end Go.Proofs.Vc
namespace Go.Proofs.Vc
theorem prod_step {x y o c : Nat} (hx : x < 18446744073709551616) (hy : y < 18446744073709551616) (ho : o < 18446744073709551616) (hc : c < 18446744073709551616) :
    ((x * y % 18446744073709551616 + o + 0) % 18446744073709551616 + c + 0) % 18446744073709551616 +
      ((x * y / 18446744073709551616 + (x * y % 18446744073709551616 + o + 0) / 18446744073709551616) % 18446744073709551616 + ((x * y % 18446744073709551616 + o + 0) % 18446744073709551616 + c + 0) / 18446744073709551616) % 18446744073709551616 * 18446744073709551616 = x * y + o + c := by
  have h1 : x * y ≤ 18446744073709551615 * 18446744073709551615 := Nat.mul_le_mul (by omega) (by omega)
  generalize x * y = p at *
  omega
theorem mul64_nat (x y : Nat) (hx : x < 18446744073709551616) (hy : y < 18446744073709551616) :
    (((x / 4294967296) * (y / 4294967296) % 18446744073709551616 + ((x / 4294967296) * (y % 4294967296) % 18446744073709551616 + (x % 4294967296) * (y % 4294967296) % 18446744073709551616 / 4294967296) % 18446744073709551616 / 4294967296) % 18446744073709551616 +
      (((x / 4294967296) * (y % 4294967296) % 18446744073709551616 + (x % 4294967296) * (y % 4294967296) % 18446744073709551616 / 4294967296) % 18446744073709551616 % 4294967296 + (x % 4294967296) * (y / 4294967296) % 18446744073709551616) % 18446744073709551616 / 4294967296) % 18446744073709551616 = x * y / 18446744073709551616 := by
  have ex : x = x / 4294967296 * 4294967296 + x % 4294967296 := by omega
  have ey : y = y / 4294967296 * 4294967296 + y % 4294967296 := by omega
  have e : x * y = (x / 4294967296) * (y / 4294967296) * 18446744073709551616 + ((x / 4294967296) * (y % 4294967296) + (x % 4294967296) * (y / 4294967296)) * 4294967296 + (x % 4294967296) * (y % 4294967296) := by
    have : x * y = (x / 4294967296 * 4294967296 + x % 4294967296) * (y / 4294967296 * 4294967296 + y % 4294967296) := by rw [← ex, ← ey]
    rw [this]
    grind
  rw [e]
  have b : ∀ {a b : Nat}, a < 4294967296 → b < 4294967296 → a * b ≤ 4294967295 * 4294967295 := fun h1 h2 => Nat.mul_le_mul (by omega) (by omega)
  have b1 := b (show x / 4294967296 < 4294967296 by omega) (show y / 4294967296 < 4294967296 by omega)
  have b2 := b (show x / 4294967296 < 4294967296 by omega) (show y % 4294967296 < 4294967296 by omega)
  have b3 := b (show x % 4294967296 < 4294967296 by omega) (show y / 4294967296 < 4294967296 by omega)
  have b4 := b (show x % 4294967296 < 4294967296 by omega) (show y % 4294967296 < 4294967296 by omega)
  generalize (x / 4294967296) * (y / 4294967296) = p11 at *
  generalize (x / 4294967296) * (y % 4294967296) = p10 at *
  generalize (x % 4294967296) * (y / 4294967296) = p01 at *
  generalize (x % 4294967296) * (y % 4294967296) = p00 at *
  omega
theorem val_set {ws : List Nat} {j L z old : Nat} (hj : ws[j]? = some old) (h1 : j < L) (h2 : L ≤ ws.length) : val ((ws.set j z).take L) + 18446744073709551616 ^ j * old = val (ws.take L) + 18446744073709551616 ^ j * z := by
  have e1 := val_split (ws.take L) j (by rw [List.length_take]; omega)
  have e2 := val_split ((ws.set j z).take L) j (by rw [List.length_take, List.length_set]; omega)
  have d1 : (ws.take L).drop j = old :: (ws.take L).drop (j + 1) := drop_cons_get (by rw [List.getElem?_take, if_pos h1]; exact hj)
  have d2 : ((ws.set j z).take L).drop j = z :: ((ws.set j z).take L).drop (j + 1) := drop_cons_get (by rw [List.getElem?_take, if_pos h1, List.getElem?_set_self (by omega)])
  have d3 : ((ws.set j z).take L).drop (j + 1) = (ws.take L).drop (j + 1) := by
    apply List.ext_getElem?
    intro i
    rw [List.getElem?_drop, List.getElem?_drop, List.getElem?_take, List.getElem?_take]
    split
    · rw [List.getElem?_set_ne (by omega)]
    · rfl
  have t1 : (ws.take L).take j = ws.take j := by rw [List.take_take, Nat.min_eq_left (by omega)]
  have t2 : ((ws.set j z).take L).take j = ws.take j := by rw [List.take_take, Nat.min_eq_left (by omega), take_set_le]
  rw [e1, e2, d1, d2, d3, t1, t2]
  simp only [val]
  grind
theorem product_step {V V' W x y z q old cy Y : Nat} {i k : Nat} (hvs : V' + 18446744073709551616 ^ (i + k) * old = V + 18446744073709551616 ^ (i + k) * z) (hps : z + q * 18446744073709551616 = x * y + old + cy)
    (hv : V + cy * 18446744073709551616 ^ (i + k) = W + x * 18446744073709551616 ^ i * Y) : V' + q * 18446744073709551616 ^ (i + (k + 1)) = W + x * 18446744073709551616 ^ i * (Y + 18446744073709551616 ^ k * y) := by
  have e1 : 18446744073709551616 ^ (i + (k + 1)) = 18446744073709551616 ^ (i + k) * 18446744073709551616 := by rw [← Nat.add_assoc, Nat.pow_succ]
  have e2 : 18446744073709551616 ^ (i + k) = 18446744073709551616 ^ i * 18446744073709551616 ^ k := Nat.pow_add ..
  rw [e1]
  have h1 : 18446744073709551616 ^ (i + k) * (z + q * 18446744073709551616) = 18446744073709551616 ^ (i + k) * (x * y + old + cy) := by rw [hps]
  have h2 : x * 18446744073709551616 ^ i * (Y + 18446744073709551616 ^ k * y) = x * 18446744073709551616 ^ i * Y + 18446744073709551616 ^ (i + k) * (x * y) := by
    rw [e2]
    generalize 18446744073709551616 ^ i = a
    generalize 18446744073709551616 ^ k = b
    grind
  rw [h2]
  generalize 18446744073709551616 ^ (i + k) = e at *
  generalize x * 18446744073709551616 ^ i * Y = r at *
  generalize x * y = xy at *
  grind
end Go.Proofs.Vc

namespace Go.Proofs.Vc
open Go
set_option linter.unusedVariables false
theorem bitLen_le64 {x : Nat} (h : x < 18446744073709551616) : bitLen x ≤ 64 := by
  have h1 := bitLen_spec x
  rcases Nat.eq_zero_or_pos x with h0 | h0
  · subst h0; simp [bitLen]
  · have h2 := h1.2 (by omega)
    have h3 : 2 ^ (bitLen x - 1) < 2 ^ 64 := Nat.lt_of_le_of_lt h2 (by simpa using h)
    have := (Nat.pow_lt_pow_iff_right (by decide : 1 < 2)).1 h3
    omega
theorem bitLen_pos {x : Nat} (h : 0 < x) : 0 < bitLen x := by
  unfold bitLen
  rw [if_neg (by omega)]
  omega
theorem norm_shift {y : Nat} (h0 : 0 < y) (hy : y < 18446744073709551616) : 9223372036854775808 ≤ y * 2 ^ (64 - bitLen y) ∧ y * 2 ^ (64 - bitLen y) < 18446744073709551616 := by
  have h1 := bitLen_spec y
  have h2 := bitLen_le64 hy
  have h3 := bitLen_pos h0
  have e1 : 2 ^ (bitLen y - 1) * 2 ^ (64 - bitLen y) = 9223372036854775808 := by
    rw [← Nat.pow_add, show bitLen y - 1 + (64 - bitLen y) = 63 by omega]
  have e2 : 2 ^ bitLen y * 2 ^ (64 - bitLen y) = 18446744073709551616 := by
    rw [← Nat.pow_add, show bitLen y + (64 - bitLen y) = 64 by omega]
  rw [← e1, ← e2]
  exact ⟨Nat.mul_le_mul_right _ (h1.2 (by omega)), Nat.mul_lt_mul_of_pos_right h1.1 (Nat.pow_pos (by decide))⟩
theorem or_shift {a b s : Nat} (hb : b < 2 ^ s) : a * 2 ^ s ||| b = a * 2 ^ s + b := by
  rw [Nat.mul_comm, ← Nat.two_pow_add_eq_or_of_lt hb]
/-- a digit of the quotient: where the guess may stop -/
theorem knuth_stop {q r u y1 y0 d : Nat} (he : q * y1 + r = u) (hq : (u * 4294967296 + d) / (y1 * 4294967296 + y0) ≤ q) (hy : 0 < y1 * 4294967296 + y0) (h : q * y0 ≤ 4294967296 * r + d) : q = (u * 4294967296 + d) / (y1 * 4294967296 + y0) := by
  refine Nat.le_antisymm ((Nat.le_div_iff_mul_le hy).2 ?_) hq
  have e1 : q * (y1 * 4294967296 + y0) = q * y1 * 4294967296 + q * y0 := by grind
  rw [e1, ← he]
  generalize q * y1 = p at *
  omega
theorem knuth_stop2 {q r u y1 y0 d : Nat} (he : q * y1 + r = u) (hq : (u * 4294967296 + d) / (y1 * 4294967296 + y0) ≤ q) (hy : 0 < y1) (h0 : y0 < 4294967296) (hu : u < y1 * 4294967296 + y0) (h : 4294967296 ≤ r) : q = (u * 4294967296 + d) / (y1 * 4294967296 + y0) := by
  refine knuth_stop he hq (by omega) ?_
  have hq2 : q < 4294967296 := by
    have h1 : q * y1 < y1 * 4294967296 := by omega
    rw [Nat.mul_comm y1] at h1
    exact Nat.lt_of_mul_lt_mul_right h1
  have h2 : q * y0 ≤ 4294967296 * 4294967296 := Nat.mul_le_mul (by omega) (by omega)
  omega
theorem knuth_down {q u y1 y0 d r : Nat} (he : q * y1 + r = u) (hd : d < 4294967296) (hu : u < y1 * 4294967296 + y0) (hq : (u * 4294967296 + d) / (y1 * 4294967296 + y0) ≤ q) (h : 4294967296 ≤ q ∨ 4294967296 * r + d < q * y0) : (u * 4294967296 + d) / (y1 * 4294967296 + y0) ≤ q - 1 ∧ 0 < q := by
  have hlt : (u * 4294967296 + d) / (y1 * 4294967296 + y0) < q := by
    rcases h with h | h
    · refine Nat.lt_of_lt_of_le ((Nat.div_lt_iff_lt_mul (by omega)).2 ?_) h
      omega
    · refine (Nat.div_lt_iff_lt_mul (by omega)).2 ?_
      have e1 : q * (y1 * 4294967296 + y0) = q * y1 * 4294967296 + q * y0 := by grind
      rw [e1, ← he]
      generalize q * y1 = p at *
      omega
  generalize (u * 4294967296 + d) / (y1 * 4294967296 + y0) = Q at *
  omega
theorem knuth_start {u y1 y0 d : Nat} (hy1 : 0 < y1) (hd : d < 4294967296) : (u * 4294967296 + d) / (y1 * 4294967296 + y0) ≤ u / y1 := by
  rw [Nat.le_div_iff_mul_le hy1]
  have h1 := Nat.div_mul_le_self (u * 4294967296 + d) (y1 * 4294967296 + y0)
  generalize (u * 4294967296 + d) / (y1 * 4294967296 + y0) = q at *
  have e1 : q * (y1 * 4294967296 + y0) = q * y1 * 4294967296 + q * y0 := by grind
  rw [e1] at h1
  generalize q * y1 = p at *
  omega
theorem rest_lin {a d p r Y : Nat} (h1 : p + r = a + d) (h2 : r < Y) (hY : Y ≤ 18446744073709551616) : ((a % 18446744073709551616 + d) % 18446744073709551616 + (18446744073709551616 - (p % 18446744073709551616) % 18446744073709551616)) % 18446744073709551616 = r := by omega
/-- what is left behind a digit -/
theorem knuth_rest {u d Y q : Nat} (hY : Y ≤ 18446744073709551616) (hp : 0 < Y) (hq : q = (u * 4294967296 + d) / Y) : ((u * 4294967296 % 18446744073709551616 + d) % 18446744073709551616 + (18446744073709551616 - (q * Y % 18446744073709551616) % 18446744073709551616)) % 18446744073709551616 = (u * 4294967296 + d) % Y := by
  have h1 := Nat.div_add_mod (u * 4294967296 + d) Y
  rw [← hq, Nat.mul_comm Y] at h1
  exact rest_lin h1 (Nat.mod_lt _ hp) hY
theorem div_two {hi lo s u t : Nat} (hs : s ≤ 64) (hu : u = hi * 2 ^ s + lo / 2 ^ (64 - s)) (ht : t = lo * 2 ^ s % 18446744073709551616) (hlo : lo < 18446744073709551616) : u * 18446744073709551616 + t = (hi * 18446744073709551616 + lo) * 2 ^ s := by
  have e : 2 ^ s * 2 ^ (64 - s) = 18446744073709551616 := by rw [← Nat.pow_add, show s + (64 - s) = 64 by omega]
  have h1 := Nat.div_add_mod lo (2 ^ (64 - s))
  have h2 : lo * 2 ^ s % 18446744073709551616 = lo % 2 ^ (64 - s) * 2 ^ s := by
    rw [← e, Nat.mul_comm (2 ^ s) (2 ^ (64 - s)), Nat.mul_mod_mul_right]
  rw [hu, ht, h2]
  generalize lo / 2 ^ (64 - s) = a at *
  generalize lo % 2 ^ (64 - s) = b at *
  rw [← h1]
  generalize 2 ^ (64 - s) = p at *
  generalize 2 ^ s = m at *
  rw [← e]
  grind
theorem two_digits_lin {u th tl Y q1 q0 r1 r2 : Nat} (e1 : Y * q1 + r1 = u * 4294967296 + th) (e2 : Y * q0 + r2 = r1 * 4294967296 + tl) : u * 18446744073709551616 + (th * 4294967296 + tl) = Y * (q1 * 4294967296 + q0) + r2 := by
  have : Y * (q1 * 4294967296 + q0) = Y * q1 * 4294967296 + Y * q0 := by grind
  rw [this]
  generalize Y * q1 = a at *
  generalize Y * q0 = b at *
  omega
theorem div_two_digits {u t Y q1 q0 : Nat} (hY : 0 < Y) (h1 : q1 = (u * 4294967296 + t / 4294967296) / Y) (h0 : q0 = ((u * 4294967296 + t / 4294967296) % Y * 4294967296 + t % 4294967296) / Y) :
    q1 * 4294967296 + q0 = (u * 18446744073709551616 + t) / Y ∧ ((u * 4294967296 + t / 4294967296) % Y * 4294967296 + t % 4294967296) % Y = (u * 18446744073709551616 + t) % Y := by
  have e1 := Nat.div_add_mod (u * 4294967296 + t / 4294967296) Y
  rw [← h1] at e1
  have e2 := Nat.div_add_mod ((u * 4294967296 + t / 4294967296) % Y * 4294967296 + t % 4294967296) Y
  rw [← h0] at e2
  have l2 : ((u * 4294967296 + t / 4294967296) % Y * 4294967296 + t % 4294967296) % Y < Y := Nat.mod_lt _ hY
  have e3 := two_digits_lin e1 e2
  rw [Nat.div_add_mod'] at e3
  rw [e3]
  refine ⟨?_, ?_⟩
  · rw [Nat.mul_add_div hY, Nat.div_eq_of_lt l2, Nat.add_zero]
  · rw [Nat.mul_add_mod, Nat.mod_eq_of_lt l2]
end Go.Proofs.Vc
namespace Go.Proofs.Vc
open Go
theorem knuth_keep {q y1 r u : Nat} (he : q * y1 + r = u) (hq : 0 < q) : (q - 1) * y1 + (r + y1) = u := by
  obtain ⟨p, rfl⟩ : ∃ p, q = p + 1 := ⟨q - 1, by omega⟩
  rw [← he, Nat.add_sub_cancel, Nat.add_mul]
  omega
theorem div_left {u y1 : Nat} (hu : u < 18446744073709551616) : (u + (18446744073709551616 - (u / y1 * y1 % 18446744073709551616) % 18446744073709551616)) % 18446744073709551616 = u % y1 := by
  have h1 := Nat.div_add_mod' u y1
  have h2 := Nat.div_mul_le_self u y1
  generalize u / y1 * y1 = p at *
  generalize u % y1 = r at *
  omega
theorem div_norm {hi lo y s Y u : Nat} (hhi : hi < y) (hlo : lo < 18446744073709551616) (hs : s ≤ 64) (hY : Y = y * 2 ^ s) (hu : u = hi * 2 ^ s + lo / 2 ^ (64 - s)) (hYl : Y < 18446744073709551616) : hi * 2 ^ s < 18446744073709551616 ∧ lo / 2 ^ (64 - s) < 2 ^ s ∧ u < Y := by
  have e : 2 ^ s * 2 ^ (64 - s) = 18446744073709551616 := by rw [← Nat.pow_add, show s + (64 - s) = 64 by omega]
  have h1 : lo / 2 ^ (64 - s) < 2 ^ s := (Nat.div_lt_iff_lt_mul (Nat.pow_pos (by decide))).2 (by rw [e]; exact hlo)
  have h2 : hi * 2 ^ s + 2 ^ s ≤ y * 2 ^ s := by
    rw [← Nat.succ_mul]
    exact Nat.mul_le_mul_right _ hhi
  have h3 : 0 < 2 ^ s := Nat.pow_pos (by decide)
  rw [hY] at hYl
  rw [hu, hY]
  generalize lo / 2 ^ (64 - s) = a at *
  generalize y * 2 ^ s = b at *
  generalize hi * 2 ^ s = c at *
  generalize 2 ^ s = p at *
  omega
theorem bitLen_aux : ∀ (f x : Nat), x < 2 ^ f → Lib.bitLenAux f x = bitLen x
  | 0, x, h => by
    have : x = 0 := by simpa using h
    subst this
    rfl
  | f + 1, x, h => by
    unfold Lib.bitLenAux
    by_cases h0 : x = 0
    · subst h0; rfl
    · rw [if_neg h0, bitLen_aux f (x / 2) (by rw [Nat.pow_succ] at h; omega)]
      unfold bitLen
      rw [if_neg h0]
      by_cases h1 : x / 2 = 0
      · have : x = 1 := by omega
        subst this
        rfl
      · rw [if_neg h1, Nat.log2_def x, if_pos (by omega)]
        omega
theorem bitLen_lib {x : Nat} (h : x < 18446744073709551616) : Lib.bitLen x = bitLen x := bitLen_aux 64 x (by simpa using h)
end Go.Proofs.Vc

namespace Go.Proofs.Vc
open Go
set_option linter.unusedVariables false
theorem byWord_step {X Q x rest d q r : Nat} (hX : X = Q * x + rest) (hq : q = (rest * 18446744073709551616 + d) / x) (hr : r = (rest * 18446744073709551616 + d) % x) : d + 18446744073709551616 * X = (q + 18446744073709551616 * Q) * x + r := by
  have h1 := Nat.div_add_mod' (rest * 18446744073709551616 + d) x
  rw [← hq, ← hr] at h1
  rw [hX]
  have : (q + 18446744073709551616 * Q) * x = q * x + 18446744073709551616 * (Q * x) := by grind
  rw [this]
  generalize Q * x = a at *
  generalize q * x = b at *
  omega
theorem byWord_lt {rest d x : Nat} (hr : rest < x) (hd : d < 18446744073709551616) : (rest * 18446744073709551616 + d) / x < 18446744073709551616 := by
  refine (Nat.div_lt_iff_lt_mul (by omega)).2 ?_
  have : (rest + 1) * 18446744073709551616 ≤ 18446744073709551616 * x := by rw [Nat.mul_comm]; exact Nat.mul_le_mul_left _ hr
  omega
theorem div_mod_of {X Q x r : Nat} (h : X = Q * x + r) (hr : r < x) : X / x = Q ∧ X % x = r := by
  subst h
  refine ⟨?_, ?_⟩
  · rw [Nat.mul_comm, Nat.mul_add_div (by omega), Nat.div_eq_of_lt hr, Nat.add_zero]
  · rw [Nat.mul_comm, Nat.mul_add_mod, Nat.mod_eq_of_lt hr]
theorem drop_set_ge {ws : List Nat} {j z : Nat} (h : j < ws.length) : (ws.set j z).drop j = z :: ws.drop (j + 1) := by
  rw [drop_cons_get (x := z) (by rw [List.getElem?_set_self h])]
  congr 1
  apply List.ext_getElem?
  intro i
  rw [List.getElem?_drop, List.getElem?_drop, List.getElem?_set_ne (by omega)]

theorem rep_get {n j : Nat} (h : j < n) : (List.replicate n 0)[j]? = some 0 := by simp [h]
/-! shifting to the left -/
theorem pow64 (s : Nat) (hs : s ≤ 64) : 2 ^ s * 2 ^ (64 - s) = 18446744073709551616 := by rw [← Nat.pow_add, show s + (64 - s) = 64 by omega]
theorem shl_hi {x s : Nat} (hs : s ≤ 64) : x * 2 ^ s / 18446744073709551616 = x / 2 ^ (64 - s) := by
  rw [← pow64 s hs, Nat.mul_comm (2 ^ s) (2 ^ (64 - s)), Nat.mul_div_mul_right _ _ (Nat.pow_pos (by decide))]
theorem shl_lo {x s : Nat} (hs : s ≤ 64) : x * 2 ^ s % 18446744073709551616 = x % 2 ^ (64 - s) * 2 ^ s := by
  rw [← pow64 s hs, Nat.mul_comm (2 ^ s) (2 ^ (64 - s)), Nat.mul_mod_mul_right]
theorem or_low {c a s : Nat} (hc : c < 2 ^ s) : c ||| a * 2 ^ s = c + a * 2 ^ s := by
  rw [Nat.or_comm, or_shift hc, Nat.add_comm]
theorem left_step {A X x c s p W P0 : Nat} (hs : s ≤ 64) (h : A + c * p = X * 2 ^ s * W) (hp : p = P0 * W) : A + p * (c + x * 2 ^ s % 18446744073709551616) + x / 2 ^ (64 - s) * (p * 18446744073709551616) = (X + P0 * x) * 2 ^ s * W := by
  have h1 := Nat.div_add_mod (x * 2 ^ s) 18446744073709551616
  rw [shl_hi hs] at h1
  have h2 : (X + P0 * x) * 2 ^ s * W = X * 2 ^ s * W + p * (x * 2 ^ s) := by rw [hp]; grind
  rw [h2, ← h]
  generalize x * 2 ^ s % 18446744073709551616 = l at *
  generalize x / 2 ^ (64 - s) = hgh at *
  rw [← h1]
  grind
/-! shifting to the right -/
theorem right_word {x y R s : Nat} (hs : s < 64) (hx : x < 18446744073709551616) : (x + 18446744073709551616 * (y + 18446744073709551616 * R)) / 2 ^ s % 18446744073709551616 = x / 2 ^ s + y * 2 ^ (64 - s) % 18446744073709551616 := by
  have e := pow64 s (by omega)
  have hp : 0 < 2 ^ s := Nat.pow_pos (by decide)
  have h1 : (x + 18446744073709551616 * (y + 18446744073709551616 * R)) / 2 ^ s = x / 2 ^ s + 2 ^ (64 - s) * (y + 18446744073709551616 * R) := by
    have : 18446744073709551616 * (y + 18446744073709551616 * R) = 2 ^ s * (2 ^ (64 - s) * (y + 18446744073709551616 * R)) := by rw [← Nat.mul_assoc, e]
    rw [this, Nat.add_mul_div_left _ _ hp]
  rw [h1]
  have h2 : x / 2 ^ s < 2 ^ (64 - s) := (Nat.div_lt_iff_lt_mul hp).2 (by rw [Nat.mul_comm, e]; exact hx)
  have h3 : (x / 2 ^ s + 2 ^ (64 - s) * (y + 18446744073709551616 * R)) % 18446744073709551616 = (x / 2 ^ s + y * 2 ^ (64 - s)) % 18446744073709551616 := by
    have : x / 2 ^ s + 2 ^ (64 - s) * (y + 18446744073709551616 * R) = (x / 2 ^ s + y * 2 ^ (64 - s)) + 18446744073709551616 * (2 ^ (64 - s) * R) := by grind
    rw [this, Nat.add_mul_mod_self_left]
  rw [h3]
  have h4 : y * 2 ^ (64 - s) % 18446744073709551616 = y % 2 ^ s * 2 ^ (64 - s) := by rw [← e, Nat.mul_mod_mul_right]
  have h5 : y % 2 ^ s * 2 ^ (64 - s) + 2 ^ (64 - s) ≤ 18446744073709551616 := by
    rw [← Nat.succ_mul, ← e]
    exact Nat.mul_le_mul_right _ (Nat.mod_lt _ hp)
  rw [Nat.add_mod, h4, Nat.mod_eq_of_lt (show x / 2 ^ s < 18446744073709551616 by omega), Nat.mod_eq_of_lt (by omega)]
theorem mod_pow_step {Y i : Nat} : Y % 18446744073709551616 ^ (i + 1) = Y % 18446744073709551616 ^ i + 18446744073709551616 ^ i * (Y / 18446744073709551616 ^ i % 18446744073709551616) := by
  rw [Nat.pow_succ, Nat.mod_mul]
theorem val_div_pow {xs : List Nat} (h : Words xs) {i : Nat} (hi : i ≤ xs.length) : val xs / 18446744073709551616 ^ i = val (xs.drop i) := by
  rw [val_split xs i hi]
  have h1 := val_lt (h.take i)
  rw [List.length_take, Nat.min_eq_left hi] at h1
  rw [Nat.add_mul_div_left _ _ (Nat.pow_pos (by decide)), Nat.div_eq_of_lt h1, Nat.zero_add]
theorem val_drop_get {xs : List Nat} {i x : Nat} (h : xs[i]? = some x) : val (xs.drop i) = x + 18446744073709551616 * val (xs.drop (i + 1)) := by
  rw [drop_cons_get h]
  rfl
end Go.Proofs.Vc

namespace Go.Proofs.Vc
open Go Go.RowKit
set_option linter.unusedVariables false
set_option linter.unusedSimpArgs false
set_option linter.unusedSectionVars false
/-- what a call comes to that may write block b -/
def RetM (w : World) (b : Nat) (g : Mem) (Post : Value → Mem → Obj → Prop) (e : Ending) (w' : World) : Prop := ∃ v g' o', e = .returned v ∧ St w [b] g g' [(b, o')] w' ∧ Post v g' o'
section
variable {P : Program} {ops : Array Oper} {Q : Exit → Act → World → Prop} {n : Nat} {kn : Kn} {o : Oper} {rest : List Oper} {w0 w w' : World} {M : List Nat} {g0 g g' : Mem} {own own' : List (Nat × Obj)} {d : Nat} {fn : Func}
theorem retM1 {b : Nat} {ob : Obj} {Post : Value → Mem → Obj → Prop} {t : Tmp} {v : Value} (hr : fn.results = #[.tmp t]) (hv : kget kn t = some v) (hst : St w0 [b] g0 g [(b, ob)] w) (h : Post v g ob) : atK (bodyPost P fn (RetM w0 b g0 Post) .ret) n kn w := fun a ha =>
  ⟨ha.defers, v, by rw [results_tmp hr, ha.get t v hv], v, g, ob, rfl, hst, h⟩
theorem St.callM (h : St w0 M g0 g own w) (k : Nat) {b : Nat} {ob ob' : Obj} (hk : own[k]? = some (b, ob)) (s : St w [b] g g' [(b, ob')] w') : St w0 M g0 g' (own.set k (b, ob')) w' ∧ g.le g' := by
  have hm := List.mem_of_getElem? hk
  obtain ⟨e1, e2, e3⟩ := h.owns _ hm
  simp only at e1 e2 e3
  obtain ⟨f1, f2, f3⟩ := s.owns (b, ob') (by simp)
  simp only at f1 f2
  have hlt : k < own.length := by
    rcases Nat.lt_or_ge k own.length with hl | hl
    · exact hl
    · rw [List.getElem?_eq_none hl] at hk; cases hk
  refine ⟨⟨s.os.trans h.os, s.tape.trans h.tape, s.output.trans h.output, Nat.le_trans h.size s.size, ?_, s.agree, h.le.trans s.le, ?_, ?_, ?_⟩, s.le⟩
  · intro j hj hM
    have hne : j ≠ b := by
      intro e
      subst e
      rcases e3 with e3 | e3
      · omega
      · exact hM e3
    rw [s.block j (Nat.lt_of_lt_of_le hj h.size) (by simpa using hne)]
    exact h.block j hj hM
  · intro j hj
    rw [s.ext j (Nat.lt_of_lt_of_le hj h.size)]
    exact h.ext j hj
  · intro p hp
    rw [List.mem_iff_getElem?] at hp
    obtain ⟨j, hj⟩ := hp
    by_cases hjk : k = j
    · subst hjk
      rw [List.getElem?_set_self hlt] at hj
      cases hj
      exact ⟨f1, f2, e3⟩
    · rw [List.getElem?_set_ne hjk] at hj
      have hpm := List.mem_of_getElem? hj
      obtain ⟨q1, q2, q3⟩ := h.owns p hpm
      have hne : p.1 ≠ b := by
        intro e
        have hn := h.nodup
        have e4 : (own.map Prod.fst)[j]? = some p.1 := by simp [hj]
        have e5 : (own.map Prod.fst)[k]? = some b := by simp [hk]
        rw [e] at e4
        have e6 := (List.getElem?_inj (i := j) (j := k) (by
          rcases Nat.lt_or_ge j (own.map Prod.fst).length with hl | hl
          · exact hl
          · rw [List.getElem?_eq_none hl] at e4; cases e4) hn).1 (e4.trans e5.symm)
        exact hjk e6.symm
      have hlt2 := h.own_lt hpm
      exact ⟨by rw [s.block _ hlt2 (by simpa using hne)]; exact q1, by rw [s.ext _ hlt2]; exact q2, q3⟩
  · have : (own.set k (b, ob')).map Prod.fst = own.map Prod.fst := by
      rw [List.map_set]
      apply List.ext_getElem?
      intro j
      by_cases hjk : k = j
      · subst hjk
        rw [List.getElem?_set_self (by simpa using hlt)]
        simp [hk]
      · rw [List.getElem?_set_ne hjk]
    rw [this]
    exact h.nodup
theorem stepK_callM {f : FuncId} {args : List Operand} {ts : Array TypeId} {vs : List Value} {b : Nat} {ob : Obj} {Post : Value → Mem → Obj → Prop} (k : Nat) (hdst : o.dst = some d) (hg : o.guard = none) (hd : Nat.ble (d + 1) n = true) (ho : o.op = .call { callee := .value (.func f), args := args.toArray, argTypes := ts })
    (hvs : kevs kn args = some vs) (hst : St w0 M g0 g own w) (hk : own[k]? = some (b, ob)) (hc : CallTo P f vs.toArray w (RetM w b g Post))
    (h : ∀ v g' o' w', St w0 M g0 g' (own.set k (b, o')) w' → g.le g' → Post v g' o' → wpK P ops Q n rest ((d, v) :: kn) w') : wpK P ops Q n (o :: rest) kn w := by
  intro a ha
  refine wpList_plain hg fun K hK => ?_
  refine oper_call ho ha hvs hc fun e w' hr => ?_
  obtain ⟨v, g', o', rfl, hs, hp⟩ := hr
  refine ⟨v, rfl, hK _ _ ?_⟩
  have hx := hst.callM k hk hs
  rw [hdst]
  exact h v g' o' w' hx.1 hx.2 hp _ (ha.put (Nat.le_of_ble_eq_true hd) v)
/-- copy to the head of the k-th own block -/
theorem stepK_copy {x y : Operand} {dT sT e t : TypeId} {b L c1 m c2 : Nat} {ad : Addr} {cs : List Value} {cur : Array Value} (k : Nat) (hdst : o.dst = some d) (hg : o.guard = none) (hd : Nat.ble (d + 1) n = true)
    (ho : o.op = .call { callee := .builtin .copy, args := #[x, y], argTypes := #[dT, sT] }) (hu : P.underlying dT = some (.slice e)) (hsz : (P.info? e).map (·.size) = some 1)
    (hx : kev kn x = some (.slice (some ⟨b, 0, none⟩) L c1)) (hy : kev kn y = some (.slice (some ad) m c2)) (hst : St w0 M g0 g own w) (hk : own[k]? = some (b, .cells cur t (0, 0)))
    (hn : cs.length = Nat.min m L) (hsrc : ∀ j v, cs[j]? = some v → w.cell? (ad.add j) = some v) (hfit : cs.length ≤ cur.size) (h1 : ∀ v ∈ cs, v.oneCell' = true)
    (h : ∀ w', St w0 M g0 g (own.set k (b, .cells (splice cur 0 cs) t (0, 0))) w' → wpK P ops Q n rest ((d, .int .i64 (cs.length : Int)) :: kn) w') : wpK P ops Q n (o :: rest) kn w := by
  have hb := (hst.owns _ (List.mem_of_getElem? hk)).1
  simp only at hb
  refine stepK_run hdst hg hd (v := .int .i64 (cs.length : Int)) (w' := w.setRow b (splice cur 0 cs)) (fun ρ hρ => ?_) (h _ (hst.setRow k _ hk))
  have h2 := hρ x _ hx
  have h3 := hρ y _ hy
  have hr := run_copy_row (P := P) w dT sT o.type e b 0 L c1 ad m c2 cur t cs hu hsz hb hn hsrc (by omega) h1
  simp only [execOp, ho, resolve, invoke, builtin, Sem.run_bind, Sem.run_pure, Result.andThen_ok, List.map_toArray, List.map_cons, List.map_nil, h2, h3, hr]
  rfl
/-- a copy of a slice of numbers: append to nil -/
theorem stepK_append_copy {t e : TypeId} {x y : Operand} {z : Value} {by_ m c : Nat} {k : IntKind} {ws : List Nat} {A : Option Addr} (hdst : o.dst = some d) (hg : o.guard = none) (hd : Nat.ble (d + 1) n = true)
    (ho : o.op = .call { callee := .builtin .append, args := #[x, y], argTypes := #[t, t] }) (hu : P.underlying t = some (.slice e)) (he : elemInfo P e = some (z, 1, by_)) (hzs : z.cells.size = 1)
    (hx : kev kn x = some (.slice none 0 0)) (hy : kev kn y = some (.slice A m c)) (hst : St w0 [] g0 g own w) (hs : SlN g k A m ws) (hb : m * by_ ≤ 140737488355328) (hm : m ≤ 140737488355328)
    (h : ∀ A' c' g' w', St w0 [] g0 g' own w' → g.le g' → SlN g' k A' m ws → wpK P ops Q n rest ((d, .slice A' m c') :: kn) w') : wpK P ops Q n (o :: rest) kn w := by
  rcases Nat.eq_zero_or_pos m with h0 | h0
  · subst h0
    obtain rfl : ws = [] := List.eq_nil_of_length_eq_zero hs.1
    refine stepK_run hdst hg hd (v := .slice none 0 0) (w' := w) (fun ρ hρ => ?_) (h none 0 g w hst (Mem.le.refl g) (SlN.nil g k))
    have h2 := hρ x _ hx
    have h3 := hρ y _ hy
    obtain ⟨i, hi, hz', hsz, hbb⟩ := elemInfo_spec he
    have hr : (Builtin.append_ #[t, t] o.type #[.slice none 0 0, .slice A 0 c]).run P w = .ok (.slice none 0 0) w := by
      cases A with
      | none => simp [Builtin.append_, run_underlying hu, sizeOf, typeInfo, zeroValue, hi, hz', Builtin.lenOf, Builtin.firstCells]
      | some a => simp [Builtin.append_, run_underlying hu, sizeOf, typeInfo, zeroValue, hi, hz', Builtin.lenOf, Builtin.firstCells, loadCells, loadCellsFrom]
    simp only [execOp, ho, resolve, invoke, builtin, Sem.run_bind, Sem.run_pure, Result.andThen_ok, List.map_toArray, List.map_cons, List.map_nil, h2, h3, hr]
  · obtain ⟨b, off, rfl, hc⟩ := hs.some_ h0
    refine stepK_append (xs := []) (news := uN k ws) (m := 0) hdst hg hd ho hu he hzs (by decide) hx hy (Row.nil hst) (by rw [uN_length, hs.1, Nat.mul_one]) (fun j u hj => ?_) (fun u hu => ?_) (by rw [Nat.zero_add]; exact hb) (by omega) (fun v' w' hrow => ?_)
    · rw [uN_get] at hj
      cases hw : ws[j]? with
      | none => rw [hw] at hj; cases hj
      | some x =>
        rw [hw] at hj
        cases hj
        rw [addr_add]
        exact hst.agree.cell (hc.at_ j x hw)
    · obtain ⟨x, _, rfl⟩ := List.mem_map.1 hu
      rfl
    · rw [Nat.zero_add, List.nil_append] at hrow
      obtain ⟨g', A', c', rfl, hc', hst', hle', hsv⟩ := hrow.publish
      exact h A' c' g' w' hst' hle' (SlV.toN hsv hs.1)
end
section
variable {P : Program} {ops : Array Oper} {Q : Exit → Act → World → Prop} {n : Nat} {kn : Kn} {w : World} {S : World → Prop}
/-- the guard's operation did not run itself -/
theorem stepK_passU {o : Oper} {rest : List Oper} {d j t : Nat} {oj : Oper} {b : Bool} (hdst : o.dst = some d) (hg : o.guard = some (j, b)) (hj : ops[j]? = some oj) (ht : oj.dst = some t)
    (hb : kget kn t = some undef) (hd : Nat.ble (d + 1) n = true)
    (h : wpK P ops Q n rest ((d, undef) :: kn) w) : wpK P ops Q n (o :: rest) kn w := by
  intro a ha
  have hw : Region.wanted o (yielded ops a.tmps) = false := by
    have h1 := ha.get t _ hb
    have h2 : yielded ops a.tmps j = none := by
      unfold yielded
      rw [hj, Option.bind_some, ht, Option.bind_some]
      rw [Array.getD_eq_getD_getElem?] at h1
      cases hx : a.tmps[t]? with
      | none => rfl
      | some v =>
        rw [hx] at h1
        simp only [Option.getD_some] at h1
        subst h1
        rfl
    simp [Region.wanted, hg, h2]
  unfold wpList
  rw [if_neg (by simp [hw]), hdst]
  exact h _ (ha.put (Nat.le_of_ble_eq_true hd) undef)
end
/-! segments of a row of words -/
theorem drop_get {ws : List Nat} {j i : Nat} : (ws.drop j)[i]? = ws[j + i]? := by rw [List.getElem?_drop]
theorem seg_succ {ws : List Nat} {j i x : Nat} (h : ws[j + i]? = some x) : val ((ws.drop j).take (i + 1)) = val ((ws.drop j).take i) + 18446744073709551616 ^ i * x := val_take_succ (by rw [drop_get]; exact h)
theorem drop_set_eq {ws : List Nat} {j i z : Nat} : (ws.set (j + i) z).drop j = (ws.drop j).set i z := by
  rw [List.drop_set]
  rw [if_neg (by omega)]
  congr 1
  omega
theorem seg_set {ws : List Nat} {j i z : Nat} (h : j + i < ws.length) : val (((ws.set (j + i) z).drop j).take (i + 1)) = val ((ws.drop j).take i) + 18446744073709551616 ^ i * z := by
  rw [drop_set_eq, val_take_set (by rw [List.length_drop]; omega)]
theorem take_set_out {ws : List Nat} {j k z : Nat} (h : j ≤ k) : (ws.set k z).take j = ws.take j := by
  rw [List.take_set]
  rw [List.set_eq_of_length_le (by rw [List.length_take]; omega)]
theorem drop_set_out {ws : List Nat} {j k z : Nat} (h : k < j) : (ws.set k z).drop j = ws.drop j := by
  rw [List.drop_set]
  rw [if_pos h]
theorem get_drop_eq {ws us : List Nat} {j i : Nat} (h : ws.drop j = us.drop j) (hi : j ≤ i) : ws[i]? = us[i]? := by
  have h1 := drop_get (ws := ws) (j := j) (i := i - j)
  rw [h, drop_get, show j + (i - j) = i by omega] at h1
  exact h1.symm
theorem drop_more {ws us : List Nat} {j k : Nat} (h : ws.drop j = us.drop j) (hk : j ≤ k) : ws.drop k = us.drop k := by
  have h1 : ws.drop k = (ws.drop j).drop (k - j) := by rw [List.drop_drop]; congr 1; omega
  rw [h1, h, List.drop_drop]
  congr 1
  omega
/-- a word of takeAway -/
theorem take_word {p u cy bo : Nat} (hp : p ≤ 340282366920938463426481119284349108225) (hu : u < 18446744073709551616) (hcy : cy < 18446744073709551616) (hbo : bo ≤ 1) :
    (u + 18446744073709551616 - (p % 18446744073709551616 + cy + 0) % 18446744073709551616 - bo) % 18446744073709551616 + p + cy + bo =
      u + ((p / 18446744073709551616 + (p % 18446744073709551616 + cy + 0) / 18446744073709551616) % 18446744073709551616 + (if u < (p % 18446744073709551616 + cy + 0) % 18446744073709551616 + bo then 1 else 0)) * 18446744073709551616 := by
  have h1 := Nat.div_add_mod p 18446744073709551616
  have h2 := Nat.div_add_mod (p % 18446744073709551616 + cy + 0) 18446744073709551616
  have h3 : p % 18446744073709551616 < 18446744073709551616 := Nat.mod_lt _ (by decide)
  have h4 : (p % 18446744073709551616 + cy + 0) % 18446744073709551616 < 18446744073709551616 := Nat.mod_lt _ (by decide)
  generalize (p % 18446744073709551616 + cy + 0) % 18446744073709551616 = lo at *
  generalize (p % 18446744073709551616 + cy + 0) / 18446744073709551616 = c at *
  generalize p % 18446744073709551616 = pl at *
  generalize p / 18446744073709551616 = ph at *
  by_cases hlt : u < lo + bo
  · rw [if_pos hlt]; omega
  · rw [if_neg hlt]; omega
theorem mul_bound {a b : Nat} (ha : a < 18446744073709551616) (hb : b < 18446744073709551616) : a * b ≤ 340282366920938463426481119284349108225 :=
  Nat.le_trans (Nat.mul_le_mul (show a ≤ 18446744073709551615 by omega) (show b ≤ 18446744073709551615 by omega)) (by decide)
theorem take_step {S V U z x d u cy bo cn bn p : Nat} (h : S + d * V = U + (cy + bo) * p) (hw : z + d * x + cy + bo = u + (cn + bn) * 18446744073709551616) : S + p * z + d * (V + p * x) = U + p * u + (cn + bn) * (p * 18446744073709551616) := by grind
theorem put_step {S V U z x u cy cn p : Nat} (h : S + cy * p = U + V) (hw : z + cn * 18446744073709551616 = u + x + cy) : S + p * z + cn * (p * 18446744073709551616) = U + p * u + (V + p * x) := by grind
theorem val_take_mod {ws : List Nat} (hw : Words ws) (n : Nat) : val (ws.take n) = val ws % 18446744073709551616 ^ n := by
  rcases Nat.le_total n ws.length with h | h
  · rw [val_split ws n h]
    have h1 := val_lt (hw.take n)
    rw [List.length_take, Nat.min_eq_left h] at h1
    rw [Nat.add_mul_mod_self_left, Nat.mod_eq_of_lt h1]
  · rw [val_all h, Nat.mod_eq_of_lt]
    exact Nat.lt_of_lt_of_le (val_lt hw) (Nat.pow_le_pow_right (by decide) h)
/-! the guess of a digit -/
theorem mul_div_mod64 (a b : Nat) : a * b = a * b / 18446744073709551616 * 18446744073709551616 + a * b % 18446744073709551616 := (Nat.div_add_mod' ..).symm
theorem guess_start {u v1 v0 u0 p : Nat} (hp : 0 < v1) (h0 : u0 < 18446744073709551616) (h : p * (v1 * 18446744073709551616 + v0) ≤ u * 18446744073709551616 + u0) : p ≤ u / v1 := by
  rw [Nat.le_div_iff_mul_le hp]
  have e : p * (v1 * 18446744073709551616 + v0) = p * v1 * 18446744073709551616 + p * v0 := by grind
  rw [e] at h
  generalize p * v1 = a at *
  generalize p * v0 = b at *
  omega
theorem guess_down {u v1 v0 u0 p q r : Nat} (he : q * v1 + r = u) (hgt : r * 18446744073709551616 + u0 < q * v0) (hle : p ≤ q) (h : p * (v1 * 18446744073709551616 + v0) ≤ u * 18446744073709551616 + u0) : p ≤ q - 1 := by
  rcases Nat.lt_or_ge p q with hl | hl
  · omega
  · obtain rfl : p = q := by omega
    have e : p * (v1 * 18446744073709551616 + v0) = p * v1 * 18446744073709551616 + p * v0 := by grind
    rw [e] at h
    generalize p * v1 = a at *
    generalize p * v0 = b at *
    omega
theorem take_last {u cy bo : Nat} (hu : u < 18446744073709551616) (hcy : cy < 18446744073709551616) (hbo : bo ≤ 1) :
    (u + 18446744073709551616 - cy - bo) % 18446744073709551616 + cy + bo = u + (if u < cy + bo then 1 else 0) * 18446744073709551616 := by
  by_cases hlt : u < cy + bo
  · rw [if_pos hlt]; omega
  · rw [if_neg hlt]; omega
theorem take_end {S V U z d u cy bo bn p : Nat} (h : S + d * V = U + (cy + bo) * p) (hw : z + cy + bo = u + bn * 18446744073709551616) : S + p * z + d * V = U + p * u + bn * (p * 18446744073709551616) := by grind
theorem ite_le_one {p : Prop} [Decidable p] : (if p then 1 else 0 : Nat) ≤ 1 := by split <;> decide
end Go.Proofs.Vc
