/- A helper of the claim: general lemmas and walks of functions, printed by a program of this session. Conditions: none. -/
import Derived.Test.YtcjhnkmoloiepaaDoorQ2
import Derived.Test.YtcjhnkmoloiepaaDoorQ1
import Derived.Test.YtcjhnkmoloiepaaDoorQ3
namespace Go.Proofs.Vc
open Go Go.RowKit
set_option linter.unusedVariables false
/-- a slice of these strings whose cells are kept -/
def StrS (g : Mem) (A : Option Addr) (n : Nat) (ss : List ByteArray) : Prop := ss.length = n ∧ (n = 0 ∨ ∃ b off, A = some ⟨b, off, none⟩ ∧ ∀ (j : Nat) s, ss[j]? = some s → gcell g b (off + j) = some (.string s))
theorem StrS.mono {g g' : Mem} {A : Option Addr} {n : Nat} {ss : List ByteArray} (h : StrS g A n ss) (hle : g.le g') : StrS g' A n ss :=
  ⟨h.1, h.2.imp id fun ⟨b, off, e, hc⟩ => ⟨b, off, e, fun j s hj => gcell_le hle (hc j s hj)⟩⟩
theorem StrS.cell {g : Mem} {A : Option Addr} {n j : Nat} {ss : List ByteArray} (h : StrS g A n ss) (hj : j < n) : ∃ b off s, A = some ⟨b, off, none⟩ ∧ ss[j]? = some s ∧ gcell g b (off + j) = some (.string s) := by
  obtain ⟨hl, h | ⟨b, off, e, hc⟩⟩ := h
  · omega
  · have hs : ss[j]? = some ss[j] := List.getElem?_eq_getElem (by omega)
    exact ⟨b, off, _, e, hs, hc j _ hs⟩
theorem take_eq_step {ss ts : List ByteArray} {k : Nat} {s t : ByteArray} (h : ss.take k = ts.take k) (hs : ss[k]? = some s) (ht : ts[k]? = some t) (e : s = t) : ss.take (k + 1) = ts.take (k + 1) := by
  rw [List.take_add_one, List.take_add_one, h, hs, ht, e]
end Go.Proofs.Vc

namespace Go.Proofs.Vc
open Go Go.RowKit
set_option linter.unusedVariables false
set_option linter.unusedSectionVars false
section
variable {w0 w : World} {M : List Nat} {g0 g : Mem} {own l T : List (Nat × Obj)}
/-- the tail T of the own blocks holds the row v: n elements of sz cells, the cells xs -/
def RowT (w0 : World) (e : TypeId) (sz : Nat) (v : Value) (n : Nat) (xs : List Value) (T : List (Nat × Obj)) : Prop :=
  xs.length = n * sz ∧ ((v = .slice none 0 0 ∧ n = 0 ∧ T = []) ∨
    ∃ b cap cur, v = .slice (some ⟨b, 0, none⟩) n cap ∧ n ≤ cap ∧ cap ≤ maxLen ∧ cur.size = cap * sz ∧ cur.toList.take (n * sz) = xs ∧ w0.heap.size ≤ b ∧ T = [(b, .cells cur e (0, 0))])
theorem RowT.nil (w0 : World) (e : TypeId) (sz : Nat) : RowT w0 e sz (.slice none 0 0) 0 [] [] := ⟨by simp, .inl ⟨rfl, rfl, rfl⟩⟩
theorem RowT.row {e : TypeId} {sz n : Nat} {v : Value} {xs : List Value} (h : RowT w0 e sz v n xs T) (l : List (Nat × Obj)) (hst : St w0 M g0 g (l ++ T) w) : Row w0 M g0 g l e sz v n xs w := by
  refine ⟨h.1, ?_⟩
  rcases h.2 with ⟨h1, h2, h3⟩ | ⟨b, cap, cur, h1, h2, h3, h4, h5, h6, h7⟩
  · subst h3
    rw [List.append_nil] at hst
    exact .inl ⟨h1, h2, hst⟩
  · subst h7
    exact .inr ⟨b, cap, cur, h1, h2, h3, h4, h5, h6, hst⟩
theorem Row.tail {e : TypeId} {sz n : Nat} {v : Value} {xs : List Value} (h : Row w0 M g0 g l e sz v n xs w) : ∃ T A c, v = .slice A n c ∧ RowT w0 e sz v n xs T ∧ St w0 M g0 g (l ++ T) w := by
  obtain ⟨A, c, hv⟩ := h.shape
  rcases h.2 with ⟨h1, h2, h3⟩ | ⟨b, cap, cur, h1, h2, h3, h4, h5, h6, h7⟩
  · exact ⟨[], A, c, hv, ⟨h.1, .inl ⟨h1, h2, rfl⟩⟩, by rw [List.append_nil]; exact h3⟩
  · exact ⟨_, A, c, hv, ⟨h.1, .inr ⟨b, cap, cur, h1, h2, h3, h4, h5, h6, rfl⟩⟩, h7⟩
/-- a new block goes in front of the tail -/
theorem St.tailin (l : List (Nat × Obj)) {x : List (Nat × Obj)} (h : St w0 M g0 g ((l ++ T) ++ x) w) : St w0 M g0 g ((l ++ x) ++ T) w :=
  h.perm (by rw [List.append_assoc, List.append_assoc]; exact List.Perm.append_left _ List.perm_append_comm)
end
/-- the cells of elements, one after the other -/
def LsR {α : Type} (R : Mem → List Value → α → Prop) (sz : Nat) (g : Mem) : List Value → List α → Prop
  | xs, [] => xs = []
  | xs, x :: l => ∃ c rest, xs = c ++ rest ∧ c.length = sz ∧ R g c x ∧ LsR R sz g rest l
section
variable {α : Type} {R : Mem → List Value → α → Prop} {sz : Nat} {g g' : Mem}
def MonoR (R : Mem → List Value → α → Prop) : Prop := ∀ g g' c x, g.le g' → R g c x → R g' c x
theorem LsR.mono' (hR : MonoR R) (hle : g.le g') : ∀ {l : List α} {xs : List Value} (h : LsR R sz g xs l), LsR R sz g' xs l
  | [], _, h => h
  | x :: l, xs, ⟨c, rest, h1, h2, h3, h4⟩ => ⟨c, rest, h1, h2, hR _ _ _ _ hle h3, LsR.mono' hR hle h4⟩
theorem LsR.snoc {c : List Value} {y : α} (hc : c.length = sz) (hy : R g c y) : ∀ {l : List α} {xs : List Value}, LsR R sz g xs l → LsR R sz g (xs ++ c) (l ++ [y])
  | [], xs, h => by
    have h : xs = [] := h
    subst h
    exact ⟨c, [], by simp, hc, hy, rfl⟩
  | x :: l, xs, ⟨d, rest, h1, h2, h3, h4⟩ => ⟨d, rest ++ c, by rw [h1, List.append_assoc], h2, h3, LsR.snoc hc hy h4⟩
theorem LsR.length : ∀ {l : List α} {xs : List Value}, LsR R sz g xs l → xs.length = l.length * sz
  | [], xs, h => by
    have h : xs = [] := h
    subst h
    simp
  | x :: l, xs, ⟨c, rest, h1, h2, h3, h4⟩ => by
    rw [h1, List.length_append, h2, LsR.length h4, List.length_cons, Nat.succ_mul]
    omega
theorem LsR.get : ∀ {l : List α} {xs : List Value}, LsR R sz g xs l → ∀ (j : Nat) (x : α), l[j]? = some x → ∃ c, c.length = sz ∧ R g c x ∧ ∀ (i : Nat) v, c[i]? = some v → xs[j * sz + i]? = some v
  | [], xs, h, j, x, hx => by simp at hx
  | y :: l, xs, ⟨c, rest, h1, h2, h3, h4⟩, 0, x, hx => by
    have : y = x := by simpa using hx
    subst this
    refine ⟨c, h2, h3, fun i v hv => ?_⟩
    have hi : i < c.length := by
      rcases Nat.lt_or_ge i c.length with h | h
      · exact h
      · rw [List.getElem?_eq_none h] at hv; cases hv
    rw [h1, Nat.zero_mul, Nat.zero_add, List.getElem?_append_left hi]
    exact hv
  | y :: l, xs, ⟨c, rest, h1, h2, h3, h4⟩, j + 1, x, hx => by
    obtain ⟨d, e1, e2, e3⟩ := LsR.get h4 j x (by simpa using hx)
    refine ⟨d, e1, e2, fun i v hv => ?_⟩
    rw [h1, Nat.succ_mul, List.getElem?_append_right (by omega), show j * sz + sz + i - c.length = j * sz + i by omega]
    exact e3 i v hv
/-- a slice of elements of sz cells, kept for good -/
def SlR (R : Mem → List Value → α → Prop) (sz : Nat) (g : Mem) (A : Option Addr) (n : Nat) (l : List α) : Prop :=
  l.length = n ∧ (n = 0 ∨ ∃ b off, A = some ⟨b, off, none⟩ ∧ ∀ (j : Nat) x, l[j]? = some x → ∃ c, c.length = sz ∧ R g c x ∧ ∀ (i : Nat) v, c[i]? = some v → gcell g b (off + j * sz + i) = some v)
theorem SlR.mono' (hR : MonoR R) {A : Option Addr} {n : Nat} {l : List α} (h : SlR R sz g A n l) (hle : g.le g') : SlR R sz g' A n l :=
  ⟨h.1, h.2.imp id fun ⟨b, off, e, hc⟩ => ⟨b, off, e, fun j x hj => by
    obtain ⟨c, h1, h2, h3⟩ := hc j x hj
    exact ⟨c, h1, hR _ _ _ _ hle h2, fun i v hv => gcell_le hle (h3 i v hv)⟩⟩⟩
theorem SlR.cell {A : Option Addr} {n j : Nat} {l : List α} (h : SlR R sz g A n l) (hj : j < n) : ∃ b off x c, A = some ⟨b, off, none⟩ ∧ l[j]? = some x ∧ c.length = sz ∧ R g c x ∧ ∀ (i : Nat) v, c[i]? = some v → gcell g b (off + j * sz + i) = some v := by
  obtain ⟨hl, h | ⟨b, off, e, hc⟩⟩ := h
  · omega
  · have hs : l[j]? = some l[j] := List.getElem?_eq_getElem (by omega)
    obtain ⟨c, h1, h2, h3⟩ := hc j _ hs
    exact ⟨b, off, _, c, e, hs, h1, h2, h3⟩
theorem RowT.publish {w0 w : World} {g0 : Mem} {T : List (Nat × Obj)} {e : TypeId} {n : Nat} {v : Value} {xs : List Value} {ys : List α} (hR : MonoR R) (h : RowT w0 e sz v n xs T) (l : List (Nat × Obj)) (hst : St w0 [] g0 g (l ++ T) w) (hy : LsR R sz g xs ys) (hz : 0 < sz) :
    ∃ g' A c, v = .slice A n c ∧ n ≤ c ∧ St w0 [] g0 g' l w ∧ g.le g' ∧ SlR R sz g' A n ys := by
  obtain ⟨g', A, c, h1, h2, h3, h4, h5⟩ := (h.row l hst).publish
  refine ⟨g', A, c, h1, h2, h3, h4, ?_, ?_⟩
  · have e1 := hy.length
    rw [h.1] at e1
    exact (Nat.eq_of_mul_eq_mul_right hz e1).symm
  · rcases h5.cells with h5 | ⟨b, off, e1, h5⟩
    · exact .inl h5
    · refine .inr ⟨b, off, e1, fun j x hj => ?_⟩
      obtain ⟨c, e2, e3, e4⟩ := hy.get j x hj
      exact ⟨c, e2, hR _ _ _ _ h4 e3, fun i v hv => by rw [Nat.add_assoc]; exact h5 _ _ (e4 i v hv)⟩
end
/-- the cells of the program's rational numbers -/
def RatC (g : Mem) (c : List Value) (r : Rat) : Prop := ∃ p q a, c = [.int .i64 p, .int .i64 q, .pointer a] ∧ IsRat g p q a r
theorem RatC.mono : MonoR RatC := fun g g' c r hle ⟨p, q, a, h1, h2⟩ => ⟨p, q, a, h1, h2.mono hle⟩
theorem RatC.mk {g : Mem} {p q : Int} {a : Option Addr} {r : Rat} (h : IsRat g p q a r) : RatC g [.int .i64 p, .int .i64 q, .pointer a] r := ⟨p, q, a, rfl, h⟩
/-- the cells of the reference's rational numbers -/
def RefC (g : Mem) (c : List Value) (r : Rat) : Prop := ∃ na A n ca nb B m cb, c = [.bool na, .slice A n ca, .bool nb, .slice B m cb] ∧ IsQ g na A n nb B m r
theorem RefC.mono : MonoR RefC := fun g g' c r hle ⟨na, A, n, ca, nb, B, m, cb, h1, h2⟩ => ⟨na, A, n, ca, nb, B, m, cb, h1, h2.mono hle⟩
theorem RefC.mk {g : Mem} {na nb : Bool} {A B : Option Addr} {n ca m cb : Nat} {r : Rat} (h : IsQ g na A n nb B m r) : RefC g [.bool na, .slice A n ca, .bool nb, .slice B m cb] r := ⟨na, A, n, ca, nb, B, m, cb, rfl, h⟩
abbrev RatS (g : Mem) (A : Option Addr) (n : Nat) (l : List Rat) : Prop := SlR RatC 3 g A n l
abbrev RefS (g : Mem) (A : Option Addr) (n : Nat) (l : List Rat) : Prop := SlR RefC 4 g A n l
theorem SlR.mono {α : Type} {R : Mem → List Value → α → Prop} {sz : Nat} {g g' : Mem} {A : Option Addr} {n : Nat} {l : List α} (h : SlR R sz g A n l) (hle : g.le g') (hR : MonoR R := by first | exact RatC.mono | exact RefC.mono) : SlR R sz g' A n l := h.mono' hR hle
theorem LsR.mono {α : Type} {R : Mem → List Value → α → Prop} {sz : Nat} {g g' : Mem} {xs : List Value} {l : List α} (h : LsR R sz g xs l) (hle : g.le g') (hR : MonoR R := by first | exact RatC.mono | exact RefC.mono) : LsR R sz g' xs l := LsR.mono' hR hle h
/-! own blocks of strings -/
def sN (ss : List ByteArray) : List Value := ss.map Value.string
theorem sN_length (ss : List ByteArray) : (sN ss).length = ss.length := by simp [sN]
theorem sN_rep (n : Nat) : repL n [.string ByteArray.empty] = sN (List.replicate n ByteArray.empty) := by rw [repL_one]; simp [sN]
theorem sN_set (ss : List ByteArray) (i : Nat) (s : ByteArray) (h : i < ss.length) : splice (sN ss).toArray i [.string s] = (sN (ss.set i s)).toArray := by
  unfold splice sN
  rw [List.map_set, List.set_eq_take_append_cons_drop, if_pos (by simpa using h)]
  simp
theorem take_set_step {ss X : List ByteArray} {i : Nat} {s : ByteArray} (h : ss.take i = X) (hi : i < ss.length) : (ss.set i s).take (i + 1) = X ++ [s] := by
  rw [List.take_succ_eq_append_getElem (by simpa using hi), List.take_set_of_le (Nat.le_refl _), h, List.getElem_set_self]
theorem map_take_step {α β : Type} {l : List α} {i : Nat} {x : α} (f : α → β) (hx : l[i]? = some x) : (l.take (i + 1)).map f = (l.take i).map f ++ [f x] := by
  rw [List.take_add_one, hx, List.map_append]
  rfl
theorem sN_publish {g : Mem} {b n : Nat} {ss : List ByteArray} {t : TypeId} {f : Nat × Nat} (h : ss.length = n) : StrS (gput g b (.cells (sN ss).toArray t f)) (some ⟨b, 0, none⟩) n ss :=
  ⟨h, .inr ⟨b, 0, rfl, fun j s hs => by
    rw [Nat.zero_add, gcell_put]
    simp [sN, hs]⟩⟩
end Go.Proofs.Vc
