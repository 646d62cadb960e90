/- A parameter of ints: what the reading of it gives. No program occurs here. -/
import Derived.Test.YtcjhnkmoloiepaaDoorKV
import Derived.Test.YtcjhnkmoloiepaaDoorQ3
import Derived.OpenShut
import Derived.ChangeSlices
namespace Go.Proofs.Vc
open Go Go.ChangeShapes Go.WideShapes Go.RowKit
set_option linter.unusedVariables false
theorem ints_row {P : Program} {W : World} {H : Type} {enc : TypeId × Value → H} {t e : TypeId} {d : DataW H} {p : List MemPlace} {A : Option Addr} {n c : Nat} (ht : P.underlying t = some (.slice e)) (he : P.underlying e = some (.int .i64)) (hc : P.cellsOf e = 1)
    (h : DataW.Trod enc P W 0 (fun _ => true) true t (.slice A n c) d p) : IntS (gAll W) A n ∧ n ≤ c ∧ n ≤ 9223372036854775807 := by
  obtain ⟨fuel, hf⟩ := h
  rcases open_ints ht he hc hf with ⟨hcs, _⟩ | ⟨x, l, cp, zs, hcs, _, hl, hm, hz, _, hcell, hwz⟩
  · simp [Value.cells] at hcs
    obtain ⟨rfl, rfl, rfl⟩ := hcs
    exact ⟨.inl rfl, Nat.le_refl _, Nat.zero_le _⟩
  · simp [Value.cells] at hcs
    obtain ⟨rfl, rfl, rfl⟩ := hcs
    have hz9 : zs.length = c := by simpa using hz
    have hm9 : c ≤ 9223372036854775807 := Nat.le_trans hm (by decide)
    refine ⟨?_, hl, by omega⟩
    rcases Nat.eq_zero_or_pos n with h9 | h9
    · exact .inl h9
    · obtain ⟨b, off, e9, hc9⟩ := ints_at hcell (by omega)
      refine .inr ⟨b, off, by rw [e9], fun j hj => ?_⟩
      have hj9 : j < zs.length := by omega
      have hw := hwz (zs.getD j 0) (by rw [List.getD_eq_getElem?_getD, List.getElem?_eq_getElem hj9]; exact List.getElem_mem hj9)
      simp only [Lit.wf, Bool.and_eq_true, decide_eq_true_eq] at hw
      exact ⟨zs.getD j 0, gAll_cell (hc9 j hj9), hw.1, hw.2⟩
end Go.Proofs.Vc
