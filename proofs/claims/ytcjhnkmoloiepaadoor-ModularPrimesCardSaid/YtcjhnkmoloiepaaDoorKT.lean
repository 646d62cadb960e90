/- The sanity check of the simplest fraction. No program occurs here. -/
import Derived.Test.YtcjhnkmoloiepaaDoorKS
import Derived.Test.YtcjhnkmoloiepaaDoorQ2
namespace Go.Proofs.Vc
open Go
theorem t3_10 : ratS (3 / 10) = ⟨#[51, 47, 49, 48]⟩ := by rw [ratS_eval (n := 3) (d := 10) (by decide +kernel) (by decide +kernel)]; decide +kernel
theorem t2_5 : ratS (2 / 5) = ⟨#[50, 47, 53]⟩ := by rw [ratS_eval (n := 2) (d := 5) (by decide +kernel) (by decide +kernel)]; decide +kernel
theorem readR_eval {r : Rat} {s : ByteArray} (h : ratS r = s) : readR s = some r := by rw [← h, readR_text]
theorem known_le : (3 / 10 : Rat) ≤ 2 / 5 := by decide +kernel
theorem known_simp : simpZ (3 / 10) (2 / 5) = 1 / 3 := by decide +kernel
theorem known_text : (if (readR ⟨#[51, 47, 49, 48]⟩).isSome ∧ (readR ⟨#[50, 47, 53]⟩).isSome ∧ getR ⟨#[51, 47, 49, 48]⟩ ≤ getR ⟨#[50, 47, 53]⟩ then ratS (simpZ (getR ⟨#[51, 47, 49, 48]⟩) (getR ⟨#[50, 47, 53]⟩)) else ⟨#[]⟩) = ⟨#[49, 47, 51]⟩ := by
  rw [getR_eval t3_10, getR_eval t2_5, readR_eval t3_10, readR_eval t2_5, if_pos ⟨rfl, rfl, known_le⟩, known_simp]
  exact t1_3
theorem known_state : (if (readR ⟨#[51, 47, 49, 48]⟩).isSome ∧ (readR ⟨#[50, 47, 53]⟩).isSome then (if getR ⟨#[51, 47, 49, 48]⟩ ≤ getR ⟨#[50, 47, 53]⟩ then (0 : Int) else 3) else 1) = 0 := by
  rw [getR_eval t3_10, getR_eval t2_5, readR_eval t3_10, readR_eval t2_5, if_pos ⟨rfl, rfl⟩, if_pos known_le]
end Go.Proofs.Vc
