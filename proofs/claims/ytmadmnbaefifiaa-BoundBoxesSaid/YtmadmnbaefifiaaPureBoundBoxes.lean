/- The pure part of BoundBoxes: for every number the printed function of the law tells true with some number of rounds. No condition. -/
import Derived.Test.YtmadmnbaefifiaaPBoundBoxesx2
namespace Go.Proofs.Ytmadmnbaefifiaa.Pure
open Go.RowKit Go.Proofs.Ytmadmnbaefifiaa.PBoundBoxes Go.Proofs.YtmadmnbaefifiaaW.PrintWords Go.Proofs.YtmadmnbaefifiaaW.PrintLast Go.Proofs.YtmadmnbaefifiaaW.PrintMore
theorem bxAwake5 : fleuronlaw23_awake.f 5 = some true := by decide +kernel

theorem BoundBoxes : fleuronlaw23_BoundBoxes.Pure := by
  intro n _
  refine ⟨6, ?_⟩
  unfold fleuronlaw23_BoundBoxes.f
  have h5 := bxAwake5
  by_cases h0 : n ≥ 0
  · rw [if_pos h0]
    by_cases h1 : n ≤ 1000
    · rw [decide_eq_true h1]
      have : bound_Boxes.f n = some (6 * n) := by
        unfold bound_Boxes.f; rw [if_neg (by omega), if_neg (by omega)]; unfold wrap64; congr 1; omega
      simp only [fleuronlaw23_BoundBoxes.j0]
      simp [this, h5, wrap64]
      omega
    · rw [decide_eq_false h1]
      have : bound_Boxes.f n = some 0 := by
        unfold bound_Boxes.f; rw [if_neg (by omega), if_pos (by omega)]
      simp [fleuronlaw23_BoundBoxes.j0, this, h5]
  · rw [if_neg h0]
    have : bound_Boxes.f n = some 0 := by
        unfold bound_Boxes.f; rw [if_pos (by omega)]
    simp [fleuronlaw23_BoundBoxes.j0, this, h5]
end Go.Proofs.Ytmadmnbaefifiaa.Pure
