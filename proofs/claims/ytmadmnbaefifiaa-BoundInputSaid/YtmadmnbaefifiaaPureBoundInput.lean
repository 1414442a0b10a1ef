/- The pure part of BoundInput: the law's own walk tells true of every input (Print3), so nothing is left to say. No condition. -/
import Derived.Test.YtmadmnbaefifiaaPrint3
namespace Go.Proofs.Ytmadmnbaefifiaa.Pure
open Go.RowKit Go.Proofs.Ytmadmnbaefifiaa.Print Go.Proofs.YtmadmnbaefifiaaW.PrintWords Go.Proofs.YtmadmnbaefifiaaW.PrintLast

theorem BoundInput : fleuronlaw23_BoundInput.Pure := by
  intro _ _ _ _ _ _ _ _ _ _ _ _
  rfl

end Go.Proofs.Ytmadmnbaefifiaa.Pure
