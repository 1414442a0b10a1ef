/- The pure part of BoundFirst: the law's own walk tells true of every input (Print2), so nothing is left to say. No condition. -/
import Derived.Test.YtmadmnbaefifiaaPrint2
namespace Go.Proofs.Ytmadmnbaefifiaa.Pure
open Go.RowKit Go.Proofs.Ytmadmnbaefifiaa.Print Go.Proofs.YtmadmnbaefifiaaW.PrintWords Go.Proofs.YtmadmnbaefifiaaW.PrintLast

theorem BoundFirst : fleuronlaw23_BoundFirst.Pure := by
  intro _ _ _ _ _ _
  rfl

end Go.Proofs.Ytmadmnbaefifiaa.Pure
