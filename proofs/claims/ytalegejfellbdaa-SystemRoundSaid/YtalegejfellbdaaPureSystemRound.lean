/- The pure part of SystemRound: the law's own walk tells true of every input (Print19), so nothing is left to say. No condition. -/
import Derived.Test.YtalegejfellbdaaPrint19
namespace Go.Proofs.Ytalegejfellbdaa.Pure
open Go.RowKit Go.Proofs.Ytalegejfellbdaa.Print Go.Proofs.YtalegejfellbdaaW.PrintWords Go.Proofs.YtalegejfellbdaaW.PrintLast

theorem SystemRound : fleuronlaw9_SystemRound.Pure := by
  intro _ _ _ _ _ _
  rfl

end Go.Proofs.Ytalegejfellbdaa.Pure
