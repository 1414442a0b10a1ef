/- Written by a program of this session out of the translation, with contracts given by hand beside. -/
import Derived.Test.YtohnoohnppeooaaPrint0
namespace Go.Proofs.Ytohnoohnppeooaa.Print
open Go.RowKit Go.Proofs.YtohnoohnppeooaaW.PrintWords Go.Proofs.YtohnoohnppeooaaW.PrintLast Go.Proofs.YtohnoohnppeooaaW.PrintMore
attribute [local go_sem] max2_int min2_int max_two min_two max_three min_three max_four min_four   -- for this text's walks alone
set_option linter.unusedVariables false
set_option linter.unusedSimpArgs false

-- GIVEN BY HAND
/-! ### abi_NoEscape: function 29 -/
/-- '[]byte(s)': the bytes of a text (told to the printer as a call; in the walk it is the conversion itself). -/
def abi_NoEscape.f (a0 : ByteArray) : Option (List Int) := if a0.size ≤ 9223372036854775807 then some (bytesOf a0) else none
theorem toBytes_some {s : ByteArray} {t : List Int} (h : abi_NoEscape.f s = some t) : t = bytesOf s ∧ s.size ≤ 9223372036854775807 := by
  unfold abi_NoEscape.f at h
  by_cases hs : s.size ≤ 9223372036854775807
  · rw [if_pos hs] at h; exact ⟨(Option.some.inj h).symm, hs⟩
  · rw [if_neg hs] at h; cases h

end Go.Proofs.Ytohnoohnppeooaa.Print
