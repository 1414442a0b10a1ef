/- Written by a program of this session out of the translation, with contracts given by hand beside. -/
import Derived.Test.YtohnoohnppeooaaPrint0
namespace Go.Proofs.Ytohnoohnppeooaa.Print
open Go.RowKit Go.Proofs.YtohnoohnppeooaaW.PrintWords Go.Proofs.YtohnoohnppeooaaW.PrintLast Go.Proofs.YtohnoohnppeooaaW.PrintMore
attribute [local go_sem] max2_int min2_int max_two min_two max_three min_three max_four min_four   -- for this text's walks alone
set_option linter.unusedVariables false
set_option linter.unusedSimpArgs false

-- GIVEN BY HAND
/-! ### points_Put: function 14 -/
def points_Put.f (a0 : Int) : Option ByteArray := some (Utf8.encode a0)

theorem points_Put.calls (a0 : Int) (r : ByteArray) (w : World) (h : points_Put.f a0 = some r) :
    Calls Try.prog 14 #[.int .i32 a0] w fun e w' => e = .returned (.string r) ∧ Below w.heap.size w w' := by
  unfold points_Put.f at h
  obtain rfl := Option.some.inj h
  clear h
  have hu9 := Try.underlying9
  have hc := run_convert_int_string (P := Try.prog) w 21 9 .i32 a0 rfl hu9
  go_enter Try.func14, Try.ntmps14
  go_wp2
  go_ret
  exact ⟨rfl, Below.refl _ w⟩

end Go.Proofs.Ytohnoohnppeooaa.Print
