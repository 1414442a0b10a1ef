/- Written by a program of this session out of the translation, with contracts given by hand beside. -/
import Derived.Test.YtohnoohnppeooaaPrint0
namespace Go.Proofs.Ytohnoohnppeooaa.Print
open Go.RowKit Go.Proofs.YtohnoohnppeooaaW.PrintWords Go.Proofs.YtohnoohnppeooaaW.PrintLast Go.Proofs.YtohnoohnppeooaaW.PrintMore
attribute [local go_sem] max2_int min2_int max_two min_two max_three min_three max_four min_four   -- for this text's walks alone
set_option linter.unusedVariables false
set_option linter.unusedSimpArgs false

-- GIVEN BY HAND
/-! ### fleuronref1_Put: function 15 -/
def fleuronref1_Put.f (a0 : Int) : Option ByteArray := some (Utf8.encode a0)

theorem fleuronref1_Put.calls (a0 : Int) (r : ByteArray) (w : World) (h : fleuronref1_Put.f a0 = some r) :
    Calls Try.prog 15 #[.int .i32 a0] w fun e w' => e = .returned (.string r) ∧ Below w.heap.size w w' := by
  unfold fleuronref1_Put.f at h
  obtain rfl := Option.some.inj h
  clear h
  have hu9 := Try.underlying9
  have hc := run_convert_runes (P := Try.prog) (w.alloc (.cells #[.int .i32 a0] 21)) 27 9 21 ⟨w.heap.size, 0, none⟩ 1 1 [a0] (by simp) Try.underlying27 Try.underlying21 hu9 (fun j hj => by
    have hj0 : j = 0 := by simpa using hj
    rw [hj0]
    rw [show Addr.add ⟨w.heap.size, 0, none⟩ 0 = ⟨w.heap.size, 0, none⟩ from by simp [Addr.add], World.cell?_alloc_new]; rfl)
  rw [show runesBytes (List.take 1 [a0]) = Utf8.encode a0 by simp [runesBytes, ByteArray.empty_append]] at hc
  go_enter Try.func15, Try.ntmps15
  go_wp2
  go_ret
  exact ⟨rfl, (Below.refl _ w).alloc (Nat.le_refl _) _⟩

end Go.Proofs.Ytohnoohnppeooaa.Print
