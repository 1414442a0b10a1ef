/- The pure part of SystemSizes: each of the eighty cases (k from 1 to 20, over, additive) is reckoned; outside them the law answers by awake. No condition. -/
import Derived.Test.YtalegejfellbdaaPrint16
namespace Go.Proofs.Ytalegejfellbdaa.Pure
open Go.RowKit Go.Proofs.Ytalegejfellbdaa.Print Go.Proofs.YtalegejfellbdaaW.PrintWords Go.Proofs.YtalegejfellbdaaW.PrintLast
def sizesAll : Bool := (List.range 20).all fun i : Nat => [true, false].all fun a => [true, false].all fun b => fleuronlaw9_SystemSizes.f 200 ((i : Int) + 1) a b == some true
set_option maxRecDepth 100000 in
theorem sizesAll_true : sizesAll = true := by decide +kernel
theorem sizes_at (i : Nat) (h : i < 20) (a b : Bool) : fleuronlaw9_SystemSizes.f 200 ((i : Int) + 1) a b = some true := by
  have h1 := sizesAll_true
  unfold sizesAll at h1
  rw [List.all_eq_true] at h1
  have h2 := h1 i (by simpa using h)
  rw [List.all_eq_true] at h2
  have h3 := h2 a (by cases a <;> simp)
  rw [List.all_eq_true] at h3
  have h4 := h3 b (by cases b <;> simp)
  simpa using h4
theorem SystemSizes : fleuronlaw9_SystemSizes.Pure := by
  intro a0 a1 a2 _
  by_cases h1 : a0 < 1
  · refine ⟨2, ?_⟩
    unfold fleuronlaw9_SystemSizes.f
    rw [if_pos h1, fleuronlaw9_SystemSizes.j0, if_pos rfl]
    rfl
  · by_cases h2 : a0 > 20
    · refine ⟨2, ?_⟩
      unfold fleuronlaw9_SystemSizes.f
      rw [if_neg h1, decide_eq_true h2, fleuronlaw9_SystemSizes.j0, if_pos rfl]
      rfl
    · refine ⟨200, ?_⟩
      obtain ⟨i, hi, rfl⟩ : ∃ i : Nat, i < 20 ∧ a0 = (i : Int) + 1 := ⟨(a0 - 1).toNat, by omega, by omega⟩
      exact sizes_at i hi a1 a2
end Go.Proofs.Ytalegejfellbdaa.Pure
