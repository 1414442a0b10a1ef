/- SystemForms, by hand (mkforms.py). -/
import Derived.Test.YtalegejfellbdaaPrint0
import Derived.Test.YtalegejfellbdaaPrint5
import Derived.Test.YtalegejfellbdaaPrint11
import Derived.Test.YtalegejfellbdaaPrint15
import Derived.Test.YtalegejfellbdaaPrint20
import Derived.Test.YtalegejfellbdaaPrint23
import Derived.Test.YtalegejfellbdaaPrint24
import Derived.Test.YtalegejfellbdaaPrint25
import Derived.Lib.Hide
import Derived.Lib.OthersKept
import Derived.Lib.SliceRun
import Derived.Shelf.Abstract
import Derived.Shelf.RegionOpen
import Derived.OwnWalkIn
import Derived.TacticsInMore
import Derived.LoopNIn
import Derived.LoopIn
import Derived.Outline
import Derived.Lib.ConvBytes
import Derived.Deep.RegionLaw
import Derived.Deep.RegionWith
import Derived.Deep.RegionHeld3
import Derived.Deep.AppendLies
import Derived.Deep.DrawnRows
namespace Go.Proofs.Ytalegejfellbdaa.Print
open Go.RowKit Go.Proofs.YtalegejfellbdaaW.PrintWords Go.Proofs.YtalegejfellbdaaW.PrintLast Go.Proofs.YtalegejfellbdaaW.PrintMore
attribute [local go_sem] max2_int min2_int max_two min_two max_three min_three max_four min_four   -- for this text's walks alone
set_option linter.unusedVariables false
set_option linter.unusedSimpArgs false
open Go.Shelf in
section
theorem fp_falling (l : List Int) (hl : l.length ≤ 100) : ∀ (d i k : Nat), i + d = l.length → d < k → ∃ b, system_falling.l0 k l l (l.length : Int) (i : Int) = some b
  | d, i, 0, _, hk => by omega
  | 0, i, k + 1, hi, hk => by rw [system_falling.l0, if_neg (by omega)]; exact ⟨_, rfl⟩
  | d + 1, i, k + 1, hi, hk => by
    have e1 : wrap64 ((i : Int) + 1) = ((i + 1 : Nat) : Int) := by unfold wrap64; omega
    have ih := fp_falling l hl d (i + 1) k (by omega) (by omega)
    rw [system_falling.l0, if_pos (by omega), if_pos (by omega), if_pos (by omega), e1]
    by_cases h0 : rd l (i : Int) < 0
    · rw [if_pos h0]; exact ⟨_, rfl⟩
    rw [if_neg h0]
    by_cases hi0 : (i : Int) > 0
    · obtain ⟨j, rfl⟩ : ∃ j, i = j + 1 := ⟨i - 1, by omega⟩
      have e2 : wrap64 (((j + 1 : Nat) : Int) - 1) = (j : Int) := by unfold wrap64; omega
      rw [if_pos hi0, e2, if_pos (by omega), if_pos (by omega)]
      by_cases h2 : rd l ((j + 1 : Nat) : Int) ≥ rd l (j : Int)
      · rw [if_pos h2]; exact ⟨_, rfl⟩
      · rw [if_neg h2]; exact ih
    · rw [if_neg hi0]; exact ih
def FpK (s : List UInt8) (Y : List ByteArray) (ws : List Int) : Prop := ((s = ([99, 121, 99, 108, 105, 99] : List UInt8) ∨ s = ([102, 105, 120, 101, 100] : List UInt8) ∨ s = ([115, 121, 109, 98, 111, 108, 105, 99] : List UInt8)) → 1 ≤ Y.length) ∧ ((s = ([97, 108, 112, 104, 97, 98, 101, 116, 105, 99] : List UInt8) ∨ s = ([110, 117, 109, 101, 114, 105, 99] : List UInt8)) → 2 ≤ Y.length) ∧ (s = ([97, 100, 100, 105, 116, 105, 118, 101] : List UInt8) → Y.length = ws.length)
theorem fp_j1 (a0_0 : ByteArray) (a0_1 : ByteArray) (a0_2 : Int) (l0_3 : List ByteArray) (l0_4 : List Int) (a0_5 : ByteArray) (a0_6 : ByteArray) (a0_7 : ByteArray) (a0_8 : ByteArray) (a0_9 : Bool) (l0_10 : List (S41)) (a0_11 : Int) (a0_12 : ByteArray) (a0_13 : ByteArray) (a0_14 : ByteArray) (a0_15 : Int) (h4 : l0_4.length ≤ 100) (x13 : Bool) (hx : x13 = true → a0_1.toList = ([97, 108, 112, 104, 97, 98, 101, 116, 105, 99] : List UInt8) ∨ a0_1.toList = ([110, 117, 109, 101, 114, 105, 99] : List UInt8)) (hn : x13 = false → a0_1.toList ≠ ([97, 108, 112, 104, 97, 98, 101, 116, 105, 99] : List UInt8) ∧ a0_1.toList ≠ ([110, 117, 109, 101, 114, 105, 99] : List UInt8)) (hc : a0_1.toList ≠ ([99, 121, 99, 108, 105, 99] : List UInt8) ∧ a0_1.toList ≠ ([102, 105, 120, 101, 100] : List UInt8) ∧ a0_1.toList ≠ ([115, 121, 109, 98, 111, 108, 105, 99] : List UInt8)) :
    ∃ b, system_kind.j1 151 a0_1 x13 a0_0 a0_1 a0_2 l0_3 l0_4 a0_5 a0_6 a0_7 a0_8 a0_9 l0_10 a0_11 a0_12 a0_13 a0_14 a0_15 = some b ∧ (b = true → FpK a0_1.toList l0_3 l0_4) := by
  rw [show 151 = 150 + 1 from rfl, system_kind.j1]
  by_cases hx1 : x13 = true
  · rw [if_pos hx1]
    refine ⟨_, rfl, fun hb => ⟨fun h => ?_, fun _ => (by have := of_decide_eq_true hb; omega), fun h => ?_⟩⟩
    · rcases h with h | h | h
      · exact absurd h hc.1
      · exact absurd h hc.2.1
      · exact absurd h hc.2.2
    · rcases hx hx1 with h1 | h1 <;> (rw [h1] at h; exact absurd h (by decide))
  · have hx2 := hn (by simpa using hx1)
    rw [if_neg hx1]
    by_cases ha : a0_1.toList = ([97, 100, 100, 105, 116, 105, 118, 101] : List UInt8)
    · rw [if_pos ha]
      by_cases h5 : (l0_3.length : Int) ≥ 1
      · rw [if_pos h5]
        by_cases h6 : (l0_3.length : Int) = (l0_4.length : Int)
        · rw [if_pos h6]
          obtain ⟨b, hb⟩ := fp_falling l0_4 h4 l0_4.length 0 150 (by omega) (by omega)
          have hb' : system_falling.f 150 l0_4 = some b := hb
          rw [hb']
          exact ⟨b, rfl, fun _ => ⟨fun h => h.elim (fun h => absurd h hc.1) fun h => h.elim (fun h => absurd h hc.2.1) fun h => absurd h hc.2.2, fun h => h.elim (fun h => absurd h hx2.1) fun h => absurd h hx2.2, fun _ => by omega⟩⟩
        · rw [if_neg h6]; exact ⟨_, rfl, fun h => by cases h⟩
      · rw [if_neg h5]; exact ⟨_, rfl, fun h => by cases h⟩
    · rw [if_neg ha]
      by_cases he : a0_1.toList = ([101, 120, 116, 101, 110, 100, 115] : List UInt8)
      · rw [if_pos he]
        exact ⟨_, rfl, fun _ => ⟨fun h => h.elim (fun h => absurd h hc.1) fun h => h.elim (fun h => absurd h hc.2.1) fun h => absurd h hc.2.2, fun h => h.elim (fun h => absurd h hx2.1) fun h => absurd h hx2.2, fun h => absurd h ha⟩⟩
      · rw [if_neg he]; exact ⟨_, rfl, fun h => by cases h⟩
theorem fp_j0t (a0_0 : ByteArray) (a0_1 : ByteArray) (a0_2 : Int) (l0_3 : List ByteArray) (l0_4 : List Int) (a0_5 : ByteArray) (a0_6 : ByteArray) (a0_7 : ByteArray) (a0_8 : ByteArray) (a0_9 : Bool) (l0_10 : List (S41)) (a0_11 : Int) (a0_12 : ByteArray) (a0_13 : ByteArray) (a0_14 : ByteArray) (a0_15 : Int) (k : Nat) (h : a0_1.toList = ([99, 121, 99, 108, 105, 99] : List UInt8) ∨ a0_1.toList = ([102, 105, 120, 101, 100] : List UInt8) ∨ a0_1.toList = ([115, 121, 109, 98, 111, 108, 105, 99] : List UInt8)) : ∃ b, system_kind.j0 (k + 1) a0_1 true a0_0 a0_1 a0_2 l0_3 l0_4 a0_5 a0_6 a0_7 a0_8 a0_9 l0_10 a0_11 a0_12 a0_13 a0_14 a0_15 = some b ∧ (b = true → FpK a0_1.toList l0_3 l0_4) := by
  rw [system_kind.j0, if_pos rfl]
  refine ⟨_, rfl, fun hb => ⟨fun _ => (by have := of_decide_eq_true hb; omega), fun h1 => ?_, fun h1 => ?_⟩⟩
  · rcases h with h | h | h <;> rw [h] at h1 <;> rcases h1 with h1 | h1 <;> exact absurd h1 (by decide)
  · rcases h with h | h | h <;> (rw [h] at h1; exact absurd h1 (by decide))
theorem fp_kind (a0_0 : ByteArray) (a0_1 : ByteArray) (a0_2 : Int) (l0_3 : List ByteArray) (l0_4 : List Int) (a0_5 : ByteArray) (a0_6 : ByteArray) (a0_7 : ByteArray) (a0_8 : ByteArray) (a0_9 : Bool) (l0_10 : List (S41)) (a0_11 : Int) (a0_12 : ByteArray) (a0_13 : ByteArray) (a0_14 : ByteArray) (a0_15 : Int) (h4 : l0_4.length ≤ 100) : ∃ b, system_kind.f 152 a0_0 a0_1 a0_2 l0_3 l0_4 a0_5 a0_6 a0_7 a0_8 a0_9 l0_10 a0_11 a0_12 a0_13 a0_14 a0_15 = some b ∧ (b = true → FpK a0_1.toList l0_3 l0_4) := by
  rw [system_kind.f]
  by_cases c1 : a0_1.toList = ([99, 121, 99, 108, 105, 99] : List UInt8)
  · rw [if_pos c1, show (a0_1.toList == ([99, 121, 99, 108, 105, 99] : List UInt8)) = true by simp [c1]]
    exact fp_j0t a0_0 a0_1 a0_2 l0_3 l0_4 a0_5 a0_6 a0_7 a0_8 a0_9 l0_10 a0_11 a0_12 a0_13 a0_14 a0_15 151 (.inl c1)
  rw [if_neg c1]
  by_cases c2 : a0_1.toList = ([115, 121, 109, 98, 111, 108, 105, 99] : List UInt8)
  · rw [if_pos c2, show (a0_1.toList == ([115, 121, 109, 98, 111, 108, 105, 99] : List UInt8)) = true by simp [c2]]
    exact fp_j0t a0_0 a0_1 a0_2 l0_3 l0_4 a0_5 a0_6 a0_7 a0_8 a0_9 l0_10 a0_11 a0_12 a0_13 a0_14 a0_15 151 (.inr (.inr c2))
  rw [if_neg c2]
  by_cases c3 : a0_1.toList = ([102, 105, 120, 101, 100] : List UInt8)
  · rw [show (a0_1.toList == ([102, 105, 120, 101, 100] : List UInt8)) = true by simp [c3]]
    exact fp_j0t a0_0 a0_1 a0_2 l0_3 l0_4 a0_5 a0_6 a0_7 a0_8 a0_9 l0_10 a0_11 a0_12 a0_13 a0_14 a0_15 151 (.inr (.inl c3))
  rw [show (a0_1.toList == ([102, 105, 120, 101, 100] : List UInt8)) = false by simp [c3], show 152 = 151 + 1 from rfl, system_kind.j0, if_neg (by decide)]
  by_cases c4 : a0_1.toList = ([97, 108, 112, 104, 97, 98, 101, 116, 105, 99] : List UInt8)
  · rw [if_pos c4, show (a0_1.toList == ([97, 108, 112, 104, 97, 98, 101, 116, 105, 99] : List UInt8)) = true by simp [c4]]
    exact fp_j1 a0_0 a0_1 a0_2 l0_3 l0_4 a0_5 a0_6 a0_7 a0_8 a0_9 l0_10 a0_11 a0_12 a0_13 a0_14 a0_15 h4 true (fun _ => .inl c4) (fun h => by cases h) ⟨c1, c3, c2⟩
  rw [if_neg c4]
  by_cases c5 : a0_1.toList = ([110, 117, 109, 101, 114, 105, 99] : List UInt8)
  · rw [show (a0_1.toList == ([110, 117, 109, 101, 114, 105, 99] : List UInt8)) = true by simp [c5]]
    exact fp_j1 a0_0 a0_1 a0_2 l0_3 l0_4 a0_5 a0_6 a0_7 a0_8 a0_9 l0_10 a0_11 a0_12 a0_13 a0_14 a0_15 h4 true (fun _ => .inr c5) (fun h => by cases h) ⟨c1, c3, c2⟩
  rw [show (a0_1.toList == ([110, 117, 109, 101, 114, 105, 99] : List UInt8)) = false by simp [c5]]
  exact fp_j1 a0_0 a0_1 a0_2 l0_3 l0_4 a0_5 a0_6 a0_7 a0_8 a0_9 l0_10 a0_11 a0_12 a0_13 a0_14 a0_15 h4 false (fun h => by cases h) (fun _ => ⟨c4, c5⟩) ⟨c1, c3, c2⟩
def fpY (a0_7 a0_8 a0_12 a0_5 a0_6 : ByteArray) (l0_3 : List ByteArray) : List ByteArray := [a0_7, a0_8, a0_12, a0_5, a0_6] ++ l0_3
theorem fp_may_is (a0_0 : ByteArray) (a0_1 : ByteArray) (a0_2 : Int) (l0_3 : List ByteArray) (l0_4 : List Int) (a0_5 : ByteArray) (a0_6 : ByteArray) (a0_7 : ByteArray) (a0_8 : ByteArray) (a0_9 : Bool) (l0_10 : List (S41)) (a0_11 : Int) (a0_12 : ByteArray) (a0_13 : ByteArray) (a0_14 : ByteArray) (a0_15 : Int) (h3 : l0_3.length ≤ 100) (b : Bool) (hb : system_kind.f 152 a0_0 a0_1 a0_2 l0_3 l0_4 a0_5 a0_6 a0_7 a0_8 a0_9 l0_10 a0_11 a0_12 a0_13 a0_14 a0_15 = some b) :
    system_May.f 152 a0_0 a0_1 a0_2 l0_3 l0_4 a0_5 a0_6 a0_7 a0_8 a0_9 l0_10 a0_11 a0_12 a0_13 a0_14 a0_15 = some (b && !decide ((l0_3.length : Int) > 64) && !decide (a0_11 < 0) && !decide (a0_11 > 200) && !((fpY a0_7 a0_8 a0_12 a0_5 a0_6 l0_3).any longB) && !(l0_10.any oddB)) := by
  rw [system_May.f]
  simp only [Option.bind_some]
  rw [if_pos (by simp; omega), hb]
  simp only [Option.bind_some]
  rw [show 152 = 151 + 1 from rfl]
  simp only [system_May.j0]
  cases b with
  | false => rfl
  | true =>
    rw [if_pos rfl]
    by_cases c1 : (l0_3.length : Int) > 64
    · simp only [c1, if_true]; simp
    by_cases c2 : a0_11 < 0
    · simp only [c1, c2, if_true, if_false]; simp
    by_cases c3 : a0_11 > 200
    · simp only [c1, c2, c3, if_true, if_false]; simp
    rw [if_neg c1, if_neg c2, if_neg c3]
    unfold slices_ContainsFunc_string_string.f slices_ContainsFunc_2_int_2_int.f
    simp only [Option.bind_some]
    rw [show ([a0_7, a0_8, a0_12, a0_5, a0_6] ++ l0_3) = fpY a0_7 a0_8 a0_12 a0_5 a0_6 l0_3 from rfl]
    cases hl : (fpY a0_7 a0_8 a0_12 a0_5 a0_6 l0_3).any longB <;> simp [c1, c2, c3]
theorem fp_may (a0_0 : ByteArray) (a0_1 : ByteArray) (a0_2 : Int) (l0_3 : List ByteArray) (l0_4 : List Int) (a0_5 : ByteArray) (a0_6 : ByteArray) (a0_7 : ByteArray) (a0_8 : ByteArray) (a0_9 : Bool) (l0_10 : List (S41)) (a0_11 : Int) (a0_12 : ByteArray) (a0_13 : ByteArray) (a0_14 : ByteArray) (a0_15 : Int) (h3 : l0_3.length ≤ 100) (h4 : l0_4.length ≤ 100) : ∃ b, system_May.f 152 a0_0 a0_1 a0_2 l0_3 l0_4 a0_5 a0_6 a0_7 a0_8 a0_9 l0_10 a0_11 a0_12 a0_13 a0_14 a0_15 = some b ∧ (b = true → FpK a0_1.toList l0_3 l0_4 ∧ ∀ s ∈ l0_3, s.size ≤ 100) := by
  obtain ⟨b, hb, hk⟩ := fp_kind a0_0 a0_1 a0_2 l0_3 l0_4 a0_5 a0_6 a0_7 a0_8 a0_9 l0_10 a0_11 a0_12 a0_13 a0_14 a0_15 h4
  refine ⟨_, fp_may_is a0_0 a0_1 a0_2 l0_3 l0_4 a0_5 a0_6 a0_7 a0_8 a0_9 l0_10 a0_11 a0_12 a0_13 a0_14 a0_15 h3 b hb, fun h => ?_⟩
  simp only [Bool.and_eq_true, Bool.not_eq_true', fpY, List.any_append, Bool.or_eq_false_iff] at h
  refine ⟨hk h.1.1.1.1.1, fun s hs => ?_⟩
  have h5 := List.any_eq_false.1 h.1.2.2 s hs
  unfold longB at h5
  simp only [decide_eq_true_eq] at h5
  omega
theorem fp_may_pad (a0_0 : ByteArray) (a0_1 : ByteArray) (a0_2 : Int) (l0_3 : List ByteArray) (l0_4 : List Int) (a0_5 : ByteArray) (a0_6 : ByteArray) (a0_7 : ByteArray) (a0_8 : ByteArray) (a0_9 : Bool) (l0_10 : List (S41)) (a0_11 : Int) (a0_12 : ByteArray) (a0_13 : ByteArray) (a0_14 : ByteArray) (a0_15 : Int) (h3 : l0_3.length ≤ 100) (h4 : l0_4.length ≤ 100) : system_May.f 152 a0_0 a0_1 a0_2 l0_3 l0_4 a0_5 a0_6 a0_7 a0_8 a0_9 l0_10 201 a0_12 a0_13 a0_14 a0_15 = some false := by
  obtain ⟨b, hb, hk⟩ := fp_kind a0_0 a0_1 a0_2 l0_3 l0_4 a0_5 a0_6 a0_7 a0_8 a0_9 l0_10 201 a0_12 a0_13 a0_14 a0_15 h4
  rw [fp_may_is a0_0 a0_1 a0_2 l0_3 l0_4 a0_5 a0_6 a0_7 a0_8 a0_9 l0_10 201 a0_12 a0_13 a0_14 a0_15 h3 b hb]
  simp
theorem fp_may_pre (a0_0 : ByteArray) (a0_1 : ByteArray) (a0_2 : Int) (l0_3 : List ByteArray) (l0_4 : List Int) (a0_5 : ByteArray) (a0_6 : ByteArray) (a0_7 : ByteArray) (a0_8 : ByteArray) (a0_9 : Bool) (l0_10 : List (S41)) (a0_11 : Int) (a0_12 : ByteArray) (a0_13 : ByteArray) (a0_14 : ByteArray) (a0_15 : Int) (h3 : l0_3.length ≤ 100) (h4 : l0_4.length ≤ 100) (Z : ByteArray) (hZ : Z.size = 101) : system_May.f 152 a0_0 a0_1 a0_2 l0_3 l0_4 a0_5 a0_6 Z a0_8 a0_9 l0_10 a0_11 a0_12 a0_13 a0_14 a0_15 = some false := by
  obtain ⟨b, hb, hk⟩ := fp_kind a0_0 a0_1 a0_2 l0_3 l0_4 a0_5 a0_6 Z a0_8 a0_9 l0_10 a0_11 a0_12 a0_13 a0_14 a0_15 h4
  rw [fp_may_is a0_0 a0_1 a0_2 l0_3 l0_4 a0_5 a0_6 Z a0_8 a0_9 l0_10 a0_11 a0_12 a0_13 a0_14 a0_15 h3 b hb]
  have e : (fpY Z a0_8 a0_12 a0_5 a0_6 l0_3).any longB = true := by simp [fpY, longB, hZ]
  rw [e]
  simp
def FpF (Y : List ByteArray) (ws : List Int) : Prop := Y.length ≤ 70 ∧ ws.length ≤ 70
theorem fp_few1 (a0_0 : ByteArray) (a0_1 : ByteArray) (a0_2 : Int) (l0_3 : List ByteArray) (l0_4 : List Int) (a0_5 : ByteArray) (a0_6 : ByteArray) (a0_7 : ByteArray) (a0_8 : ByteArray) (a0_9 : Bool) (l0_10 : List (S41)) (a0_11 : Int) (a0_12 : ByteArray) (a0_13 : ByteArray) (a0_14 : ByteArray) (a0_15 : Int) (k : Nat) (x3 : Int) : ∃ b, fleuronlaw9_few.j1 (k + 1) x3 false a0_0 a0_1 a0_2 l0_3 l0_4 a0_5 a0_6 a0_7 a0_8 a0_9 l0_10 a0_11 a0_12 a0_13 a0_14 a0_15 = some b ∧ (b = true → FpF l0_3 l0_4) := by
  rw [fleuronlaw9_few.j1, if_neg (by decide)]
  by_cases c1 : (l0_3.length : Int) ≤ 70
  · by_cases c2 : (l0_4.length : Int) ≤ 70
    · rw [if_pos c1, if_pos c2]
      have hF : FpF l0_3 l0_4 := ⟨by omega, by omega⟩
      repeat' split
      all_goals exact ⟨_, rfl, fun _ => hF⟩
    · rw [if_pos c1, if_neg c2]; exact ⟨_, rfl, fun h => by cases h⟩
  · rw [if_neg c1]; exact ⟨_, rfl, fun h => by cases h⟩
theorem fp_few0 (a0_0 : ByteArray) (a0_1 : ByteArray) (a0_2 : Int) (l0_3 : List ByteArray) (l0_4 : List Int) (a0_5 : ByteArray) (a0_6 : ByteArray) (a0_7 : ByteArray) (a0_8 : ByteArray) (a0_9 : Bool) (l0_10 : List (S41)) (a0_11 : Int) (a0_12 : ByteArray) (a0_13 : ByteArray) (a0_14 : ByteArray) (a0_15 : Int) : ∀ (d i k : Nat), i + d = 80 → 2 * d + 2 ≤ k → ∃ b, fleuronlaw9_few.l0 k (i : Int) a0_0 a0_1 a0_2 l0_3 l0_4 a0_5 a0_6 a0_7 a0_8 a0_9 l0_10 a0_11 a0_12 a0_13 a0_14 a0_15 = some b ∧ (b = true → FpF l0_3 l0_4)
  | d, i, 0, _, hk => by omega
  | d, i, 1, _, hk => by omega
  | 0, i, k + 2, hi, hk => by
    rw [fleuronlaw9_few.l0]
    by_cases c1 : (i : Int) < (l0_3.length : Int)
    · rw [if_pos c1, decide_eq_false (by omega)]; exact fp_few1 a0_0 a0_1 a0_2 l0_3 l0_4 a0_5 a0_6 a0_7 a0_8 a0_9 l0_10 a0_11 a0_12 a0_13 a0_14 a0_15 k _
    · rw [if_neg c1]; exact fp_few1 a0_0 a0_1 a0_2 l0_3 l0_4 a0_5 a0_6 a0_7 a0_8 a0_9 l0_10 a0_11 a0_12 a0_13 a0_14 a0_15 k _
  | d + 1, i, k + 2, hi, hk => by
    have e1 : wrap64 ((i : Int) + 1) = ((i + 1 : Nat) : Int) := by unfold wrap64; omega
    rw [fleuronlaw9_few.l0]
    by_cases c1 : (i : Int) < (l0_3.length : Int)
    · rw [if_pos c1, decide_eq_true (by omega), fleuronlaw9_few.j1, if_pos rfl, if_pos (by omega), if_pos c1, e1]
      by_cases c2 : ((rdOf ByteArray.empty l0_3 (i : Int)).size : Int) > 120
      · rw [if_pos c2]; exact ⟨_, rfl, fun h => by cases h⟩
      · rw [if_neg c2]; exact fp_few0 a0_0 a0_1 a0_2 l0_3 l0_4 a0_5 a0_6 a0_7 a0_8 a0_9 l0_10 a0_11 a0_12 a0_13 a0_14 a0_15 d (i + 1) k (by omega) (by omega)
    · rw [if_neg c1]; exact fp_few1 a0_0 a0_1 a0_2 l0_3 l0_4 a0_5 a0_6 a0_7 a0_8 a0_9 l0_10 a0_11 a0_12 a0_13 a0_14 a0_15 k _
theorem fp_few (a0_0 : ByteArray) (a0_1 : ByteArray) (a0_2 : Int) (l0_3 : List ByteArray) (l0_4 : List Int) (a0_5 : ByteArray) (a0_6 : ByteArray) (a0_7 : ByteArray) (a0_8 : ByteArray) (a0_9 : Bool) (l0_10 : List (S41)) (a0_11 : Int) (a0_12 : ByteArray) (a0_13 : ByteArray) (a0_14 : ByteArray) (a0_15 : Int) : ∃ b, fleuronlaw9_few.f 200 a0_0 a0_1 a0_2 l0_3 l0_4 a0_5 a0_6 a0_7 a0_8 a0_9 l0_10 a0_11 a0_12 a0_13 a0_14 a0_15 = some b ∧ (b = true → FpF l0_3 l0_4) := fp_few0 a0_0 a0_1 a0_2 l0_3 l0_4 a0_5 a0_6 a0_7 a0_8 a0_9 l0_10 a0_11 a0_12 a0_13 a0_14 a0_15 80 0 200 (by omega) (by omega)
def FpP (Y : List ByteArray) (ps : List Int) : Prop := ∀ p ∈ ps, 0 ≤ p ∧ p < (Y.length : Int)
theorem FpP_snoc {Y : List ByteArray} {ps : List Int} {p : Int} (h : FpP Y ps) (h1 : 0 ≤ p) (h2 : p < (Y.length : Int)) : FpP Y (ps ++ [p]) := by
  intro q hq
  rcases List.mem_append.1 hq with hq | hq
  · exact h q hq
  · rw [List.mem_singleton.1 hq]; exact ⟨h1, h2⟩
theorem fp_chosen (a0_0 : ByteArray) (a0_1 : ByteArray) (a0_2 : Int) (l0_3 : List ByteArray) (l0_4 : List Int) (a0_5 : ByteArray) (a0_6 : ByteArray) (a0_7 : ByteArray) (a0_8 : ByteArray) (a0_9 : Bool) (l0_10 : List (S41)) (a0_11 : Int) (a0_12 : ByteArray) (a0_13 : ByteArray) (a0_14 : ByteArray) (a0_15 : Int) (hs : ∀ s ∈ l0_3, s.size ≤ 100) (ps : List Int) (hp : FpP l0_3 ps) : ∃ r : ByteArray × Bool, system_chosen.f a0_0 a0_1 a0_2 l0_3 l0_4 a0_5 a0_6 a0_7 a0_8 a0_9 l0_10 a0_11 a0_12 a0_13 a0_14 a0_15 ps = some r ∧ (r.2 = false → r.1 = (⟨#[]⟩ : ByteArray)) := by
  unfold system_chosen.f
  by_cases c : (ps.length : Int) > 60
  · rw [if_pos c]; exact ⟨_, rfl, fun _ => rfl⟩
  · rw [if_neg c, if_pos (by rw [List.all_eq_true]; intro p h; have := hp p h; simp; exact this), if_pos (by rw [List.all_eq_true]; intro s h; have := hs s h; simp; omega)]
    exact ⟨_, rfl, fun h => by cases h⟩
theorem fp_pos1 (Y : List ByteArray) (hb : 2 ≤ Y.length) (hb2 : Y.length ≤ 100) : ∀ (m n : Nat) (l : List Int) (k : Nat), n ≤ m → m < k → n ≤ 2147483648 → l.length + n ≤ 2147483700 → FpP Y l → ∃ l', system_positional.l1 k (n : Int) (Y.length : Int) l = some l' ∧ FpP Y l'
  | m, n, l, 0, _, hk, _, _, _ => by omega
  | m, 0, l, k + 1, _, _, _, _, hp => by rw [system_positional.l1, if_neg (by omega)]; exact ⟨_, rfl, hp⟩
  | 0, n + 1, l, k + 1, h, _, _, _, _ => by omega
  | m + 1, n + 1, l, k + 1, h, hk, hn, hl, hp => by
    have e1 : wrap64 (((n + 1 : Nat) : Int) - 1) = (n : Int) := by unfold wrap64; omega
    have h3 : n / Y.length ≤ n := Nat.div_le_self _ _
    have e2 : wrap64 (Int.tdiv (n : Int) (Y.length : Int)) = ((n / Y.length : Nat) : Int) := by
      rw [← Int.ofNat_tdiv]; generalize n / Y.length = q at *; unfold wrap64; omega
    have t1 : 0 ≤ Int.tmod (((n + 1 : Nat) : Int) - 1) (Y.length : Int) := Int.tmod_nonneg _ (by omega)
    have t2 := Int.tmod_lt_of_pos (((n + 1 : Nat) : Int) - 1) (show (0 : Int) < (Y.length : Int) by omega)
    rw [system_positional.l1, if_pos (by omega), if_neg (by omega), if_pos (by omega), e1]
    rw [show (((n + 1 : Nat) : Int) - 1) = (n : Int) by omega] at t1 t2
    rw [e2]
    generalize n / Y.length = q at *
    exact fp_pos1 Y hb hb2 m q _ k (by omega) (by omega) (by omega) (by simp; omega) (FpP_snoc hp t1 t2)
theorem fp_pos0 (Y : List ByteArray) (hb : 2 ≤ Y.length) (hb2 : Y.length ≤ 100) : ∀ (m n : Nat) (l : List Int) (k : Nat), n ≤ m → m < k → n ≤ 2147483648 → l.length + n ≤ 2147483700 → FpP Y l → ∃ l', system_positional.l0 k (n : Int) (Y.length : Int) l = some l' ∧ FpP Y l'
  | m, n, l, 0, _, hk, _, _, _ => by omega
  | m, n, l, k + 1, h, hk, hn, hl, hp => by
    by_cases c : (n : Int) ≥ (Y.length : Int)
    · have h3 : n / Y.length < n := Nat.div_lt_self (by omega) (by omega)
      have e2 : wrap64 (Int.tdiv (n : Int) (Y.length : Int)) = ((n / Y.length : Nat) : Int) := by
        rw [← Int.ofNat_tdiv]; generalize n / Y.length = q at *; unfold wrap64; omega
      have t1 : 0 ≤ Int.tmod ((n / Y.length : Nat) : Int) (Y.length : Int) := Int.tmod_nonneg _ (Int.natCast_nonneg _)
      have t2 := Int.tmod_lt_of_pos ((n / Y.length : Nat) : Int) (show (0 : Int) < (Y.length : Int) by omega)
      rw [system_positional.l0, if_pos c, if_neg (by omega), if_pos (by omega), e2]
      obtain ⟨m, rfl⟩ : ∃ m', m = m' + 1 := ⟨m - 1, by omega⟩
      generalize n / Y.length = q at *
      exact fp_pos0 Y hb hb2 m q _ k (by omega) (by omega) (by omega) (by simp; omega) (FpP_snoc hp t1 t2)
    · rw [system_positional.l0, if_neg c]; exact ⟨_, rfl, hp⟩
theorem fp_pos (Y : List ByteArray) (hb : 2 ≤ Y.length) (hb2 : Y.length ≤ 100) (n : Int) (h0 : 0 ≤ n) (h1 : n ≤ 2147483648) (zero : Bool) : ∃ k l', system_positional.f k n (Y.length : Int) zero = some l' ∧ FpP Y l' := by
  obtain ⟨n, rfl⟩ := Int.eq_ofNat_of_zero_le h0
  refine ⟨n + 1, ?_⟩
  unfold system_positional.f
  have t1 : 0 ≤ Int.tmod (n : Int) (Y.length : Int) := Int.tmod_nonneg _ (by omega)
  have t2 := Int.tmod_lt_of_pos (n : Int) (show (0 : Int) < (Y.length : Int) by omega)
  cases zero with
  | true =>
    rw [if_pos rfl, if_neg (by omega), if_pos (by simp)]
    exact fp_pos0 Y hb hb2 n n _ (n + 1) (by omega) (by omega) (by omega) (by simp; omega) (FpP_snoc (by intro p hp; cases hp) t1 t2)
  | false =>
    rw [if_neg (by decide)]
    exact fp_pos1 Y hb hb2 n n _ (n + 1) (by omega) (by omega) (by omega) (by simp; omega) (by intro p hp; cases hp)
theorem fp_set {Y : List ByteArray} {l : List Int} (h : FpP Y l) (i : Nat) {v : Int} (h1 : 0 ≤ v) (h2 : v < (Y.length : Int)) : FpP Y (l.set i v) := by
  intro p hp
  rcases List.mem_or_eq_of_mem_set hp with h3 | h3
  · exact h p h3
  · rw [h3]; exact ⟨h1, h2⟩
theorem fp_rd {Y : List ByteArray} {l : List Int} (h : FpP Y l) {i : Int} (h1 : 0 ≤ i) (h2 : i < (l.length : Int)) : 0 ≤ rd l i ∧ rd l i < (Y.length : Int) := by
  have h3 : i.toNat < l.length := by omega
  have e : rd l i = l[i.toNat]'h3 := by unfold rd; simp [List.getD, h3]
  rw [e]; exact h _ (List.getElem_mem h3)
theorem fp_rev0 (Y : List ByteArray) : ∀ (d : Nat) (l : List Int) (i j : Int) (k : Nat), l.length ≤ 1000 → d < k → 0 ≤ i → j < (l.length : Int) → -1 ≤ j → i ≤ 2000 → j - i < (d : Int) → FpP Y l → ∃ l', slices_Reverse_int_int.l0 k l i j = some l' ∧ FpP Y l'
  | d, l, i, j, 0, _, hk, _, _, _, _, _, _ => by omega
  | d, l, i, j, k + 1, hl, hk, h1, h2, h3, h4, h5, hp => by
    rw [slices_Reverse_int_int.l0]
    by_cases c : i < j
    · obtain ⟨d, rfl⟩ : ∃ d', d = d' + 1 := ⟨d - 1, by omega⟩
      have e1 : wrap64 (i + 1) = i + 1 := by unfold wrap64; omega
      have e2 : wrap64 (j - 1) = j - 1 := by unfold wrap64; omega
      rw [if_pos c, if_pos (by omega), if_pos (by omega), if_pos (by omega), if_pos (by omega), e1, e2]
      have r1 := fp_rd hp (show 0 ≤ j by omega) h2
      have r2 := fp_rd hp h1 (show i < (l.length : Int) by omega)
      exact fp_rev0 Y d _ (i + 1) (j - 1) k (by simpa using hl) (by omega) (by omega) (by simp; omega) (by omega) (by omega) (by omega) (fp_set (fp_set hp _ r1.1 r1.2) _ r2.1 r2.2)
    · rw [if_neg c]; exact ⟨_, rfl, hp⟩
theorem fp_rev (Y : List ByteArray) (l : List Int) (k : Nat) (hl : l.length ≤ 100) (hk : 150 ≤ k) (hp : FpP Y l) : ∃ l', slices_Reverse_int_int.f k l = some l' ∧ FpP Y l' := by
  unfold slices_Reverse_int_int.f
  rw [show wrap64 ((l.length : Int) - 1) = (l.length : Int) - 1 by unfold wrap64; omega]
  exact fp_rev0 Y 101 l 0 _ k (by omega) (by omega) (by omega) (by omega) (by omega) (by omega) (by omega) hp
def FpR (r : ByteArray × Bool) : Prop := r.2 = false → r.1 = (⟨#[]⟩ : ByteArray)
theorem fp_addl (a0_0 : ByteArray) (a0_1 : ByteArray) (a0_2 : Int) (l0_3 : List ByteArray) (l0_4 : List Int) (a0_5 : ByteArray) (a0_6 : ByteArray) (a0_7 : ByteArray) (a0_8 : ByteArray) (a0_9 : Bool) (l0_10 : List (S41)) (a0_11 : Int) (a0_12 : ByteArray) (a0_13 : ByteArray) (a0_14 : ByteArray) (a0_15 : Int) (h4 : l0_4.length ≤ 100) (hY : l0_3.length = l0_4.length) (hs : ∀ s ∈ l0_3, s.size ≤ 100) : ∀ (k : Nat),
    (∀ (i : Nat) (n : Int) (ps : List Int), i ≤ l0_4.length → ps.length ≤ 61 → FpP l0_3 ps → 2 * (l0_4.length - i) + 2 * (61 - ps.length) + 201 < k → ∃ r, system_additive.l0 k n ps l0_4 (l0_4.length : Int) (i : Int) a0_0 a0_1 a0_2 l0_3 l0_4 a0_5 a0_6 a0_7 a0_8 a0_9 l0_10 a0_11 a0_12 a0_13 a0_14 a0_15 = some r ∧ FpR r) ∧
    (∀ (i : Nat) (n w : Int) (ps : List Int), i < l0_4.length → ps.length ≤ 61 → FpP l0_3 ps → 2 * (l0_4.length - i) + 2 * (61 - ps.length) + 200 < k → ∃ r, system_additive.l1 k n ps (i : Int) w l0_4 (l0_4.length : Int) (i : Int) a0_0 a0_1 a0_2 l0_3 l0_4 a0_5 a0_6 a0_7 a0_8 a0_9 l0_10 a0_11 a0_12 a0_13 a0_14 a0_15 = some r ∧ FpR r)
  | 0 => ⟨fun _ _ _ _ _ _ h => by omega, fun _ _ _ _ _ _ _ h => by omega⟩
  | k + 1 => by
    obtain ⟨ih0, ih1⟩ := fp_addl a0_0 a0_1 a0_2 l0_3 l0_4 a0_5 a0_6 a0_7 a0_8 a0_9 l0_10 a0_11 a0_12 a0_13 a0_14 a0_15 h4 hY hs k
    refine ⟨fun i n ps hi hl hp hk => ?_, fun i n w ps hi hl hp hk => ?_⟩
    · have e1 : wrap64 ((i : Int) + 1) = ((i + 1 : Nat) : Int) := by unfold wrap64; omega
      rw [system_additive.l0]
      by_cases c1 : (i : Int) < (l0_4.length : Int)
      · rw [if_pos c1, if_pos (by omega), if_pos c1, e1]
        by_cases c2 : rd l0_4 (i : Int) = 0
        · rw [if_pos c2]; exact ih0 (i + 1) n ps (by omega) hl hp (by omega)
        · rw [if_neg c2]; exact ih1 i n _ ps (by omega) hl hp (by omega)
      · rw [if_neg c1]
        obtain ⟨l', hl', hp'⟩ := fp_rev l0_3 ps k (by omega) (by omega) hp
        obtain ⟨r, hr, hr2⟩ := fp_chosen a0_0 a0_1 a0_2 l0_3 l0_4 a0_5 a0_6 a0_7 a0_8 a0_9 l0_10 a0_11 a0_12 a0_13 a0_14 a0_15 hs l' hp'
        rw [hl']
        simp only [Option.bind_some]
        rw [hr]
        simp only [Option.bind_some]
        by_cases c3 : n > 0
        · rw [if_pos c3]; exact ⟨_, rfl, fun _ => rfl⟩
        · rw [if_neg c3]
          by_cases c4 : r.2 = true
          · rw [if_pos c4]; exact ⟨_, rfl, fun h => by cases h⟩
          · rw [if_neg c4]; exact ⟨_, rfl, fun _ => rfl⟩
    · have e1 : wrap64 ((i : Int) + 1) = ((i + 1 : Nat) : Int) := by unfold wrap64; omega
      rw [system_additive.l1, e1]
      by_cases c1 : n ≥ w
      · rw [if_pos c1]
        by_cases c2 : (ps.length : Int) ≤ 60
        · rw [if_pos c2, if_pos (by omega)]
          exact ih1 i _ w _ hi (by simp; omega) (FpP_snoc hp (by omega) (by omega)) (by simp; omega)
        · rw [if_neg c2]; exact ih0 (i + 1) n ps (by omega) hl hp (by omega)
      · rw [if_neg c1]; exact ih0 (i + 1) n ps (by omega) hl hp (by omega)
theorem fp_index (l : List Int) (v : Int) (hl : l.length ≤ 100) : ∀ (d i k : Nat), i + d = l.length → d < k → ∃ t, slices_Index_int_int.l0 k l v (l.length : Int) (i : Int) = some t ∧ t < (l.length : Int)
  | d, i, 0, _, hk => by omega
  | 0, i, k + 1, hi, hk => by rw [slices_Index_int_int.l0, if_neg (by omega)]; exact ⟨_, rfl, by omega⟩
  | d + 1, i, k + 1, hi, hk => by
    have e1 : wrap64 ((i : Int) + 1) = ((i + 1 : Nat) : Int) := by unfold wrap64; omega
    rw [slices_Index_int_int.l0, if_pos (by omega), if_pos (by omega), if_pos (by omega), e1]
    by_cases c : v = rd l (i : Int)
    · rw [if_pos c]; exact ⟨_, rfl, by omega⟩
    · rw [if_neg c]; exact fp_index l v hl d (i + 1) k (by omega) (by omega)
theorem fp_add (a0_0 : ByteArray) (a0_1 : ByteArray) (a0_2 : Int) (l0_3 : List ByteArray) (l0_4 : List Int) (a0_5 : ByteArray) (a0_6 : ByteArray) (a0_7 : ByteArray) (a0_8 : ByteArray) (a0_9 : Bool) (l0_10 : List (S41)) (a0_11 : Int) (a0_12 : ByteArray) (a0_13 : ByteArray) (a0_14 : ByteArray) (a0_15 : Int) (h4 : l0_4.length ≤ 100) (hY : l0_3.length = l0_4.length) (hs : ∀ s ∈ l0_3, s.size ≤ 100) (n : Int) : ∃ r, system_additive.f 1000 a0_0 a0_1 a0_2 l0_3 l0_4 a0_5 a0_6 a0_7 a0_8 a0_9 l0_10 a0_11 a0_12 a0_13 a0_14 a0_15 n = some r ∧ FpR r := by
  unfold system_additive.f
  by_cases c : n = 0
  · rw [if_pos c]
    obtain ⟨t, ht, ht2⟩ := fp_index l0_4 0 h4 l0_4.length 0 1000 (by omega) (by omega)
    have ht' : slices_Index_int_int.f 1000 l0_4 0 = some t := ht
    rw [ht']
    simp only [Option.bind_some]
    by_cases c2 : t < 0
    · rw [if_pos c2]; exact ⟨_, rfl, fun _ => rfl⟩
    · rw [if_neg c2, if_pos (by omega), if_pos (by omega)]; exact ⟨_, rfl, fun h => by cases h⟩
  · rw [if_neg c]
    exact (fp_addl a0_0 a0_1 a0_2 l0_3 l0_4 a0_5 a0_6 a0_7 a0_8 a0_9 l0_10 a0_11 a0_12 a0_13 a0_14 a0_15 h4 hY hs 1000).1 0 n [] (by omega) (by simp) (by intro p hp; cases hp) (by simp; omega)
theorem fp_w (x : Int) (h1 : -9223372036854775808 ≤ x) (h2 : x ≤ 9223372036854775807) : wrap64 x = x := by unfold wrap64; omega
theorem fp_rep (Y : List ByteArray) (hs : ∀ s ∈ Y, s.size ≤ 100) (i : Int) (x : Int) (h0 : 0 ≤ x) (h1 : x ≤ 60) : ∃ r, strings_Repeat.f (rdOf ByteArray.empty Y i) x = some r := by
  have hz : (rdOf ByteArray.empty Y i).size ≤ 100 := by
    unfold rdOf
    rw [List.getD_eq_getElem?_getD]
    cases h : Y[i.toNat]? with
    | none => simp
    | some s => exact hs s (List.mem_of_getElem? h)
  have h2 : x.toNat ≤ 60 := by omega
  have h3 : (rdOf ByteArray.empty Y i).size * x.toNat ≤ 100 * 60 := Nat.mul_le_mul hz h2
  unfold strings_Repeat.f
  rw [if_pos h0, if_pos (by omega), if_pos (by omega)]
  exact ⟨_, rfl⟩
def FpS (s : List UInt8) (a1 : Int) (r : ByteArray × Bool) : Prop := FpR r ∧ (r.2 = true → -2147483648 ≤ a1 ∧ a1 ≤ 2147483648 ∧ s ≠ ([101, 120, 116, 101, 110, 100, 115] : List UInt8))
theorem FpS.yes {s : List UInt8} {a1 : Int} {r : ByteArray × Bool} (hr : FpR r) (d1 : -2147483648 ≤ a1) (d2 : a1 ≤ 2147483648) (h : s ≠ ([101, 120, 116, 101, 110, 100, 115] : List UInt8)) : FpS s a1 r := ⟨hr, fun _ => ⟨d1, d2, h⟩⟩
theorem FpS.is {s : List UInt8} {a1 : Int} {t : ByteArray} (d1 : -2147483648 ≤ a1) (d2 : a1 ≤ 2147483648) (h : s ≠ ([101, 120, 116, 101, 110, 100, 115] : List UInt8)) : FpS s a1 (t, true) := And.intro (fun h => by cases h) (fun _ => ⟨d1, d2, h⟩)
theorem FpS.no {s : List UInt8} {a1 : Int} : FpS s a1 ((⟨#[]⟩ : ByteArray), false) := And.intro (fun _ => rfl) (fun h => by cases h)
theorem fp_j0 (a0_0 : ByteArray) (a0_1 : ByteArray) (a0_2 : Int) (l0_3 : List ByteArray) (l0_4 : List Int) (a0_5 : ByteArray) (a0_6 : ByteArray) (a0_7 : ByteArray) (a0_8 : ByteArray) (a0_9 : Bool) (l0_10 : List (S41)) (a0_11 : Int) (a0_12 : ByteArray) (a0_13 : ByteArray) (a0_14 : ByteArray) (a0_15 : Int) (a1 : Int) (h3 : l0_3.length ≤ 100) (h4 : l0_4.length ≤ 100) (hK : FpK a0_1.toList l0_3 l0_4) (hs : ∀ s ∈ l0_3, s.size ≤ 100) (d1 : -2147483648 ≤ a1) (d2 : a1 ≤ 2147483648) : ∃ k r, system_Signs.j0 k a1 false a0_0 a0_1 a0_2 l0_3 l0_4 a0_5 a0_6 a0_7 a0_8 a0_9 l0_10 a0_11 a0_12 a0_13 a0_14 a0_15 = some r ∧ FpS a0_1.toList a1 r := by
  obtain ⟨K1, K2, K3⟩ := hK
  by_cases c1 : a0_1.toList = ([99, 121, 99, 108, 105, 99] : List UInt8)
  · have h1 := K1 (.inl c1)
    refine ⟨1, ?_⟩
    have t1 := Int.tmod_lt_of_pos (a1 - 1) (show (0 : Int) < (l0_3.length : Int) by omega)
    have t2 := Int.lt_tmod_of_pos (a1 - 1) (show (0 : Int) < (l0_3.length : Int) by omega)
    rw [show 1 = 0 + 1 from rfl, system_Signs.j0, if_neg (by decide), if_pos c1, if_neg (by omega), fp_w (a1 - 1) (by omega) (by omega), fp_w (Int.tmod (a1 - 1) (l0_3.length : Int) + (l0_3.length : Int)) (by omega) (by omega)]
    rw [if_pos (Int.tmod_nonneg _ (by omega)), if_pos (Int.tmod_lt_of_pos _ (by omega))]
    exact ⟨_, rfl, FpS.is d1 d2 (by rw [c1]; decide)⟩
  by_cases c2 : a0_1.toList = ([102, 105, 120, 101, 100] : List UInt8)
  · have h1 := K1 (.inr (.inl c2))
    refine ⟨1, ?_⟩
    rw [show 1 = 0 + 1 from rfl, system_Signs.j0, if_neg (by decide), if_neg c1, if_pos c2]
    by_cases c3 : a1 ≥ a0_2
    · rw [if_pos c3]
      have hu : 0 ≤ IntKind.u64.wrap (IntKind.u64.wrap a1 - IntKind.u64.wrap a0_2) := by rw [IntKind.wrap_u64]; omega
      generalize IntKind.u64.wrap (IntKind.u64.wrap a1 - IntKind.u64.wrap a0_2) = u at *
      by_cases c4 : u < IntKind.u64.wrap (l0_3.length : Int)
      · rw [if_pos c4]
        rw [IntKind.wrap_u64] at c4
        rw [if_pos hu, if_pos (by omega)]
        exact ⟨_, rfl, FpS.is d1 d2 (by rw [c2]; decide)⟩
      · rw [if_neg c4]; exact ⟨_, rfl, FpS.no⟩
    · rw [if_neg c3]; exact ⟨_, rfl, FpS.no⟩
  by_cases c3 : a0_1.toList = ([115, 121, 109, 98, 111, 108, 105, 99] : List UInt8)
  · have h1 := K1 (.inr (.inr c3))
    refine ⟨1, ?_⟩
    rw [show 1 = 0 + 1 from rfl, system_Signs.j0, if_neg (by decide), if_neg c1, if_neg c2, if_pos c3, if_neg (by omega)]
    by_cases c4 : a1 ≥ 1
    · have q0 : 0 ≤ Int.tdiv (a1 + (l0_3.length : Int) - 1) (l0_3.length : Int) := Int.tdiv_nonneg (by omega) (by omega)
      have q1 : Int.tdiv (a1 + (l0_3.length : Int) - 1) (l0_3.length : Int) ≤ a1 + (l0_3.length : Int) - 1 := Int.tdiv_le_self _ (by omega)
      rw [if_pos c4, fp_w (a1 + (l0_3.length : Int)) (by omega) (by omega), fp_w (a1 + (l0_3.length : Int) - 1) (by omega) (by omega), fp_w (a1 - 1) (by omega) (by omega), fp_w (Int.tdiv _ _) (by omega) (by omega)]
      by_cases c5 : Int.tdiv (a1 + (l0_3.length : Int) - 1) (l0_3.length : Int) ≤ 60
      · rw [if_pos c5, if_pos (Int.tmod_nonneg _ (by omega)), if_pos (Int.tmod_lt_of_pos _ (by omega))]
        obtain ⟨r, hr⟩ := fp_rep l0_3 hs (Int.tmod (a1 - 1) (l0_3.length : Int)) _ q0 c5
        rw [hr]
        exact ⟨_, rfl, FpS.is d1 d2 (by rw [c3]; decide)⟩
      · rw [if_neg c5]; exact ⟨_, rfl, FpS.no⟩
    · rw [if_neg c4]; exact ⟨_, rfl, FpS.no⟩
  by_cases c4 : a0_1.toList = ([97, 108, 112, 104, 97, 98, 101, 116, 105, 99] : List UInt8)
  · have h1 := K2 (.inl c4)
    by_cases c5 : a1 ≥ 1
    · obtain ⟨k, l', hk, hp⟩ := fp_pos l0_3 h1 h3 a1 (by omega) d2 false
      obtain ⟨r, hr, hr2⟩ := fp_chosen a0_0 a0_1 a0_2 l0_3 l0_4 a0_5 a0_6 a0_7 a0_8 a0_9 l0_10 a0_11 a0_12 a0_13 a0_14 a0_15 hs l' hp
      refine ⟨k + 1, ?_⟩
      rw [system_Signs.j0, if_neg (by decide), if_neg c1, if_neg c2, if_neg c3, if_pos c4, if_pos c5, hk]
      simp only [Option.bind_some]
      rw [hr]
      exact ⟨_, rfl, FpS.yes hr2 d1 d2 (by rw [c4]; decide)⟩
    · refine ⟨1, ?_⟩
      rw [show 1 = 0 + 1 from rfl, system_Signs.j0, if_neg (by decide), if_neg c1, if_neg c2, if_neg c3, if_pos c4, if_neg c5]
      exact ⟨_, rfl, FpS.no⟩
  by_cases c5 : a0_1.toList = ([110, 117, 109, 101, 114, 105, 99] : List UInt8)
  · have h1 := K2 (.inr c5)
    by_cases c6 : a1 ≥ 0
    · obtain ⟨k, l', hk, hp⟩ := fp_pos l0_3 h1 h3 a1 (by omega) d2 true
      obtain ⟨r, hr, hr2⟩ := fp_chosen a0_0 a0_1 a0_2 l0_3 l0_4 a0_5 a0_6 a0_7 a0_8 a0_9 l0_10 a0_11 a0_12 a0_13 a0_14 a0_15 hs l' hp
      refine ⟨k + 1, ?_⟩
      rw [system_Signs.j0, if_neg (by decide), if_neg c1, if_neg c2, if_neg c3, if_neg c4, if_pos c5, if_pos c6, hk]
      simp only [Option.bind_some]
      rw [hr]
      exact ⟨_, rfl, FpS.yes hr2 d1 d2 (by rw [c5]; decide)⟩
    · refine ⟨1, ?_⟩
      rw [show 1 = 0 + 1 from rfl, system_Signs.j0, if_neg (by decide), if_neg c1, if_neg c2, if_neg c3, if_neg c4, if_pos c5, if_neg c6]
      exact ⟨_, rfl, FpS.no⟩
  by_cases c6 : a0_1.toList = ([97, 100, 100, 105, 116, 105, 118, 101] : List UInt8)
  · refine ⟨1001, ?_⟩
    rw [show 1001 = 1000 + 1 from rfl, system_Signs.j0, if_neg (by decide), if_neg c1, if_neg c2, if_neg c3, if_neg c4, if_neg c5, if_pos c6]
    by_cases c7 : a1 ≥ 0
    · obtain ⟨r, hr, hr2⟩ := fp_add a0_0 a0_1 a0_2 l0_3 l0_4 a0_5 a0_6 a0_7 a0_8 a0_9 l0_10 a0_11 a0_12 a0_13 a0_14 a0_15 h4 (K3 c6) hs a1
      rw [if_pos c7, hr]
      exact ⟨_, rfl, FpS.yes hr2 d1 d2 (by rw [c6]; decide)⟩
    · rw [if_neg c7]; exact ⟨_, rfl, FpS.no⟩
  refine ⟨1, ?_⟩
  rw [show 1 = 0 + 1 from rfl, system_Signs.j0, if_neg (by decide), if_neg c1, if_neg c2, if_neg c3, if_neg c4, if_neg c5, if_neg c6]
  exact ⟨_, rfl, FpS.no⟩
theorem fp_j0_t (a0_0 : ByteArray) (a0_1 : ByteArray) (a0_2 : Int) (l0_3 : List ByteArray) (l0_4 : List Int) (a0_5 : ByteArray) (a0_6 : ByteArray) (a0_7 : ByteArray) (a0_8 : ByteArray) (a0_9 : Bool) (l0_10 : List (S41)) (a0_11 : Int) (a0_12 : ByteArray) (a0_13 : ByteArray) (a0_14 : ByteArray) (a0_15 : Int) (a1 : Int) (k : Nat) : system_Signs.j0 (k + 1) a1 true a0_0 a0_1 a0_2 l0_3 l0_4 a0_5 a0_6 a0_7 a0_8 a0_9 l0_10 a0_11 a0_12 a0_13 a0_14 a0_15 = some ((⟨#[]⟩ : ByteArray), false) := by rw [system_Signs.j0, if_pos rfl]
theorem fp_signs (a0_0 : ByteArray) (a0_1 : ByteArray) (a0_2 : Int) (l0_3 : List ByteArray) (l0_4 : List Int) (a0_5 : ByteArray) (a0_6 : ByteArray) (a0_7 : ByteArray) (a0_8 : ByteArray) (a0_9 : Bool) (l0_10 : List (S41)) (a0_11 : Int) (a0_12 : ByteArray) (a0_13 : ByteArray) (a0_14 : ByteArray) (a0_15 : Int) (a1 : Int) (h3 : l0_3.length ≤ 100) (h4 : l0_4.length ≤ 100) : ∃ k r b, 152 ≤ k ∧ system_May.f k a0_0 a0_1 a0_2 l0_3 l0_4 a0_5 a0_6 a0_7 a0_8 a0_9 l0_10 a0_11 a0_12 a0_13 a0_14 a0_15 = some b ∧ system_Signs.f k a0_0 a0_1 a0_2 l0_3 l0_4 a0_5 a0_6 a0_7 a0_8 a0_9 l0_10 a0_11 a0_12 a0_13 a0_14 a0_15 a1 = some r ∧ FpS a0_1.toList a1 r ∧ (b = false → r = ((⟨#[]⟩ : ByteArray), false)) := by
  obtain ⟨b, hb, hk⟩ := fp_may a0_0 a0_1 a0_2 l0_3 l0_4 a0_5 a0_6 a0_7 a0_8 a0_9 l0_10 a0_11 a0_12 a0_13 a0_14 a0_15 h3 h4
  have hm : ∀ k, 152 ≤ k → system_May.f k a0_0 a0_1 a0_2 l0_3 l0_4 a0_5 a0_6 a0_7 a0_8 a0_9 l0_10 a0_11 a0_12 a0_13 a0_14 a0_15 = some b := fun k h => at_rounds (fun k_ => system_May.mono _ _ _ _ _ _ _ _ _ _ _ _ _ _ _ _ k_) h hb
  have say : ∀ k r, 152 ≤ k → (∀ y, LeO (system_Signs.j0 k a1 y a0_0 a0_1 a0_2 l0_3 l0_4 a0_5 a0_6 a0_7 a0_8 a0_9 l0_10 a0_11 a0_12 a0_13 a0_14 a0_15) (system_Signs.j0 k a1 y a0_0 a0_1 a0_2 l0_3 l0_4 a0_5 a0_6 a0_7 a0_8 a0_9 l0_10 a0_11 a0_12 a0_13 a0_14 a0_15)) → (if b = true then (if a1 < (-2147483648) then (system_Signs.j0 k a1 true a0_0 a0_1 a0_2 l0_3 l0_4 a0_5 a0_6 a0_7 a0_8 a0_9 l0_10 a0_11 a0_12 a0_13 a0_14 a0_15) else (system_Signs.j0 k a1 (decide (a1 > 2147483648)) a0_0 a0_1 a0_2 l0_3 l0_4 a0_5 a0_6 a0_7 a0_8 a0_9 l0_10 a0_11 a0_12 a0_13 a0_14 a0_15)) else (system_Signs.j0 k a1 true a0_0 a0_1 a0_2 l0_3 l0_4 a0_5 a0_6 a0_7 a0_8 a0_9 l0_10 a0_11 a0_12 a0_13 a0_14 a0_15)) = some r → system_Signs.f k a0_0 a0_1 a0_2 l0_3 l0_4 a0_5 a0_6 a0_7 a0_8 a0_9 l0_10 a0_11 a0_12 a0_13 a0_14 a0_15 a1 = some r := by
    intro k r h _ h2
    unfold system_Signs.f
    rw [hm k h]
    exact h2
  cases b with
  | false =>
    exact ⟨152, _, _, Nat.le_refl _, hb, say 152 _ (Nat.le_refl _) (fun _ => LeO.refl _) (by rw [if_neg (by decide)]; exact fp_j0_t a0_0 a0_1 a0_2 l0_3 l0_4 a0_5 a0_6 a0_7 a0_8 a0_9 l0_10 a0_11 a0_12 a0_13 a0_14 a0_15 a1 151), FpS.no, fun _ => rfl⟩
  | true =>
    obtain ⟨hK, hs⟩ := hk rfl
    by_cases d1 : a1 < -2147483648
    · exact ⟨152, _, _, Nat.le_refl _, hb, say 152 _ (Nat.le_refl _) (fun _ => LeO.refl _) (by rw [if_pos rfl, if_pos d1]; exact fp_j0_t a0_0 a0_1 a0_2 l0_3 l0_4 a0_5 a0_6 a0_7 a0_8 a0_9 l0_10 a0_11 a0_12 a0_13 a0_14 a0_15 a1 151), FpS.no, fun _ => rfl⟩
    by_cases d2 : a1 > 2147483648
    · exact ⟨152, _, _, Nat.le_refl _, hb, say 152 _ (Nat.le_refl _) (fun _ => LeO.refl _) (by rw [if_pos rfl, if_neg d1, decide_eq_true d2]; exact fp_j0_t a0_0 a0_1 a0_2 l0_3 l0_4 a0_5 a0_6 a0_7 a0_8 a0_9 l0_10 a0_11 a0_12 a0_13 a0_14 a0_15 a1 151), FpS.no, fun _ => rfl⟩
    obtain ⟨k, r, hr, hr2⟩ := fp_j0 a0_0 a0_1 a0_2 l0_3 l0_4 a0_5 a0_6 a0_7 a0_8 a0_9 l0_10 a0_11 a0_12 a0_13 a0_14 a0_15 a1 h3 h4 hK hs (by omega) (by omega)
    refine ⟨max k 152, r, true, Nat.le_max_right _ _, hm _ (Nat.le_max_right _ _), say _ r (Nat.le_max_right _ _) (fun _ => LeO.refl _) ?_, hr2, fun h => by cases h⟩
    rw [if_pos rfl, if_neg d1, decide_eq_false d2]
    exact at_rounds (fun k_ => (system_Signs.mono_l k_) _ _ _ _ _ _ _ _ _ _ _ _ _ _ _ _ _ _) (Nat.le_max_left k 152) hr
end
section
theorem fm_z : (strOfNums (List.replicate 101 0)).size = 101 := by decide +kernel
theorem fleuronlaw9_SystemForms.calls (a0_0 : ByteArray) (a0_1 : ByteArray) (a0_2 : Int) (A0_3 : Option Addr) (c0_3 : Nat) (l0_3 : List ByteArray) (A0_4 : Option Addr) (c0_4 : Nat) (l0_4 : List Int) (a0_5 : ByteArray) (a0_6 : ByteArray) (a0_7 : ByteArray) (a0_8 : ByteArray) (a0_9 : Bool) (A0_10 : Option Addr) (c0_10 : Nat) (l0_10 : List (S41)) (a0_11 : Int) (a0_12 : ByteArray) (a0_13 : ByteArray) (a0_14 : ByteArray) (a0_15 : Int) (a1 : Int) (w : World) (hr3 : Kd.C Kd.string w A0_3 l0_3.length l0_3) (hc3 : l0_3.length ≤ c0_3) (hr4 : Kd.C (Kd.int .i64) w A0_4 l0_4.length l0_4) (hc4 : l0_4.length ≤ c0_4) (hr10 : Kd.C k41 w A0_10 l0_10.length l0_10) (hc10 : l0_10.length ≤ c0_10) :
    Calls Try.prog 3 #[.agg #[.string a0_0, .string a0_1, .int .i64 a0_2, .slice A0_3 l0_3.length c0_3, .slice A0_4 l0_4.length c0_4, .string a0_5, .string a0_6, .string a0_7, .string a0_8, .bool a0_9, .slice A0_10 l0_10.length c0_10, .int .i64 a0_11, .string a0_12, .string a0_13, .string a0_14, .int .i64 a0_15], .int .i64 a1] w fun e w' => e = .returned (.bool true) ∧ Below w.heap.size w w' := by
  obtain ⟨b, hb, hF⟩ := fp_few a0_0 a0_1 a0_2 l0_3 l0_4 a0_5 a0_6 a0_7 a0_8 a0_9 l0_10 a0_11 a0_12 a0_13 a0_14 a0_15
  cases b with
  | false => exact fm_a 200 a0_0 a0_1 a0_2 A0_3 c0_3 l0_3 A0_4 c0_4 l0_4 a0_5 a0_6 a0_7 a0_8 a0_9 A0_10 c0_10 l0_10 a0_11 a0_12 a0_13 a0_14 a0_15 a1 ⟨hb⟩ w hr3 hc3 hr4 hc4 hr10 hc10
  | true =>
    obtain ⟨h3, h4⟩ := hF rfl
    obtain ⟨k, ⟨sg, ok⟩, b', hk, hM, hS, hR, hN⟩ := fp_signs a0_0 a0_1 a0_2 l0_3 l0_4 a0_5 a0_6 a0_7 a0_8 a0_9 l0_10 a0_11 a0_12 a0_13 a0_14 a0_15 a1 (by omega) (by omega)
    have k1 : k ≤ max k 200 := Nat.le_max_left _ _
    have k2 : 200 ≤ max k 200 := Nat.le_max_right _ _
    generalize max k 200 = K at k1 k2
    have hb1 := at_rounds (fun k_ => fleuronlaw9_few.mono _ _ _ _ _ _ _ _ _ _ _ _ _ _ _ _ k_) k2 hb
    have hM1 := at_rounds (fun k_ => system_May.mono _ _ _ _ _ _ _ _ _ _ _ _ _ _ _ _ k_) k1 hM
    have hS1 := at_rounds (fun k_ => system_Signs.mono _ _ _ _ _ _ _ _ _ _ _ _ _ _ _ _ _ k_) k1 hS
    have hE1 := at_rounds (fun k_ => system_May.mono _ _ _ _ _ _ _ _ _ _ _ _ _ _ _ _ k_) (show 152 ≤ K by omega) (fp_may_pad a0_0 a0_1 a0_2 l0_3 l0_4 a0_5 a0_6 a0_7 a0_8 a0_9 l0_10 a0_11 a0_12 a0_13 a0_14 a0_15 (by omega) (by omega))
    have hP1 := at_rounds (fun k_ => system_May.mono _ _ _ _ _ _ _ _ _ _ _ _ _ _ _ _ k_) (show 152 ≤ K by omega) (fp_may_pre a0_0 a0_1 a0_2 l0_3 l0_4 a0_5 a0_6 a0_7 a0_8 a0_9 l0_10 a0_11 a0_12 a0_13 a0_14 a0_15 (by omega) (by omega) (strOfNums (List.replicate 101 0)) fm_z)
    cases b' with
    | false =>
      have h := hN rfl
      rw [h] at hS1
      exact fm_b K a0_0 a0_1 a0_2 A0_3 c0_3 l0_3 A0_4 c0_4 l0_4 a0_5 a0_6 a0_7 a0_8 a0_9 A0_10 c0_10 l0_10 a0_11 a0_12 a0_13 a0_14 a0_15 a1 ⟨hb1⟩ ⟨hS1⟩ ⟨hM1⟩ w hr3 hc3 hr4 hc4 hr10 hc10
    | true =>
      cases ok with
      | false =>
        have h : sg = (⟨#[]⟩ : ByteArray) := hR.1 rfl
        rw [h] at hS1
        exact fm_c K a0_0 a0_1 a0_2 A0_3 c0_3 l0_3 A0_4 c0_4 l0_4 a0_5 a0_6 a0_7 a0_8 a0_9 A0_10 c0_10 l0_10 a0_11 a0_12 a0_13 a0_14 a0_15 a1 ⟨hb1⟩ ⟨hS1⟩ ⟨hM1⟩ _ rfl ⟨hE1⟩ ⟨hP1⟩ w hr3 hc3 hr4 hc4 hr10 hc10
      | true =>
        obtain ⟨d1, d2, d3⟩ := hR.2 rfl
        exact fm_d K a0_0 a0_1 a0_2 A0_3 c0_3 l0_3 A0_4 c0_4 l0_4 a0_5 a0_6 a0_7 a0_8 a0_9 A0_10 c0_10 l0_10 a0_11 a0_12 a0_13 a0_14 a0_15 a1 ⟨hb1⟩ sg ⟨hS1⟩ ⟨hM1⟩ _ rfl ⟨hE1⟩ ⟨hP1⟩ (decide_eq_false (by omega)) (decide_eq_false (by omega)) (by simpa using d3) w hr3 hc3 hr4 hc4 hr10 hc10
end

end Go.Proofs.Ytalegejfellbdaa.Print
