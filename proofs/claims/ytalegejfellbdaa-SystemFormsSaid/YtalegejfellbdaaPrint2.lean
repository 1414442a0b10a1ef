/- Written by a program of this session out of the translation, with contracts given by hand beside. -/
import Derived.Test.YtalegejfellbdaaPrint0
import Derived.Test.YtalegejfellbdaaPrint3
namespace Go.Proofs.Ytalegejfellbdaa.Print
open Go.RowKit Go.Proofs.YtalegejfellbdaaW.PrintWords Go.Proofs.YtalegejfellbdaaW.PrintLast Go.Proofs.YtalegejfellbdaaW.PrintMore
attribute [local go_sem] max2_int min2_int max_two min_two max_three min_three max_four min_four   -- for this text's walks alone
set_option linter.unusedVariables false
set_option linter.unusedSimpArgs false

-- GIVEN BY HAND
/-! ### slices_ContainsFunc_string_string: function 23 -/
/-- The first place from k on where p holds; none: -1. -/
def firstAt {α : Type} (p : α → Bool) : List α → Nat → Int
  | [], _ => -1
  | x :: l, k => if p x = true then (k : Int) else firstAt p l (k + 1)
theorem firstAt_none {α : Type} (p : α → Bool) : ∀ (l : List α) (k : Nat), (∀ x ∈ l, p x = false) → firstAt p l k = -1
  | [], _, _ => rfl
  | x :: l, k, h => by rw [firstAt, if_neg (by rw [h x (by simp)]; simp)]; exact firstAt_none p l (k + 1) (fun y hy => h y (by simp [hy]))
theorem firstAt_some {α : Type} (p : α → Bool) : ∀ (l : List α) (k m : Nat) (hm : m < l.length), p l[m] = true → (∀ j (hj : j < m), p (l[j]'(by omega)) = false) → firstAt p l k = ((k + m : Nat) : Int)
  | [], _, m, hm, _, _ => absurd hm (by simp)
  | x :: l, k, 0, _, h, _ => by rw [firstAt, if_pos (by simpa using h)]; rfl
  | x :: l, k, m + 1, hm, h, hn => by
    rw [firstAt, if_neg (by have := hn 0 (by omega); simp only [List.getElem_cons_zero] at this; rw [this]; simp)]
    rw [firstAt_some p l (k + 1) m (by simpa using hm) (by simpa using h) (fun j hj => by have := hn (j + 1) (by omega); simpa using this)]
    congr 1; omega
theorem firstAt_any {α : Type} (p : α → Bool) : ∀ (l : List α) (k : Nat), decide (0 ≤ firstAt p l k) = l.any p
  | [], k => by simp [firstAt]
  | x :: l, k => by
    rw [firstAt, List.any_cons]
    by_cases h : p x = true
    · rw [if_pos h, h]; simp
    · rw [if_neg h, firstAt_any p l (k + 1)]; simp [h]
theorem rdOf_nat {α : Type} (d : α) (xs : List α) (k : Nat) (h : k < xs.length) : rdOf d xs (k : Int) = xs[k] := by
  simp [rdOf, h]
/-- Is a text longer than a symbol may be? -/
def longB (s : ByteArray) : Bool := decide ((s.size : Int) > 100)
theorem long_f (s : ByteArray) : system_long.f s = some (longB s) := rfl
def slices_ContainsFunc_string_string.f (l0 : List ByteArray) : Option Bool := some (l0.any longB)

set_option maxHeartbeats 1000000 in
/-- slices.IndexFunc at long. -/
theorem indexS_any (A0 : Option Addr) (c0 : Nat) (xs : List ByteArray) (w : World) (hr0 : Aside0 (Kd.C Kd.string w A0 xs.length xs)) :
    Calls Try.prog 38 #[.slice A0 xs.length c0, .func (.func 24) #[] #[]] w fun e w' => e = .returned (.int .i64 (firstAt longB xs 0)) ∧ Below w.heap.size w w' := by
  have hm : xs.length ≤ 9223372036854775807 := hr0.out.2.1
  go_enter Try.func38, Try.ntmps38
  go_wp2
  go_loopw [8] (fun i wr => ∃ k : Nat, k ≤ xs.length ∧ i = .int .i64 k ∧ Aside0 (∀ j (hj : j < k) (hx : j < xs.length), longB xs[j] = false) ∧ Aside0 (Below w.heap.size w wr)) (fun i _ => xs.length - (intOf i).toNat)
  case atStart => exact ⟨0, Nat.zero_le _, rfl, ⟨fun j hj => absurd hj (by omega)⟩, ⟨Below.refl _ _⟩⟩
  case round =>
    obtain ⟨k, hk, rfl, HN, HB⟩ := hrel
    by_cases hlt : k < xs.length
    · obtain ⟨ad, rfl, hx0⟩ := Kd.at_string hr0.out (k : Int) (by omega) (by omega)
      replace hx0 := (HB.out.cell (World.block_lt_of_cell? w _ hx0)).trans hx0
      simp only [Int.toNat_natCast] at hx0
      have HCL := Lib.hid (system_long.calls (rdOf ByteArray.empty xs (k : Int)) _ wr (long_f _))
      have hrd := Aside0.mk (rdOf_nat ByteArray.empty xs k hlt)
      have BS := HB.out.size
      by_cases hs : longB (rdOf ByteArray.empty xs (k : Int)) = true
      · have HV := Aside0.mk (show firstAt longB xs 0 = (k : Int) by
          have h1 := firstAt_some longB xs 0 k hlt (by rw [← hrd.out]; exact hs) (fun j hj => HN.out j hj (by omega))
          simpa using h1)
        rw [hs] at HCL
        have HS := Aside0.mk hs
        clear hs
        go_wp2_with (go_at_call 24; refine HCL.out.mono ?_; rintro e w' ⟨rfl, ⟨nd, rfl⟩⟩)
        go_ret
        exact ⟨by rw [HV.out]; rfl, by repeat (first | exact HB.out | apply pw_below_drewN)⟩
      · replace hs : longB (rdOf ByteArray.empty xs (k : Int)) = false := by simpa using hs
        rw [hs] at HCL
        have HS := Aside0.mk hs
        clear hs
        go_wp2_with (go_at_call 24; refine HCL.out.mono ?_; rintro e w' ⟨rfl, ⟨nd, rfl⟩⟩)
        go_roundw
        case rel =>
          refine ⟨k + 1, by omega, by go_num, ⟨fun j hj hx => ?_⟩, ⟨by repeat (first | exact HB.out | apply pw_below_drewN)⟩⟩
          by_cases e : j = k
          · subst e; rw [← hrd.out]; exact HS.out
          · exact HN.out j (by omega) hx
        case measure => simp [intOf]; omega
    · have HV := Aside0.mk (show firstAt longB xs 0 = -1 from firstAt_none longB xs 0 (fun x hx => by
        obtain ⟨j, hj, rfl⟩ := List.getElem_of_mem hx
        exact HN.out j (by omega) hj))
      go_wp2
      go_ret
      exact ⟨by rw [HV.out]; rfl, HB.out⟩

set_option maxHeartbeats 1000000 in
theorem slices_ContainsFunc_string_string.calls (A0 : Option Addr) (c0 : Nat) (l0 : List ByteArray) (r : Bool) (w : World) (hr0 : Kd.C Kd.string w A0 l0.length l0) (hc0 : l0.length ≤ c0) (h : slices_ContainsFunc_string_string.f l0 = some r) :
    Calls Try.prog 23 #[.slice A0 l0.length c0, .func (.func 24) #[] #[]] w fun e w' => e = .returned (.bool r) ∧ Below w.heap.size w w' := by
  obtain rfl : l0.any longB = r := Option.some.inj h
  clear h
  have HC := Lib.hid (indexS_any A0 c0 l0 w ⟨hr0⟩)
  have HV := Aside0.mk (firstAt_any longB l0 0)
  clear hr0 hc0
  go_enter Try.func23, Try.ntmps23
  go_wp2_with (go_at_call 38; refine HC.out.mono ?_; rintro e w' ⟨rfl, hb'⟩)
  go_ret
  exact ⟨by rw [← HV.out]; rfl, hb'⟩

end Go.Proofs.Ytalegejfellbdaa.Print
