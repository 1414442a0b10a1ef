/- Written by a program of this session out of the translation, with contracts given by hand beside. -/
import Derived.Test.YtalegejfellbdaaPrint0
import Derived.Test.YtalegejfellbdaaPrint2
namespace Go.Proofs.Ytalegejfellbdaa.Print
open Go.RowKit Go.Proofs.YtalegejfellbdaaW.PrintWords Go.Proofs.YtalegejfellbdaaW.PrintLast Go.Proofs.YtalegejfellbdaaW.PrintMore
attribute [local go_sem] max2_int min2_int max_two min_two max_three min_three max_four min_four   -- for this text's walks alone
set_option linter.unusedVariables false
set_option linter.unusedSimpArgs false

-- GIVEN BY HAND
/-! ### slices_ContainsFunc_2_int_2_int: function 25 -/
/-- May a range not be? -/
def oddB (x : S41) : Bool := decide (x.f0 > x.f1) || (decide (x.f0 < (-2147483648)) || decide (x.f1 > 2147483647))
theorem rd_T41_nat (xs : List S41) (k : Nat) (h : k < xs.length) : rd_T41 xs (k : Int) = xs[k] := by
  simp [rd_T41, h]
def slices_ContainsFunc_2_int_2_int.f (l0 : List S41) : Option Bool := some (l0.any oddB)

set_option maxHeartbeats 1000000 in
/-- May's closure at one range. -/
theorem may1_any (x : S41) (w : World) :
    Calls Try.prog 26 #[.agg #[.int .i64 x.f0, .int .i64 x.f1]] w fun e w' => e = .returned (.bool (oddB x)) ∧ Below w.heap.size w w' := by
  have hu41 := Try.underlying41
  by_cases h1 : x.f0 > x.f1
  · have HV := Aside0.mk (show oddB x = true by unfold oddB; rw [decide_eq_true h1]; rfl)
    go_enter Try.func26, Try.ntmps26
    go_wp2
    go_ret
    exact ⟨by rw [HV.out]; rfl, (Below.refl _ w).alloc (Nat.le_refl _) _⟩
  · by_cases h2 : x.f0 < -2147483648
    · have HV := Aside0.mk (show oddB x = true by unfold oddB; rw [decide_eq_false h1, decide_eq_true h2]; rfl)
      go_enter Try.func26, Try.ntmps26
      go_wp2
      go_ret
      exact ⟨by rw [HV.out]; rfl, (Below.refl _ w).alloc (Nat.le_refl _) _⟩
    · by_cases h3 : x.f1 > 2147483647
      · have HV := Aside0.mk (show oddB x = true by unfold oddB; rw [decide_eq_false h1, decide_eq_false h2, decide_eq_true h3]; rfl)
        go_enter Try.func26, Try.ntmps26
        go_wp2
        go_ret
        exact ⟨by rw [HV.out]; rfl, (Below.refl _ w).alloc (Nat.le_refl _) _⟩
      · have HV := Aside0.mk (show oddB x = false by unfold oddB; rw [decide_eq_false h1, decide_eq_false h2, decide_eq_false h3]; rfl)
        go_enter Try.func26, Try.ntmps26
        go_wp2
        go_ret
        exact ⟨by rw [HV.out]; rfl, (Below.refl _ w).alloc (Nat.le_refl _) _⟩

set_option maxHeartbeats 1000000 in
/-- slices.IndexFunc at May's closure. -/
theorem indexR_any (A0 : Option Addr) (c0 : Nat) (xs : List S41) (w : World) (hr0 : Aside0 (Kd.C k41 w A0 xs.length xs)) :
    Calls Try.prog 39 #[.slice A0 xs.length c0, .func (.func 26) #[] #[]] w fun e w' => e = .returned (.int .i64 (firstAt oddB xs 0)) ∧ Below w.heap.size w w' := by
  have hm : xs.length ≤ 9223372036854775807 := hr0.out.2.1
  go_enter Try.func39, Try.ntmps39
  go_wp2
  go_loopw [8] (fun i wr => ∃ k : Nat, k ≤ xs.length ∧ i = .int .i64 k ∧ Aside0 (∀ j (hj : j < k) (hx : j < xs.length), oddB xs[j] = false) ∧ Aside0 (Below w.heap.size w wr)) (fun i _ => xs.length - (intOf i).toNat)
  case atStart => exact ⟨0, Nat.zero_le _, rfl, ⟨fun j hj => absurd hj (by omega)⟩, ⟨Below.refl _ _⟩⟩
  case round =>
    obtain ⟨k, hk, rfl, HN, HB⟩ := hrel
    by_cases hlt : k < xs.length
    · obtain ⟨ad, rfl, hx0, hx1⟩ := at_T41 hr0.out (k : Int) (by omega) (by omega)
      replace hx0 := (HB.out.cell (World.block_lt_of_cell? w _ hx0)).trans hx0
      replace hx1 := (HB.out.cell (World.block_lt_of_cell? w _ hx1)).trans hx1
      simp only [Int.toNat_natCast] at hx0 hx1
      have HCL := Lib.hid (may1_any (rd_T41 xs (k : Int)) wr)
      have hrd := Aside0.mk (rd_T41_nat xs k hlt)
      have BS := HB.out.size
      by_cases hs : oddB (rd_T41 xs (k : Int)) = true
      · have HV := Aside0.mk (show firstAt oddB xs 0 = (k : Int) by
          have h1 := firstAt_some oddB xs 0 k hlt (by rw [← hrd.out]; exact hs) (fun j hj => HN.out j hj (by omega))
          simpa using h1)
        rw [hs] at HCL
        have HS := Aside0.mk hs
        clear hs
        go_wp2_with (go_at_call 26; refine HCL.out.mono ?_; rintro e w' ⟨rfl, hb'⟩)
        go_ret
        exact ⟨by rw [HV.out]; rfl, HB.out.trans (hb'.mono BS)⟩
      · replace hs : oddB (rd_T41 xs (k : Int)) = false := by simpa using hs
        rw [hs] at HCL
        have HS := Aside0.mk hs
        clear hs
        go_wp2_with (go_at_call 26; refine HCL.out.mono ?_; rintro e w' ⟨rfl, hb'⟩)
        go_roundw
        case rel =>
          refine ⟨k + 1, by omega, by go_num, ⟨fun j hj hx => ?_⟩, ⟨HB.out.trans (hb'.mono BS)⟩⟩
          by_cases e : j = k
          · subst e; rw [← hrd.out]; exact HS.out
          · exact HN.out j (by omega) hx
        case measure => simp [intOf]; omega
    · have HV := Aside0.mk (show firstAt oddB xs 0 = -1 from firstAt_none oddB xs 0 (fun x hx => by
        obtain ⟨j, hj, rfl⟩ := List.getElem_of_mem hx
        exact HN.out j (by omega) hj))
      go_wp2
      go_ret
      exact ⟨by rw [HV.out]; rfl, HB.out⟩

set_option maxHeartbeats 1000000 in
theorem slices_ContainsFunc_2_int_2_int.calls (A0 : Option Addr) (c0 : Nat) (l0 : List S41) (r : Bool) (w : World) (hr0 : Kd.C k41 w A0 l0.length l0) (hc0 : l0.length ≤ c0) (h : slices_ContainsFunc_2_int_2_int.f l0 = some r) :
    Calls Try.prog 25 #[.slice A0 l0.length c0, .func (.func 26) #[] #[]] w fun e w' => e = .returned (.bool r) ∧ Below w.heap.size w w' := by
  obtain rfl : l0.any oddB = r := Option.some.inj h
  clear h
  have HC := Lib.hid (indexR_any A0 c0 l0 w ⟨hr0⟩)
  have HV := Aside0.mk (firstAt_any oddB l0 0)
  clear hr0 hc0
  go_enter Try.func25, Try.ntmps25
  go_wp2_with (go_at_call 39; refine HC.out.mono ?_; rintro e w' ⟨rfl, hb'⟩)
  go_ret
  exact ⟨by rw [← HV.out]; rfl, hb'⟩

end Go.Proofs.Ytalegejfellbdaa.Print
