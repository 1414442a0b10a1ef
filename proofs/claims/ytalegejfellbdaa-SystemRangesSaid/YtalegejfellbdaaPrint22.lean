/- Written by a program of this session out of the translation, with contracts given by hand beside. -/
import Derived.Test.YtalegejfellbdaaPrint0
import Derived.Test.YtalegejfellbdaaPrint12
import Derived.Test.YtalegejfellbdaaPrint13
import Derived.Test.YtalegejfellbdaaPrint14
import Derived.Test.YtalegejfellbdaaPrint15
import Derived.Test.YtalegejfellbdaaPrint18
namespace Go.Proofs.Ytalegejfellbdaa.Print
open Go.RowKit Go.Proofs.YtalegejfellbdaaW.PrintWords Go.Proofs.YtalegejfellbdaaW.PrintLast Go.Proofs.YtalegejfellbdaaW.PrintMore
attribute [local go_sem] max2_int min2_int max_two min_two max_three min_three max_four min_four   -- for this text's walks alone
set_option linter.unusedVariables false
set_option linter.unusedSimpArgs false

theorem info41 : (Try.prog.info? 41).map (fun i => (i.zero, i.size, i.bytes)) = some (some (.agg #[(.int .i64 0), (.int .i64 0)]), 2, 16) := by kernel_rfl
/-! ### fleuronlaw9_SystemRanges: function 8 -/
mutual
def fleuronlaw9_SystemRanges.l0 : Nat → Int → List Int → Bool → Int → Bool → Int → ByteArray → ByteArray → Int → List ByteArray → List Int → ByteArray → ByteArray → ByteArray → ByteArray → Bool → List (S41) → Int → ByteArray → ByteArray → ByteArray → Int → Option (Bool)
  | 0, _, _, _, _, _, _, _, _, _, _, _, _, _, _, _, _, _, _, _, _, _, _ => none
  | k + 1, x1, x2, x3, x10, x12, x13, x474000, x474001, x474002, x474003, x474004, x474005, x474006, x474007, x474008, x474009, x474010, x474011, x474012, x474013, x474014, x474015 => if (wrap64 (x13 + 1)) < (x2.length : Int) then (if 0 ≤ x13 then (if x13 < (x2.length : Int) then (if 0 ≤ (wrap64 (x13 + 1)) then (if x474010.length < 8796093022208 then ((some (x474010 ++ [(⟨rd x2 x13, rd x2 (wrap64 (x13 + 1))⟩ : S41)] : List (S41))).bind fun y476 => (if x12 = true then (fleuronlaw9_SystemRanges.l0 k x1 x2 x3 x10 true (wrap64 (x13 + 2)) x474000 x474001 x474002 x474003 x474004 x474005 x474006 x474007 x474008 x474009 y476 x474011 x474012 x474013 x474014 x474015) else (if x1 ≥ (rd x2 x13) then (fleuronlaw9_SystemRanges.l0 k x1 x2 x3 x10 (decide (x1 ≤ (rd x2 (wrap64 (x13 + 1))))) (wrap64 (x13 + 2)) x474000 x474001 x474002 x474003 x474004 x474005 x474006 x474007 x474008 x474009 y476 x474011 x474012 x474013 x474014 x474015) else (fleuronlaw9_SystemRanges.l0 k x1 x2 x3 x10 false (wrap64 (x13 + 2)) x474000 x474001 x474002 x474003 x474004 x474005 x474006 x474007 x474008 x474009 y476 x474011 x474012 x474013 x474014 x474015)))) else (none)) else (none)) else (none)) else (none)) else (if x3 = true then (if x10 < 3 then (fleuronlaw9_SystemRanges.j1 k x1 x10 true x474000 x474001 x474002 x474003 x474004 x474005 x474006 x474007 x474008 x474009 x474010 x474011 x474012 x474013 x474014 x474015) else (if x10 < 5 then (if x1 > 0 then (fleuronlaw9_SystemRanges.j1 k x1 x10 true x474000 x474001 x474002 x474003 x474004 x474005 x474006 x474007 x474008 x474009 x474010 x474011 x474012 x474013 x474014 x474015) else (if x10 = 5 then (fleuronlaw9_SystemRanges.j1 k x1 x10 (decide (x1 ≥ 0)) x474000 x474001 x474002 x474003 x474004 x474005 x474006 x474007 x474008 x474009 x474010 x474011 x474012 x474013 x474014 x474015) else (fleuronlaw9_SystemRanges.j1 k x1 x10 false x474000 x474001 x474002 x474003 x474004 x474005 x474006 x474007 x474008 x474009 x474010 x474011 x474012 x474013 x474014 x474015))) else (if x10 = 5 then (fleuronlaw9_SystemRanges.j1 k x1 x10 (decide (x1 ≥ 0)) x474000 x474001 x474002 x474003 x474004 x474005 x474006 x474007 x474008 x474009 x474010 x474011 x474012 x474013 x474014 x474015) else (fleuronlaw9_SystemRanges.j1 k x1 x10 false x474000 x474001 x474002 x474003 x474004 x474005 x474006 x474007 x474008 x474009 x474010 x474011 x474012 x474013 x474014 x474015)))) else (fleuronlaw9_SystemRanges.j1 k x1 x10 x12 x474000 x474001 x474002 x474003 x474004 x474005 x474006 x474007 x474008 x474009 x474010 x474011 x474012 x474013 x474014 x474015))
def fleuronlaw9_SystemRanges.j1 : Nat → Int → Int → Bool → ByteArray → ByteArray → Int → List ByteArray → List Int → ByteArray → ByteArray → ByteArray → ByteArray → Bool → List (S41) → Int → ByteArray → ByteArray → ByteArray → Int → Option (Bool)
  | 0, _, _, _, _, _, _, _, _, _, _, _, _, _, _, _, _, _, _, _ => none
  | k + 1, x1, x10, x12, x474000, x474001, x474002, x474003, x474004, x474005, x474006, x474007, x474008, x474009, x474010, x474011, x474012, x474013, x474014, x474015 => (system_In.f x474000 x474001 x474002 x474003 x474004 x474005 x474006 x474007 x474008 x474009 x474010 x474011 x474012 x474013 x474014 x474015 x1).bind fun t481 => (if (t481 == x12) = true then ((system_Uses.f x474000 x474001 x474002 x474003 x474004 x474005 x474006 x474007 x474008 x474009 x474010 x474011 x474012 x474013 x474014 x474015 x1).bind fun t482 => (if x1 < 0 then (if x10 = 1 then (if (t482 == true) = true then ((fleuronlaw9_awake.f).bind fun t483 => (some t483)) else (some false)) else (if x10 ≥ 3 then (if (t482 == (decide (x10 ≤ 5))) = true then ((fleuronlaw9_awake.f).bind fun t484 => (some t484)) else (some false)) else (if (t482 == false) = true then ((fleuronlaw9_awake.f).bind fun t485 => (some t485)) else (some false)))) else (if (t482 == false) = true then ((fleuronlaw9_awake.f).bind fun t486 => (some t486)) else (some false)))) else (some false))
end
def fleuronlaw9_SystemRanges.f (k : Nat) (a0 : Int) (a1 : Int) (l2 : List Int) (a3 : Bool) : Option (Bool) := if (l2.length : Int) > 20 then ((fleuronlaw9_awake.f).bind fun t445 => (some t445)) else ((some (([(⟨#[99, 121, 99, 108, 105, 99]⟩ : ByteArray), (⟨#[110, 117, 109, 101, 114, 105, 99]⟩ : ByteArray), (⟨#[102, 105, 120, 101, 100]⟩ : ByteArray), (⟨#[97, 108, 112, 104, 97, 98, 101, 116, 105, 99]⟩ : ByteArray), (⟨#[115, 121, 109, 98, 111, 108, 105, 99]⟩ : ByteArray), (⟨#[97, 100, 100, 105, 116, 105, 118, 101]⟩ : ByteArray), (⟨#[101, 120, 116, 101, 110, 100, 115]⟩ : ByteArray)] : List ByteArray) : List ByteArray)).bind fun y446 => ((fleuronalike_Round.f a0 7).bind fun t449 => (if 0 ≤ t449 then (if t449 < (y446.length : Int) then ((fleuronlaw9_made.f (rdOf ByteArray.empty y446 t449) ([] : List ByteArray)).bind fun bt451 => (fleuronlaw9_SystemRanges.l0 k a1 l2 a3 t449 false 0 bt451.1 bt451.2.1 bt451.2.2.1 bt451.2.2.2.1 bt451.2.2.2.2.1 bt451.2.2.2.2.2.1 bt451.2.2.2.2.2.2.1 bt451.2.2.2.2.2.2.2.1 bt451.2.2.2.2.2.2.2.2.1 a3 bt451.2.2.2.2.2.2.2.2.2.2.1 bt451.2.2.2.2.2.2.2.2.2.2.2.1 bt451.2.2.2.2.2.2.2.2.2.2.2.2.1 bt451.2.2.2.2.2.2.2.2.2.2.2.2.2.1 bt451.2.2.2.2.2.2.2.2.2.2.2.2.2.2.1 bt451.2.2.2.2.2.2.2.2.2.2.2.2.2.2.2)) else (none)) else (none))))
theorem fleuronlaw9_SystemRanges.mono_l : ∀ k, (∀ y0 y1 y2 y3 y4 y5 y6 y7 y8 y9 y10 y11 y12 y13 y14 y15 y16 y17 y18 y19 y20 y21, LeO (fleuronlaw9_SystemRanges.l0 k y0 y1 y2 y3 y4 y5 y6 y7 y8 y9 y10 y11 y12 y13 y14 y15 y16 y17 y18 y19 y20 y21) (fleuronlaw9_SystemRanges.l0 (k + 1) y0 y1 y2 y3 y4 y5 y6 y7 y8 y9 y10 y11 y12 y13 y14 y15 y16 y17 y18 y19 y20 y21)) ∧ (∀ y0 y1 y2 y3 y4 y5 y6 y7 y8 y9 y10 y11 y12 y13 y14 y15 y16 y17 y18, LeO (fleuronlaw9_SystemRanges.j1 k y0 y1 y2 y3 y4 y5 y6 y7 y8 y9 y10 y11 y12 y13 y14 y15 y16 y17 y18) (fleuronlaw9_SystemRanges.j1 (k + 1) y0 y1 y2 y3 y4 y5 y6 y7 y8 y9 y10 y11 y12 y13 y14 y15 y16 y17 y18))
  | 0 => ⟨fun _ _ _ _ _ _ _ _ _ _ _ _ _ _ _ _ _ _ _ _ _ _ r h => by simp [fleuronlaw9_SystemRanges.l0] at h, fun _ _ _ _ _ _ _ _ _ _ _ _ _ _ _ _ _ _ _ r h => by simp [fleuronlaw9_SystemRanges.j1] at h⟩
  | k + 1 => by
    obtain ⟨ih0, ih1⟩ := fleuronlaw9_SystemRanges.mono_l k
    refine ⟨?_, ?_⟩
    · intro y0 y1 y2 y3 y4 y5 y6 y7 y8 y9 y10 y11 y12 y13 y14 y15 y16 y17 y18 y19 y20 y21
      unfold fleuronlaw9_SystemRanges.l0
      repeat' first
      | (with_reducible exact ih0 _ _ _ _ _ _ _ _ _ _ _ _ _ _ _ _ _ _ _ _ _ _)
      | (with_reducible exact ih1 _ _ _ _ _ _ _ _ _ _ _ _ _ _ _ _ _ _ _)
      | (with_reducible exact LeO.refl _)
      | (with_reducible exact LeO.none _)
      | (with_reducible refine LeO.ite ?_ ?_)
      | (with_reducible refine LeO.bind ?_ (fun _ => ?_))
      | exact ih0 _ _ _ _ _ _ _ _ _ _ _ _ _ _ _ _ _ _ _ _ _ _
      | exact ih1 _ _ _ _ _ _ _ _ _ _ _ _ _ _ _ _ _ _ _
      | exact LeO.none _
      | refine LeO.ite ?_ ?_
      | refine LeO.bind ?_ (fun _ => ?_)
    · intro y0 y1 y2 y3 y4 y5 y6 y7 y8 y9 y10 y11 y12 y13 y14 y15 y16 y17 y18
      unfold fleuronlaw9_SystemRanges.j1
      repeat' first
      | (with_reducible exact ih0 _ _ _ _ _ _ _ _ _ _ _ _ _ _ _ _ _ _ _ _ _ _)
      | (with_reducible exact ih1 _ _ _ _ _ _ _ _ _ _ _ _ _ _ _ _ _ _ _)
      | (with_reducible exact LeO.refl _)
      | (with_reducible exact LeO.none _)
      | (with_reducible refine LeO.ite ?_ ?_)
      | (with_reducible refine LeO.bind ?_ (fun _ => ?_))
      | exact ih0 _ _ _ _ _ _ _ _ _ _ _ _ _ _ _ _ _ _ _ _ _ _
      | exact ih1 _ _ _ _ _ _ _ _ _ _ _ _ _ _ _ _ _ _ _
      | exact LeO.none _
      | refine LeO.ite ?_ ?_
      | refine LeO.bind ?_ (fun _ => ?_)
theorem fleuronlaw9_SystemRanges.mono : ∀ a0 a1 a2 a3 k, LeO (fleuronlaw9_SystemRanges.f k a0 a1 a2 a3) (fleuronlaw9_SystemRanges.f (k + 1) a0 a1 a2 a3) := by
  intro a0 a1 a2 a3 k
  obtain ⟨ih0, ih1⟩ := fleuronlaw9_SystemRanges.mono_l k
  unfold fleuronlaw9_SystemRanges.f
  repeat' first
      | (with_reducible exact ih0 _ _ _ _ _ _ _ _ _ _ _ _ _ _ _ _ _ _ _ _ _ _)
      | (with_reducible exact ih1 _ _ _ _ _ _ _ _ _ _ _ _ _ _ _ _ _ _ _)
      | (with_reducible exact LeO.refl _)
      | (with_reducible exact LeO.none _)
      | (with_reducible refine LeO.ite ?_ ?_)
      | (with_reducible refine LeO.bind ?_ (fun _ => ?_))
      | exact ih0 _ _ _ _ _ _ _ _ _ _ _ _ _ _ _ _ _ _ _ _ _ _
      | exact ih1 _ _ _ _ _ _ _ _ _ _ _ _ _ _ _ _ _ _ _
      | exact LeO.none _
      | refine LeO.ite ?_ ?_
      | refine LeO.bind ?_ (fun _ => ?_)
def fleuronlaw9_SystemRanges.T11 : Bool × List (List Nat × List Nat) := (true, [([], []), ([0], [0]), ([], []), ([], []), ([2, 3], [2, 3]), ([4], [4]), ([], []), ([], []), ([7], [7]), ([6, 8], [6, 8]), ([9], [9]), ([5, 10], [5, 10]), ([11], [11]), ([1, 12], [1, 12]), ([0, 1, 2, 3, 4, 5, 6, 7, 8, 9, 10, 11, 12, 13], []), ([14, 13, 13, 0, 1, 2, 3, 4, 5, 6, 7, 8, 9, 10, 11, 12, 13], [13, 14])])
def fleuronlaw9_SystemRanges.B11 : List Nat := [0, 1, 0, 0, 12, 28, 0, 0, 128, 448, 960, 2044, 4092, 8191, 16383, 32767]
theorem fleuronlaw9_SystemRanges.tab11 : rtab .any (opsOf Try.f8 11) = fleuronlaw9_SystemRanges.T11 := by kernel_rfl
theorem fleuronlaw9_SystemRanges.bits11 : waitsOk fleuronlaw9_SystemRanges.T11.2 fleuronlaw9_SystemRanges.B11 = true := by kernel_rfl
set_option maxHeartbeats 8000000 in
set_option maxRecDepth 100000 in
theorem fleuronlaw9_SystemRanges.calls (k : Nat) (a0 : Int) (a1 : Int) (A2 : Option Addr) (c2 : Nat) (l2 : List Int) (a3 : Bool) (r : Bool) (w : World) (hr2 : Kd.C (Kd.int .i64) w A2 l2.length l2) (hc2 : l2.length ≤ c2) (h : fleuronlaw9_SystemRanges.f k a0 a1 l2 a3 = some r) (ht0_ : r = true) :
    Calls Try.prog 8 #[.int .i64 a0, .int .i64 a1, .slice A2 l2.length c2, .bool a3] w fun e w' => e = .returned (.bool r) ∧ Below w.heap.size w w' := by
  have hu27 := Try.underlying27
  have hu41 := Try.underlying41
  have HR2 := Aside0.mk hr2
  have HC2 := Aside0.mk hc2
  clear hr2 hc2
  have HB := Aside0.mk (Below.refl w.heap.size w)
  have H : (if (l2.length : Int) > 20 then ((fleuronlaw9_awake.f).bind fun t445 => (some t445)) else ((some (([(⟨#[99, 121, 99, 108, 105, 99]⟩ : ByteArray), (⟨#[110, 117, 109, 101, 114, 105, 99]⟩ : ByteArray), (⟨#[102, 105, 120, 101, 100]⟩ : ByteArray), (⟨#[97, 108, 112, 104, 97, 98, 101, 116, 105, 99]⟩ : ByteArray), (⟨#[115, 121, 109, 98, 111, 108, 105, 99]⟩ : ByteArray), (⟨#[97, 100, 100, 105, 116, 105, 118, 101]⟩ : ByteArray), (⟨#[101, 120, 116, 101, 110, 100, 115]⟩ : ByteArray)] : List ByteArray) : List ByteArray)).bind fun y446 => ((fleuronalike_Round.f a0 7).bind fun t449 => (if 0 ≤ t449 then (if t449 < (y446.length : Int) then ((fleuronlaw9_made.f (rdOf ByteArray.empty y446 t449) ([] : List ByteArray)).bind fun bt451 => (fleuronlaw9_SystemRanges.l0 k a1 l2 a3 t449 false 0 bt451.1 bt451.2.1 bt451.2.2.1 bt451.2.2.2.1 bt451.2.2.2.2.1 bt451.2.2.2.2.2.1 bt451.2.2.2.2.2.2.1 bt451.2.2.2.2.2.2.2.1 bt451.2.2.2.2.2.2.2.2.1 a3 bt451.2.2.2.2.2.2.2.2.2.2.1 bt451.2.2.2.2.2.2.2.2.2.2.2.1 bt451.2.2.2.2.2.2.2.2.2.2.2.2.1 bt451.2.2.2.2.2.2.2.2.2.2.2.2.2.1 bt451.2.2.2.2.2.2.2.2.2.2.2.2.2.2.1 bt451.2.2.2.2.2.2.2.2.2.2.2.2.2.2.2)) else (none)) else (none))))) = some r := h
  clear h
  have ht_ := Aside0.mk ht0_
  clear ht0_
  by_cases c5 : (l2.length : Int) > 20
  · rw [if_pos c5] at H
    have c5b0 : decide (20 < (l2.length : Int)) = true := decide_eq_true c5
    have c5b1 : decide (20 < l2.length) = true := decide_eq_true (by omega)
    clear c5
    replace H := Option.bind_eq_some_iff.mp H
    obtain ⟨t445, A60, H⟩ := H
    replace H : (some t445) = some r := H
    have A6 := Aside0.mk A60
    clear A60
    obtain rfl := Option.some.inj H
    go_enter Try.func8, Try.ntmps8
    go_wp2_with (first | ((with_reducible refine gate_callee (f := 10) rfl ?_); refine goesL_ (some 17) rfl rfl Try.func10 (by kernel_rfl) rfl #[] rfl (by (try simp only [List.map_toArray, List.map_cons, List.map_nil]); first | done | rfl | (simp only [List.length_drop, List.length_take]; rfl)) ?_; (with_reducible refine (fleuronlaw9_awake.calls  t445 _ A6.out ht_.out).mono ?_); rintro e w7 ⟨rfl, hb⟩; refine ⟨_, rfl, ?_⟩; have n0_ := Aside0.mk (below_step (by repeat (first | (with_reducible first | exact HB.out | apply below_alloc | apply pw_below_drewN | apply below_drew1) | exact HB.out)) hb); clear HB; have HB := n0_; clear n0_; (try clear hb); (try clear hb2); (try clear hk); (try clear hi)))
    go_ret
    exact ⟨by first | rfl | (simp [errW_none, errW_some] <;> rfl) | (simp [*, errW_none, errW_some] <;> rfl), by repeat (first | (with_reducible first | exact HB.out | apply below_alloc | apply pw_below_drewN | apply below_drew1) | exact HB.out)⟩
  · rw [if_neg c5] at H
    have c5b0 : decide (20 < (l2.length : Int)) = false := decide_eq_false c5
    have c5b1 : decide (20 < l2.length) = false := decide_eq_false (by omega)
    clear c5
    obtain ⟨y446, hy446⟩ : ∃ y_ : List ByteArray, y_ = (([(⟨#[99, 121, 99, 108, 105, 99]⟩ : ByteArray), (⟨#[110, 117, 109, 101, 114, 105, 99]⟩ : ByteArray), (⟨#[102, 105, 120, 101, 100]⟩ : ByteArray), (⟨#[97, 108, 112, 104, 97, 98, 101, 116, 105, 99]⟩ : ByteArray), (⟨#[115, 121, 109, 98, 111, 108, 105, 99]⟩ : ByteArray), (⟨#[97, 100, 100, 105, 116, 105, 118, 101]⟩ : ByteArray), (⟨#[101, 120, 116, 101, 110, 100, 115]⟩ : ByteArray)] : List ByteArray)) := ⟨_, rfl⟩
    replace H : ((fleuronalike_Round.f a0 7).bind fun t449 => (if 0 ≤ t449 then (if t449 < (y446.length : Int) then ((fleuronlaw9_made.f (rdOf ByteArray.empty y446 t449) ([] : List ByteArray)).bind fun bt451 => (fleuronlaw9_SystemRanges.l0 k a1 l2 a3 t449 false 0 bt451.1 bt451.2.1 bt451.2.2.1 bt451.2.2.2.1 bt451.2.2.2.2.1 bt451.2.2.2.2.2.1 bt451.2.2.2.2.2.2.1 bt451.2.2.2.2.2.2.2.1 bt451.2.2.2.2.2.2.2.2.1 a3 bt451.2.2.2.2.2.2.2.2.2.2.1 bt451.2.2.2.2.2.2.2.2.2.2.2.1 bt451.2.2.2.2.2.2.2.2.2.2.2.2.1 bt451.2.2.2.2.2.2.2.2.2.2.2.2.2.1 bt451.2.2.2.2.2.2.2.2.2.2.2.2.2.2.1 bt451.2.2.2.2.2.2.2.2.2.2.2.2.2.2.2)) else (none)) else (none))) = some r := by first | (rw [hy446]; with_reducible exact H) | (have H2_ := (Option.bind_some _ _).symm.trans H; rw [hy446]; with_reducible exact H2_) | (have H2_ := (Option.bind_some _ _).symm.trans H; with_reducible exact H2_) | with_reducible exact H | (rw [hy446]; exact H) | exact H
    have Ny446 := Aside0.mk hy446
    clear hy446
    replace H := Option.bind_eq_some_iff.mp H
    obtain ⟨t449, A80, H⟩ := H
    replace H : (if 0 ≤ t449 then (if t449 < (y446.length : Int) then ((fleuronlaw9_made.f (rdOf ByteArray.empty y446 t449) ([] : List ByteArray)).bind fun bt451 => (fleuronlaw9_SystemRanges.l0 k a1 l2 a3 t449 false 0 bt451.1 bt451.2.1 bt451.2.2.1 bt451.2.2.2.1 bt451.2.2.2.2.1 bt451.2.2.2.2.2.1 bt451.2.2.2.2.2.2.1 bt451.2.2.2.2.2.2.2.1 bt451.2.2.2.2.2.2.2.2.1 a3 bt451.2.2.2.2.2.2.2.2.2.2.1 bt451.2.2.2.2.2.2.2.2.2.2.2.1 bt451.2.2.2.2.2.2.2.2.2.2.2.2.1 bt451.2.2.2.2.2.2.2.2.2.2.2.2.2.1 bt451.2.2.2.2.2.2.2.2.2.2.2.2.2.2.1 bt451.2.2.2.2.2.2.2.2.2.2.2.2.2.2.2)) else (none)) else (none)) = some r := H
    have A8 := Aside0.mk A80
    clear A80
    by_cases c9 : 0 ≤ t449
    · rw [if_pos c9] at H
      have c9b0 : decide (0 ≤ t449) = true := decide_eq_true c9
      clear c9
      by_cases c10 : t449 < (y446.length : Int)
      · rw [if_pos c10] at H
        have c10b0 : decide (t449 < (y446.length : Int)) = true := decide_eq_true c10
        clear c10
        replace H := Option.bind_eq_some_iff.mp H
        obtain ⟨⟨t451, t452, t453, t454, t457, t460, t461, t462, t463, t464, t465, t468, t469, t470, t471, t472⟩, A110, H⟩ := H
        replace H : (fleuronlaw9_SystemRanges.l0 k a1 l2 a3 t449 false 0 t451 t452 t453 t454 t457 t460 t461 t462 t463 a3 t465 t468 t469 t470 t471 t472) = some r := H
        have A11 := Aside0.mk A110
        clear A110
        have H' := Aside0.mk H
        clear H
        go_enter Try.func8, Try.ntmps8
        go_wp2_with (first | ((with_reducible refine gate_dst (N := 18) rfl ?_); refine Kd.R_lit Kd.string _ 9 ?hg (N := 18) ?hd (xs := ([(⟨#[99, 121, 99, 108, 105, 99]⟩ : ByteArray), (⟨#[110, 117, 109, 101, 114, 105, 99]⟩ : ByteArray), (⟨#[102, 105, 120, 101, 100]⟩ : ByteArray), (⟨#[97, 108, 112, 104, 97, 98, 101, 116, 105, 99]⟩ : ByteArray), (⟨#[115, 121, 109, 98, 111, 108, 105, 99]⟩ : ByteArray), (⟨#[97, 100, 100, 105, 116, 105, 118, 101]⟩ : ByteArray), (⟨#[101, 120, 116, 101, 110, 100, 115]⟩ : ByteArray)] : List ByteArray)) (inner := [.string (⟨#[99, 121, 99, 108, 105, 99]⟩ : ByteArray), .string (⟨#[110, 117, 109, 101, 114, 105, 99]⟩ : ByteArray), .string (⟨#[102, 105, 120, 101, 100]⟩ : ByteArray), .string (⟨#[97, 108, 112, 104, 97, 98, 101, 116, 105, 99]⟩ : ByteArray), .string (⟨#[115, 121, 109, 98, 111, 108, 105, 99]⟩ : ByteArray), .string (⟨#[97, 100, 100, 105, 116, 105, 118, 101]⟩ : ByteArray), .string (⟨#[101, 120, 116, 101, 110, 100, 115]⟩ : ByteArray)]) (ok := fun _ => True) (okp := fun _ => True) ?hr ?hp (fun _ hk => hk) trivial (Below.refl _ _) (Nat.le_refl _) (by simp) ?_; (case hd => rfl); (case hg => rfl); (case hr => first | (go_simp; done) | (go_simp; rfl)); (case hp => exact (Reps.one (show Kd.M Kd.string _ _ _ (⟨#[99, 121, 99, 108, 105, 99]⟩ : ByteArray) [.string (⟨#[99, 121, 99, 108, 105, 99]⟩ : ByteArray)] from rfl) (Reps.one (show Kd.M Kd.string _ _ _ (⟨#[110, 117, 109, 101, 114, 105, 99]⟩ : ByteArray) [.string (⟨#[110, 117, 109, 101, 114, 105, 99]⟩ : ByteArray)] from rfl) (Reps.one (show Kd.M Kd.string _ _ _ (⟨#[102, 105, 120, 101, 100]⟩ : ByteArray) [.string (⟨#[102, 105, 120, 101, 100]⟩ : ByteArray)] from rfl) (Reps.one (show Kd.M Kd.string _ _ _ (⟨#[97, 108, 112, 104, 97, 98, 101, 116, 105, 99]⟩ : ByteArray) [.string (⟨#[97, 108, 112, 104, 97, 98, 101, 116, 105, 99]⟩ : ByteArray)] from rfl) (Reps.one (show Kd.M Kd.string _ _ _ (⟨#[115, 121, 109, 98, 111, 108, 105, 99]⟩ : ByteArray) [.string (⟨#[115, 121, 109, 98, 111, 108, 105, 99]⟩ : ByteArray)] from rfl) (Reps.one (show Kd.M Kd.string _ _ _ (⟨#[97, 100, 100, 105, 116, 105, 118, 101]⟩ : ByteArray) [.string (⟨#[97, 100, 100, 105, 116, 105, 118, 101]⟩ : ByteArray)] from rfl) (Reps.one (show Kd.M Kd.string _ _ _ (⟨#[101, 120, 116, 101, 110, 100, 115]⟩ : ByteArray) [.string (⟨#[101, 120, 116, 101, 110, 100, 115]⟩ : ByteArray)] from rfl) (Reps.none _ _))))))))); intro v447 w12 ho13 hb hg_ hnew_; clear hg_ hnew_; (first | rw [← Ny446.out] at ho13 | (simp only [Int.reduceToNat] at ho13; rw [← Ny446.out] at ho13)); have n0_ := Aside0.mk (Kd.R_lower ho13 (below_size (by repeat (first | (with_reducible first | exact HB.out | apply below_alloc | apply pw_below_drewN | apply below_drew1) | exact HB.out)))); have n1_ := Aside0.mk (below_step (by repeat (first | (with_reducible first | exact HB.out | apply below_alloc | apply pw_below_drewN | apply below_drew1) | exact HB.out)) hb); clear HB; have HO448 := n0_; have HB := n1_; clear n0_ n1_; clear hb ho13) | ((with_reducible refine gate_callee (f := 15) rfl ?_); refine goesL_ (some 20) rfl rfl Try.func15 (by kernel_rfl) rfl #[.int .i64 a0, .int .i64 7] rfl (by (try simp only [List.map_toArray, List.map_cons, List.map_nil]); first | done | rfl | (simp only [List.length_drop, List.length_take]; rfl)) ?_; (with_reducible refine (fleuronalike_Round.calls a0 7 t449 _ A8.out).mono ?_); rintro e w' ⟨rfl, ⟨nd, rfl⟩⟩; refine ⟨_, rfl, ?_⟩; (try (rw [drewN_self w12]; generalize hq_ : World.drewN w12 _ = w12; have n0_ : Aside0 (Kd.R Kd.string 9 w12 w.heap.size (fun _ => True) v447 y446) := ⟨by rw [← hq_]; exact (by (with_reducible repeat (first | apply Kd.R_alloc | apply Kd.R_drewN | apply Kd.R_drew)); exact HO448.out)⟩; have n1_ : Aside0 (Below w.heap.size w w12) := ⟨by rw [← hq_]; exact (by repeat (first | (with_reducible first | exact HB.out | apply below_alloc | apply pw_below_drewN | apply below_drew1) | exact HB.out))⟩; clear HO448 HB hq_; have HO448 := n0_; have HB := n1_; clear n0_ n1_)); obtain ⟨Ao14, co14, eo14⟩ := Kd.R_slice HO448.out; subst eo14; have p450 : 0 ≤ (t449 : Int) := of_decide_eq_true (by first | (with_reducible assumption) | assumption); have q450 : t449 < (y446.length : Int) := of_decide_eq_true (by first | (with_reducible assumption) | assumption); obtain ⟨ad450, e450, hx450_0⟩ := Kd.at_string (Kd.R_reads' HO448.out).2.2 t449 p450 q450; cases e450; replace p450 := eq_true p450; replace q450 := eq_true q450) | ((with_reducible refine gate_callee (f := 13) rfl ?_); refine goesL_ (some 25) rfl rfl Try.func13 (by kernel_rfl) rfl #[.string (rdOf ByteArray.empty y446 t449), .slice none 0 0] rfl (by (try simp only [List.map_toArray, List.map_cons, List.map_nil]); first | done | rfl | (simp only [List.length_drop, List.length_take]; rfl)) ?_; (refine (fleuronlaw9_made.calls (rdOf ByteArray.empty y446 t449) (fun k_ => some k_ = (.slice none 0 0 : Value).ownBlock) (.slice none 0 0) ([] : List ByteArray) t451 t452 t453 t454 t457 t460 t461 t462 t463 t464 t465 t468 t469 t470 t471 t472 w _ ?side1 ?side2 A11.out).mono ?_); (case side1 => repeat (first | (with_reducible first | exact HB.out | apply below_alloc | apply pw_below_drewN | apply below_drew1) | exact HB.out)); (case side2 => exact Kd.R_nil _ _ _ _ _); rintro e w15 ⟨v455, v458, v466, rfl, ho0, ho1, ho2, hb, hkp⟩; refine ⟨_, rfl, ?_⟩; have n0_ := Aside0.mk (Kd.R_mono (ok' := fun k_ => some k_ ≠ (v455 : Value).ownBlock) (Kd.R_keptB (HO448.out) hkp (fun k_ hk_ hs_ => (fun e_ => by simp [Value.ownBlock] at e_) hs_)) (fun k_ hk_ => fun e_ => Or.elim (ho0.1 k_ e_.symm) (fun hs_ => hk_.2.1 hs_) (fun hn_ => Nat.not_le.2 hk_.2.2 hn_))); have n1_ := Aside0.mk (Kd.R_mono (ok' := fun k_ => some k_ ≠ (.slice (some ad450) y446.length co14 : Value).ownBlock) ho0 (fun k_ hk_ => Or.elim hk_ (fun hs_ => absurd hs_ (by simp [Value.ownBlock])) (fun hn_ => (Kd.fresh' (Kd.R_lt (by (with_reducible repeat (first | apply Kd.R_alloc | apply Kd.R_drewN | apply Kd.R_drew)); exact HO448.out)) k_ hn_)))); have n2_ := Aside0.mk (Kd.R_mono (ok' := fun k_ => True) ho1 (fun k_ hk_ => trivial)); have n3_ := Aside0.mk (Kd.R_mono (ok' := fun k_ => True) ho2 (fun k_ hk_ => trivial)); have n4_ := Aside0.mk (hb); clear HO448; clear HB; have HO448 := n0_; have HO456 := n1_; have HO459 := n2_; have HO467 := n3_; have HB := n4_; clear n0_ n1_ n2_ n3_ n4_; (try clear hb); (try clear hkp); (try clear ho0); (try clear ho1); (try clear ho2)) | ((with_reducible refine gate_dst (N := 11) rfl ?_); refine box_event ?hg (N := 11) ?hd (cs := #[.string (⟨#[]⟩ : ByteArray), .string (⟨#[]⟩ : ByteArray), .int .i64 0, .slice none 0 0, .slice none 0 0, .string (⟨#[]⟩ : ByteArray), .string (⟨#[]⟩ : ByteArray), .string (⟨#[]⟩ : ByteArray), .string (⟨#[]⟩ : ByteArray), .bool false, .slice none 0 0, .int .i64 0, .string (⟨#[]⟩ : ByteArray), .string (⟨#[]⟩ : ByteArray), .string (⟨#[]⟩ : ByteArray), .int .i64 0]) (t := 27) ?hr ?_; (case hd => rfl); (case hg => rfl); (case hr => first | (go_simp; done) | (go_simp; rfl)); intro gb473 hg w16 hbox hb; have n0_ := Aside0.mk (Kd.R_below (by (with_reducible repeat (first | apply Kd.R_alloc | apply Kd.R_drewN | apply Kd.R_drew)); exact HO448.out) hb); have n1_ := Aside0.mk (Kd.R_below (by (with_reducible repeat (first | apply Kd.R_alloc | apply Kd.R_drewN | apply Kd.R_drew)); exact HO456.out) hb); have n2_ := Aside0.mk (Kd.R_below (by (with_reducible repeat (first | apply Kd.R_alloc | apply Kd.R_drewN | apply Kd.R_drew)); exact HO459.out) hb); have n3_ := Aside0.mk (Kd.R_below (by (with_reducible repeat (first | apply Kd.R_alloc | apply Kd.R_drewN | apply Kd.R_drew)); exact HO467.out) hb); have n4_ := Aside0.mk (below_step (by repeat (first | (with_reducible first | exact HB.out | apply below_alloc | apply pw_below_drewN | apply below_drew1) | exact HB.out)) hb); have n5_ := Aside0.mk (hbox); have n6_ := Aside0.mk ((by rw [hg]; exact (below_size (by repeat (first | (with_reducible first | exact HB.out | apply below_alloc | apply pw_below_drewN | apply below_drew1) | exact HB.out))) : w.heap.size ≤ gb473)); have n7_ := Aside0.mk ((by rw [hg]; exact (below_size (by repeat (first | (with_reducible first | exact HB.out | apply below_alloc | apply pw_below_drewN | apply below_drew1) | exact HB.out))) : w.heap.size ≤ gb473)); clear HO448; clear HO456; clear HO459; clear HO467; clear HB; have HO448 := n0_; have HO456 := n1_; have HO459 := n2_; have HO467 := n3_; have HB := n4_; have BK473 := n5_; have GW473 := n6_; have GE473 := n7_; clear n0_ n1_ n2_ n3_ n4_ n5_ n6_ n7_; clear hb hbox hg; have hcz17_0 : w16.cell? ⟨gb473, 0, none⟩ = some (.string (⟨#[]⟩ : ByteArray)) := (blk_cell BK473.out 0).trans rfl; have hcz17_1 : w16.cell? ⟨gb473, 1, none⟩ = some (.string (⟨#[]⟩ : ByteArray)) := (blk_cell BK473.out 1).trans rfl; have hcz17_2 : w16.cell? ⟨gb473, 2, none⟩ = some (.int .i64 0) := (blk_cell BK473.out 2).trans rfl; have hcz17_3 : w16.cell? ⟨gb473, 3, none⟩ = some (.slice none 0 0) := (blk_cell BK473.out 3).trans rfl; have hcz17_4 : w16.cell? ⟨gb473, 4, none⟩ = some (.slice none 0 0) := (blk_cell BK473.out 4).trans rfl; have hcz17_5 : w16.cell? ⟨gb473, 5, none⟩ = some (.string (⟨#[]⟩ : ByteArray)) := (blk_cell BK473.out 5).trans rfl; have hcz17_6 : w16.cell? ⟨gb473, 6, none⟩ = some (.string (⟨#[]⟩ : ByteArray)) := (blk_cell BK473.out 6).trans rfl; have hcz17_7 : w16.cell? ⟨gb473, 7, none⟩ = some (.string (⟨#[]⟩ : ByteArray)) := (blk_cell BK473.out 7).trans rfl; have hcz17_8 : w16.cell? ⟨gb473, 8, none⟩ = some (.string (⟨#[]⟩ : ByteArray)) := (blk_cell BK473.out 8).trans rfl; have hcz17_9 : w16.cell? ⟨gb473, 9, none⟩ = some (.bool false) := (blk_cell BK473.out 9).trans rfl; have hcz17_10 : w16.cell? ⟨gb473, 10, none⟩ = some (.slice none 0 0) := (blk_cell BK473.out 10).trans rfl; have hcz17_11 : w16.cell? ⟨gb473, 11, none⟩ = some (.int .i64 0) := (blk_cell BK473.out 11).trans rfl; have hcz17_12 : w16.cell? ⟨gb473, 12, none⟩ = some (.string (⟨#[]⟩ : ByteArray)) := (blk_cell BK473.out 12).trans rfl; have hcz17_13 : w16.cell? ⟨gb473, 13, none⟩ = some (.string (⟨#[]⟩ : ByteArray)) := (blk_cell BK473.out 13).trans rfl; have hcz17_14 : w16.cell? ⟨gb473, 14, none⟩ = some (.string (⟨#[]⟩ : ByteArray)) := (blk_cell BK473.out 14).trans rfl; have hcz17_15 : w16.cell? ⟨gb473, 15, none⟩ = some (.int .i64 0) := (blk_cell BK473.out 15).trans rfl; have hfz17_0 := blk_frozen BK473.out 0; have hfz17_1 := blk_frozen BK473.out 1; have hfz17_2 := blk_frozen BK473.out 2; have hfz17_3 := blk_frozen BK473.out 3; have hfz17_4 := blk_frozen BK473.out 4; have hfz17_5 := blk_frozen BK473.out 5; have hfz17_6 := blk_frozen BK473.out 6; have hfz17_7 := blk_frozen BK473.out 7; have hfz17_8 := blk_frozen BK473.out 8; have hfz17_9 := blk_frozen BK473.out 9; have hfz17_10 := blk_frozen BK473.out 10; have hfz17_11 := blk_frozen BK473.out 11; have hfz17_12 := blk_frozen BK473.out 12; have hfz17_13 := blk_frozen BK473.out 13; have hfz17_14 := blk_frozen BK473.out 14; have hfz17_15 := blk_frozen BK473.out 15; obtain ⟨Ao18, co18, eo18⟩ := Kd.R_slice HO456.out; subst eo18; obtain ⟨Ao19, co19, eo19⟩ := Kd.R_slice HO459.out; subst eo19; obtain ⟨Ao20, co20, eo20⟩ := Kd.R_slice HO467.out; subst eo20))
        go_loopg [12, 13] k (fun kq v12 v13 w' => ∃ (x12_1 : Bool) (x13_1 : Int) (x474010_1 : List (S41)) (u474010 : Value), v12 = .bool x12_1 ∧ v13 = .int .i64 x13_1 ∧ Aside0 (fleuronlaw9_SystemRanges.l0 kq a1 l2 a3 t449 x12_1 x13_1 t451 t452 t453 t454 t457 t460 t461 t462 t463 a3 x474010_1 t468 t469 t470 t471 t472 = some r) ∧ Aside0 (kq ≤ k) ∧ Aside0 (Kd.R Kd.string 9 w' w.heap.size (fun _ => True) (.slice Ao18 t454.length co18) t454) ∧ Aside0 (Kd.R (Kd.int .i64) 3 w' w.heap.size (fun _ => True) (.slice Ao19 t457.length co19) t457) ∧ Aside0 (Kd.R k41 41 w' w.heap.size (fun _ => True) u474010 x474010_1) ∧ Aside0 (w'.heap[gb473]? = some (.cells #[.string t451, .string t452, .int .i64 t453, (.slice Ao18 t454.length co18), (.slice Ao19 t457.length co19), .string t460, .string t461, .string t462, .string t463, .bool a3, u474010, .int .i64 t468, .string t469, .string t470, .string t471, .int .i64 t472] 27 (0, 0))) ∧ Aside0 (Below w.heap.size w w'))
        case atStart => exact ⟨(false), (0), (t465), (.slice Ao20 t465.length co20), (by first | rfl | (simp; done) | (simp [*]; done)), (by first | rfl | (simp; done) | (simp [*]; done)), H', ⟨Nat.le_refl _⟩, ⟨by (with_reducible repeat (first | apply Kd.R_alloc | apply Kd.R_drewN | apply Kd.R_drew)); exact Kd.R_mono (Kd.R_far (p := ⟨gb473, 9, none⟩) (Kd.R_far (p := ⟨gb473, 15, none⟩) (Kd.R_far (p := ⟨gb473, 14, none⟩) (Kd.R_far (p := ⟨gb473, 13, none⟩) (Kd.R_far (p := ⟨gb473, 12, none⟩) (Kd.R_far (p := ⟨gb473, 11, none⟩) (Kd.R_far (p := ⟨gb473, 10, none⟩) (Kd.R_far (p := ⟨gb473, 9, none⟩) (Kd.R_far (p := ⟨gb473, 8, none⟩) (Kd.R_far (p := ⟨gb473, 7, none⟩) (Kd.R_far (p := ⟨gb473, 6, none⟩) (Kd.R_far (p := ⟨gb473, 5, none⟩) (Kd.R_far (p := ⟨gb473, 4, none⟩) (Kd.R_far (p := ⟨gb473, 3, none⟩) (Kd.R_far (p := ⟨gb473, 2, none⟩) (Kd.R_far (p := ⟨gb473, 1, none⟩) (Kd.R_far (p := ⟨gb473, 0, none⟩) (Kd.R_types HO456.out BK473.out (by decide)) (fun _ hk => hk.2) (.string t451)) (fun _ hk => hk.2) (.string t452)) (fun _ hk => hk.2) (.int .i64 t453)) (fun _ hk => hk.2) (.slice Ao18 t454.length co18)) (fun _ hk => hk.2) (.slice Ao19 t457.length co19)) (fun _ hk => hk.2) (.string t460)) (fun _ hk => hk.2) (.string t461)) (fun _ hk => hk.2) (.string t462)) (fun _ hk => hk.2) (.string t463)) (fun _ hk => hk.2) (.bool t464)) (fun _ hk => hk.2) (.slice Ao20 t465.length co20)) (fun _ hk => hk.2) (.int .i64 t468)) (fun _ hk => hk.2) (.string t469)) (fun _ hk => hk.2) (.string t470)) (fun _ hk => hk.2) (.string t471)) (fun _ hk => hk.2) (.int .i64 t472)) (fun _ hk => hk.2) (.bool a3)) (fun _ hk => by first | exact trivial | simp [hk])⟩, ⟨by (with_reducible repeat (first | apply Kd.R_alloc | apply Kd.R_drewN | apply Kd.R_drew)); exact Kd.R_mono (Kd.R_far (p := ⟨gb473, 9, none⟩) (Kd.R_far (p := ⟨gb473, 15, none⟩) (Kd.R_far (p := ⟨gb473, 14, none⟩) (Kd.R_far (p := ⟨gb473, 13, none⟩) (Kd.R_far (p := ⟨gb473, 12, none⟩) (Kd.R_far (p := ⟨gb473, 11, none⟩) (Kd.R_far (p := ⟨gb473, 10, none⟩) (Kd.R_far (p := ⟨gb473, 9, none⟩) (Kd.R_far (p := ⟨gb473, 8, none⟩) (Kd.R_far (p := ⟨gb473, 7, none⟩) (Kd.R_far (p := ⟨gb473, 6, none⟩) (Kd.R_far (p := ⟨gb473, 5, none⟩) (Kd.R_far (p := ⟨gb473, 4, none⟩) (Kd.R_far (p := ⟨gb473, 3, none⟩) (Kd.R_far (p := ⟨gb473, 2, none⟩) (Kd.R_far (p := ⟨gb473, 1, none⟩) (Kd.R_far (p := ⟨gb473, 0, none⟩) (Kd.R_types HO459.out BK473.out (by decide)) (fun _ hk => hk.2) (.string t451)) (fun _ hk => hk.2) (.string t452)) (fun _ hk => hk.2) (.int .i64 t453)) (fun _ hk => hk.2) (.slice Ao18 t454.length co18)) (fun _ hk => hk.2) (.slice Ao19 t457.length co19)) (fun _ hk => hk.2) (.string t460)) (fun _ hk => hk.2) (.string t461)) (fun _ hk => hk.2) (.string t462)) (fun _ hk => hk.2) (.string t463)) (fun _ hk => hk.2) (.bool t464)) (fun _ hk => hk.2) (.slice Ao20 t465.length co20)) (fun _ hk => hk.2) (.int .i64 t468)) (fun _ hk => hk.2) (.string t469)) (fun _ hk => hk.2) (.string t470)) (fun _ hk => hk.2) (.string t471)) (fun _ hk => hk.2) (.int .i64 t472)) (fun _ hk => hk.2) (.bool a3)) (fun _ hk => by first | exact trivial | simp [hk])⟩, ⟨by (with_reducible repeat (first | apply Kd.R_alloc | apply Kd.R_drewN | apply Kd.R_drew)); exact Kd.R_mono (Kd.R_far (p := ⟨gb473, 9, none⟩) (Kd.R_far (p := ⟨gb473, 15, none⟩) (Kd.R_far (p := ⟨gb473, 14, none⟩) (Kd.R_far (p := ⟨gb473, 13, none⟩) (Kd.R_far (p := ⟨gb473, 12, none⟩) (Kd.R_far (p := ⟨gb473, 11, none⟩) (Kd.R_far (p := ⟨gb473, 10, none⟩) (Kd.R_far (p := ⟨gb473, 9, none⟩) (Kd.R_far (p := ⟨gb473, 8, none⟩) (Kd.R_far (p := ⟨gb473, 7, none⟩) (Kd.R_far (p := ⟨gb473, 6, none⟩) (Kd.R_far (p := ⟨gb473, 5, none⟩) (Kd.R_far (p := ⟨gb473, 4, none⟩) (Kd.R_far (p := ⟨gb473, 3, none⟩) (Kd.R_far (p := ⟨gb473, 2, none⟩) (Kd.R_far (p := ⟨gb473, 1, none⟩) (Kd.R_far (p := ⟨gb473, 0, none⟩) (Kd.R_types HO467.out BK473.out (by decide)) (fun _ hk => hk.2) (.string t451)) (fun _ hk => hk.2) (.string t452)) (fun _ hk => hk.2) (.int .i64 t453)) (fun _ hk => hk.2) (.slice Ao18 t454.length co18)) (fun _ hk => hk.2) (.slice Ao19 t457.length co19)) (fun _ hk => hk.2) (.string t460)) (fun _ hk => hk.2) (.string t461)) (fun _ hk => hk.2) (.string t462)) (fun _ hk => hk.2) (.string t463)) (fun _ hk => hk.2) (.bool t464)) (fun _ hk => hk.2) (.slice Ao20 t465.length co20)) (fun _ hk => hk.2) (.int .i64 t468)) (fun _ hk => hk.2) (.string t469)) (fun _ hk => hk.2) (.string t470)) (fun _ hk => hk.2) (.string t471)) (fun _ hk => hk.2) (.int .i64 t472)) (fun _ hk => hk.2) (.bool a3)) (fun _ hk => by first | exact trivial | simp [hk])⟩, ⟨by (with_reducible repeat (first | refine blk_drewN ?_ _ | refine blk_drew ?_ | refine blk_alloc ?_ _)); refine blk_put (cs := #[.string t451, .string t452, .int .i64 t453, .slice Ao18 t454.length co18, .slice Ao19 t457.length co19, .string t460, .string t461, .string t462, .string t463, .bool t464, .slice Ao20 t465.length co20, .int .i64 t468, .string t469, .string t470, .string t471, .int .i64 t472]) ?_ 9 _ rfl; (with_reducible repeat (first | refine blk_drewN ?_ _ | refine blk_drew ?_ | refine blk_alloc ?_ _)); refine blk_put (cs := #[.string t451, .string t452, .int .i64 t453, .slice Ao18 t454.length co18, .slice Ao19 t457.length co19, .string t460, .string t461, .string t462, .string t463, .bool t464, .slice Ao20 t465.length co20, .int .i64 t468, .string t469, .string t470, .string t471, .int .i64 0]) ?_ 15 _ rfl; (with_reducible repeat (first | refine blk_drewN ?_ _ | refine blk_drew ?_ | refine blk_alloc ?_ _)); refine blk_put (cs := #[.string t451, .string t452, .int .i64 t453, .slice Ao18 t454.length co18, .slice Ao19 t457.length co19, .string t460, .string t461, .string t462, .string t463, .bool t464, .slice Ao20 t465.length co20, .int .i64 t468, .string t469, .string t470, .string (⟨#[]⟩ : ByteArray), .int .i64 0]) ?_ 14 _ rfl; (with_reducible repeat (first | refine blk_drewN ?_ _ | refine blk_drew ?_ | refine blk_alloc ?_ _)); refine blk_put (cs := #[.string t451, .string t452, .int .i64 t453, .slice Ao18 t454.length co18, .slice Ao19 t457.length co19, .string t460, .string t461, .string t462, .string t463, .bool t464, .slice Ao20 t465.length co20, .int .i64 t468, .string t469, .string (⟨#[]⟩ : ByteArray), .string (⟨#[]⟩ : ByteArray), .int .i64 0]) ?_ 13 _ rfl; (with_reducible repeat (first | refine blk_drewN ?_ _ | refine blk_drew ?_ | refine blk_alloc ?_ _)); refine blk_put (cs := #[.string t451, .string t452, .int .i64 t453, .slice Ao18 t454.length co18, .slice Ao19 t457.length co19, .string t460, .string t461, .string t462, .string t463, .bool t464, .slice Ao20 t465.length co20, .int .i64 t468, .string (⟨#[]⟩ : ByteArray), .string (⟨#[]⟩ : ByteArray), .string (⟨#[]⟩ : ByteArray), .int .i64 0]) ?_ 12 _ rfl; (with_reducible repeat (first | refine blk_drewN ?_ _ | refine blk_drew ?_ | refine blk_alloc ?_ _)); refine blk_put (cs := #[.string t451, .string t452, .int .i64 t453, .slice Ao18 t454.length co18, .slice Ao19 t457.length co19, .string t460, .string t461, .string t462, .string t463, .bool t464, .slice Ao20 t465.length co20, .int .i64 0, .string (⟨#[]⟩ : ByteArray), .string (⟨#[]⟩ : ByteArray), .string (⟨#[]⟩ : ByteArray), .int .i64 0]) ?_ 11 _ rfl; (with_reducible repeat (first | refine blk_drewN ?_ _ | refine blk_drew ?_ | refine blk_alloc ?_ _)); refine blk_put (cs := #[.string t451, .string t452, .int .i64 t453, .slice Ao18 t454.length co18, .slice Ao19 t457.length co19, .string t460, .string t461, .string t462, .string t463, .bool t464, .slice none 0 0, .int .i64 0, .string (⟨#[]⟩ : ByteArray), .string (⟨#[]⟩ : ByteArray), .string (⟨#[]⟩ : ByteArray), .int .i64 0]) ?_ 10 _ rfl; (with_reducible repeat (first | refine blk_drewN ?_ _ | refine blk_drew ?_ | refine blk_alloc ?_ _)); refine blk_put (cs := #[.string t451, .string t452, .int .i64 t453, .slice Ao18 t454.length co18, .slice Ao19 t457.length co19, .string t460, .string t461, .string t462, .string t463, .bool false, .slice none 0 0, .int .i64 0, .string (⟨#[]⟩ : ByteArray), .string (⟨#[]⟩ : ByteArray), .string (⟨#[]⟩ : ByteArray), .int .i64 0]) ?_ 9 _ rfl; (with_reducible repeat (first | refine blk_drewN ?_ _ | refine blk_drew ?_ | refine blk_alloc ?_ _)); refine blk_put (cs := #[.string t451, .string t452, .int .i64 t453, .slice Ao18 t454.length co18, .slice Ao19 t457.length co19, .string t460, .string t461, .string t462, .string (⟨#[]⟩ : ByteArray), .bool false, .slice none 0 0, .int .i64 0, .string (⟨#[]⟩ : ByteArray), .string (⟨#[]⟩ : ByteArray), .string (⟨#[]⟩ : ByteArray), .int .i64 0]) ?_ 8 _ rfl; (with_reducible repeat (first | refine blk_drewN ?_ _ | refine blk_drew ?_ | refine blk_alloc ?_ _)); refine blk_put (cs := #[.string t451, .string t452, .int .i64 t453, .slice Ao18 t454.length co18, .slice Ao19 t457.length co19, .string t460, .string t461, .string (⟨#[]⟩ : ByteArray), .string (⟨#[]⟩ : ByteArray), .bool false, .slice none 0 0, .int .i64 0, .string (⟨#[]⟩ : ByteArray), .string (⟨#[]⟩ : ByteArray), .string (⟨#[]⟩ : ByteArray), .int .i64 0]) ?_ 7 _ rfl; (with_reducible repeat (first | refine blk_drewN ?_ _ | refine blk_drew ?_ | refine blk_alloc ?_ _)); refine blk_put (cs := #[.string t451, .string t452, .int .i64 t453, .slice Ao18 t454.length co18, .slice Ao19 t457.length co19, .string t460, .string (⟨#[]⟩ : ByteArray), .string (⟨#[]⟩ : ByteArray), .string (⟨#[]⟩ : ByteArray), .bool false, .slice none 0 0, .int .i64 0, .string (⟨#[]⟩ : ByteArray), .string (⟨#[]⟩ : ByteArray), .string (⟨#[]⟩ : ByteArray), .int .i64 0]) ?_ 6 _ rfl; (with_reducible repeat (first | refine blk_drewN ?_ _ | refine blk_drew ?_ | refine blk_alloc ?_ _)); refine blk_put (cs := #[.string t451, .string t452, .int .i64 t453, .slice Ao18 t454.length co18, .slice Ao19 t457.length co19, .string (⟨#[]⟩ : ByteArray), .string (⟨#[]⟩ : ByteArray), .string (⟨#[]⟩ : ByteArray), .string (⟨#[]⟩ : ByteArray), .bool false, .slice none 0 0, .int .i64 0, .string (⟨#[]⟩ : ByteArray), .string (⟨#[]⟩ : ByteArray), .string (⟨#[]⟩ : ByteArray), .int .i64 0]) ?_ 5 _ rfl; (with_reducible repeat (first | refine blk_drewN ?_ _ | refine blk_drew ?_ | refine blk_alloc ?_ _)); refine blk_put (cs := #[.string t451, .string t452, .int .i64 t453, .slice Ao18 t454.length co18, .slice none 0 0, .string (⟨#[]⟩ : ByteArray), .string (⟨#[]⟩ : ByteArray), .string (⟨#[]⟩ : ByteArray), .string (⟨#[]⟩ : ByteArray), .bool false, .slice none 0 0, .int .i64 0, .string (⟨#[]⟩ : ByteArray), .string (⟨#[]⟩ : ByteArray), .string (⟨#[]⟩ : ByteArray), .int .i64 0]) ?_ 4 _ rfl; (with_reducible repeat (first | refine blk_drewN ?_ _ | refine blk_drew ?_ | refine blk_alloc ?_ _)); refine blk_put (cs := #[.string t451, .string t452, .int .i64 t453, .slice none 0 0, .slice none 0 0, .string (⟨#[]⟩ : ByteArray), .string (⟨#[]⟩ : ByteArray), .string (⟨#[]⟩ : ByteArray), .string (⟨#[]⟩ : ByteArray), .bool false, .slice none 0 0, .int .i64 0, .string (⟨#[]⟩ : ByteArray), .string (⟨#[]⟩ : ByteArray), .string (⟨#[]⟩ : ByteArray), .int .i64 0]) ?_ 3 _ rfl; (with_reducible repeat (first | refine blk_drewN ?_ _ | refine blk_drew ?_ | refine blk_alloc ?_ _)); refine blk_put (cs := #[.string t451, .string t452, .int .i64 0, .slice none 0 0, .slice none 0 0, .string (⟨#[]⟩ : ByteArray), .string (⟨#[]⟩ : ByteArray), .string (⟨#[]⟩ : ByteArray), .string (⟨#[]⟩ : ByteArray), .bool false, .slice none 0 0, .int .i64 0, .string (⟨#[]⟩ : ByteArray), .string (⟨#[]⟩ : ByteArray), .string (⟨#[]⟩ : ByteArray), .int .i64 0]) ?_ 2 _ rfl; (with_reducible repeat (first | refine blk_drewN ?_ _ | refine blk_drew ?_ | refine blk_alloc ?_ _)); refine blk_put (cs := #[.string t451, .string (⟨#[]⟩ : ByteArray), .int .i64 0, .slice none 0 0, .slice none 0 0, .string (⟨#[]⟩ : ByteArray), .string (⟨#[]⟩ : ByteArray), .string (⟨#[]⟩ : ByteArray), .string (⟨#[]⟩ : ByteArray), .bool false, .slice none 0 0, .int .i64 0, .string (⟨#[]⟩ : ByteArray), .string (⟨#[]⟩ : ByteArray), .string (⟨#[]⟩ : ByteArray), .int .i64 0]) ?_ 1 _ rfl; (with_reducible repeat (first | refine blk_drewN ?_ _ | refine blk_drew ?_ | refine blk_alloc ?_ _)); refine blk_put (cs := #[.string (⟨#[]⟩ : ByteArray), .string (⟨#[]⟩ : ByteArray), .int .i64 0, .slice none 0 0, .slice none 0 0, .string (⟨#[]⟩ : ByteArray), .string (⟨#[]⟩ : ByteArray), .string (⟨#[]⟩ : ByteArray), .string (⟨#[]⟩ : ByteArray), .bool false, .slice none 0 0, .int .i64 0, .string (⟨#[]⟩ : ByteArray), .string (⟨#[]⟩ : ByteArray), .string (⟨#[]⟩ : ByteArray), .int .i64 0]) ?_ 0 _ rfl; (with_reducible repeat (first | refine blk_drewN ?_ _ | refine blk_drew ?_ | refine blk_alloc ?_ _)); exact BK473.out⟩, ⟨by repeat (first | (with_reducible first | exact HB.out | apply below_alloc | apply pw_below_drewN | apply below_drew1 | refine below_set ?_ GE473.out) | exact HB.out)⟩⟩
        case round =>
          clear H'
          try clear c1
          try clear c2
          try clear p2
          try clear p4
          try clear q4
          try clear hx4
          try clear c5
          try clear c5b0
          try clear c5b1
          try clear c8
          try clear c9
          try clear c9b0
          try clear c10
          try clear c10b0
          try clear c13
          try clear c15
          try clear hcz17_0
          try clear hcz17_1
          try clear hcz17_10
          try clear hcz17_11
          try clear hcz17_12
          try clear hcz17_13
          try clear hcz17_14
          try clear hcz17_15
          try clear hcz17_2
          try clear hcz17_3
          try clear hcz17_4
          try clear hcz17_5
          try clear hcz17_6
          try clear hcz17_7
          try clear hcz17_8
          try clear hcz17_9
          try clear hfz17_0
          try clear hfz17_1
          try clear hfz17_10
          try clear hfz17_11
          try clear hfz17_12
          try clear hfz17_13
          try clear hfz17_14
          try clear hfz17_15
          try clear hfz17_2
          try clear hfz17_3
          try clear hfz17_4
          try clear hfz17_5
          try clear hfz17_6
          try clear hfz17_7
          try clear hfz17_8
          try clear hfz17_9
          try clear hx450_0
          try clear p450
          try clear q450
          obtain ⟨x12_1, x13_1, x474010_1, u474010, rfl, rfl, HA, HK1, HO_474003, HO_474004, HO_474010, BK473, HB⟩ := hrel
          cases gk with
          | zero => exact absurd HA.out (by simp [fleuronlaw9_SystemRanges.l0])
          | succ k1 =>
            have H := HA.out
            clear HA
            simp only [fleuronlaw9_SystemRanges.l0] at H
            by_cases c21 : (wrap64 (x13_1 + 1)) < (l2.length : Int)
            · rw [if_pos c21] at H
              have c21b0 : decide ((wrap64 (x13_1 + 1)) < (l2.length : Int)) = true := decide_eq_true c21
              clear c21
              by_cases c22 : 0 ≤ x13_1
              · rw [if_pos c22] at H
                have c22b0 : decide (0 ≤ x13_1) = true := decide_eq_true c22
                clear c22
                by_cases c23 : x13_1 < (l2.length : Int)
                · rw [if_pos c23] at H
                  have c23b0 : decide (x13_1 < (l2.length : Int)) = true := decide_eq_true c23
                  clear c23
                  obtain ⟨ji24, hji24⟩ : ∃ j_ : Int, (wrap64 (x13_1 + 1)) = j_ := ⟨_, rfl⟩
                  replace H : (if 0 ≤ (ji24) then (if x474010_1.length < 8796093022208 then ((some (x474010_1 ++ [(⟨rd l2 x13_1, rd l2 (ji24)⟩ : S41)] : List (S41))).bind fun y476 => (if x12_1 = true then (fleuronlaw9_SystemRanges.l0 k1 a1 l2 a3 t449 true (wrap64 (x13_1 + 2)) t451 t452 t453 t454 t457 t460 t461 t462 t463 a3 y476 t468 t469 t470 t471 t472) else (if a1 ≥ (rd l2 x13_1) then (fleuronlaw9_SystemRanges.l0 k1 a1 l2 a3 t449 (decide (a1 ≤ (rd l2 (ji24)))) (wrap64 (x13_1 + 2)) t451 t452 t453 t454 t457 t460 t461 t462 t463 a3 y476 t468 t469 t470 t471 t472) else (fleuronlaw9_SystemRanges.l0 k1 a1 l2 a3 t449 false (wrap64 (x13_1 + 2)) t451 t452 t453 t454 t457 t460 t461 t462 t463 a3 y476 t468 t469 t470 t471 t472)))) else (none)) else (none)) = some r := by first | (rw [hji24] at H; exact H) | (simp only [hji24] at H ⊢; exact H)
                  (try rw [hji24] at c21b0)
                  have hji24w : (IntKind.i64.wrap (x13_1 + 1)) = ji24 := (i64_w _).trans hji24
                  by_cases c25 : 0 ≤ (ji24)
                  · rw [if_pos c25] at H
                    have c25b0 : decide (0 ≤ (ji24)) = true := decide_eq_true c25
                    clear c25
                    by_cases c26 : x474010_1.length < 8796093022208
                    · rw [if_pos c26] at H
                      have LMc26 := Aside0.mk c26
                      clear c26
                      obtain ⟨y476, hy476⟩ : ∃ y_ : List (S41), y_ = (x474010_1 ++ [(⟨rd l2 x13_1, rd l2 (ji24)⟩ : S41)]) := ⟨_, rfl⟩
                      replace H : (if x12_1 = true then (fleuronlaw9_SystemRanges.l0 k1 a1 l2 a3 t449 true (wrap64 (x13_1 + 2)) t451 t452 t453 t454 t457 t460 t461 t462 t463 a3 y476 t468 t469 t470 t471 t472) else (if a1 ≥ (rd l2 x13_1) then (fleuronlaw9_SystemRanges.l0 k1 a1 l2 a3 t449 (decide (a1 ≤ (rd l2 (ji24)))) (wrap64 (x13_1 + 2)) t451 t452 t453 t454 t457 t460 t461 t462 t463 a3 y476 t468 t469 t470 t471 t472) else (fleuronlaw9_SystemRanges.l0 k1 a1 l2 a3 t449 false (wrap64 (x13_1 + 2)) t451 t452 t453 t454 t457 t460 t461 t462 t463 a3 y476 t468 t469 t470 t471 t472))) = some r := by first | (rw [hy476]; with_reducible exact H) | (have H2_ := (Option.bind_some _ _).symm.trans H; rw [hy476]; with_reducible exact H2_) | (have H2_ := (Option.bind_some _ _).symm.trans H; with_reducible exact H2_) | with_reducible exact H | (rw [hy476]; exact H) | exact H
                      have Ny476 := Aside0.mk hy476
                      clear hy476
                      by_cases c27 : x12_1 = true
                      · as_aux_lemma =>
                        subst c27
                        have H1 : (fleuronlaw9_SystemRanges.l0 k1 a1 l2 a3 t449 true (wrap64 (x13_1 + 2)) t451 t452 t453 t454 t457 t460 t461 t462 t463 a3 y476 t468 t469 t470 t471 t472) = some r := by rw [if_pos rfl] at H; exact H
                        clear H
                        have H := H1
                        clear H1
                        have H' := Aside0.mk H
                        clear H
                        try go_wp2
                        have n0_ := Aside0.mk (Kd.R_drew HO_474003.out)
                        have n1_ := Aside0.mk (Kd.R_drew HO_474004.out)
                        have n2_ := Aside0.mk (Kd.R_drew HO_474010.out)
                        have n3_ := Aside0.mk (blk_drew BK473.out)
                        have n4_ := Aside0.mk (below_drew1 HB.out)
                        clear HO_474003
                        clear HO_474004
                        clear HO_474010
                        clear BK473
                        clear HB
                        have HO_474003 := n0_
                        have HO_474004 := n1_
                        have HO_474010 := n2_
                        have BK473 := n3_
                        have HB := n4_
                        clear n0_ n1_ n2_ n3_ n4_
                        have p474 : 0 ≤ (x13_1 : Int) := of_decide_eq_true (by first | (with_reducible assumption) | assumption)
                        have q474 : x13_1 < (l2.length : Int) := of_decide_eq_true (by first | (with_reducible assumption) | assumption)
                        obtain ⟨ad474, e474, hx474_0⟩ := Kd.at_int HR2.out x13_1 p474 q474
                        have hw474_0 := hx474_0
                        cases e474
                        replace hx474_0 := (HB.out.cell (World.block_lt_of_cell? w _ hx474_0)).trans hx474_0
                        replace p474 := eq_true p474
                        replace q474 := eq_true q474
                        have p475 : 0 ≤ ((ji24) : Int) := of_decide_eq_true (by first | (with_reducible assumption) | assumption)
                        have q475 : (ji24) < (l2.length : Int) := of_decide_eq_true (by first | (with_reducible assumption) | assumption)
                        obtain ⟨ad475, e475, hx475_0⟩ := Kd.at_int HR2.out (ji24) p475 q475
                        have hw475_0 := hx475_0
                        obtain rfl : ad474 = ad475 := (by injection e475)
                        replace hx475_0 := (HB.out.cell (World.block_lt_of_cell? w _ hx475_0)).trans hx475_0
                        replace p475 := eq_true p475
                        replace q475 := eq_true q475
                        refine start_ (n := 16) (S := fun w' => w'.cell? ⟨gb473, 0, none⟩ = some (.string t451) ∧ w'.cell? ⟨gb473, 1, none⟩ = some (.string t452) ∧ w'.cell? ⟨gb473, 2, none⟩ = some (.int .i64 t453) ∧ w'.cell? ⟨gb473, 3, none⟩ = some (.slice Ao18 t454.length co18) ∧ w'.cell? ⟨gb473, 4, none⟩ = some (.slice Ao19 t457.length co19) ∧ w'.cell? ⟨gb473, 5, none⟩ = some (.string t460) ∧ w'.cell? ⟨gb473, 6, none⟩ = some (.string t461) ∧ w'.cell? ⟨gb473, 7, none⟩ = some (.string t462) ∧ w'.cell? ⟨gb473, 8, none⟩ = some (.string t463) ∧ w'.cell? ⟨gb473, 9, none⟩ = some (.bool a3) ∧ w'.cell? ⟨gb473, 10, none⟩ = some (u474010) ∧ w'.cell? ⟨gb473, 11, none⟩ = some (.int .i64 t468) ∧ w'.cell? ⟨gb473, 12, none⟩ = some (.string t469) ∧ w'.cell? ⟨gb473, 13, none⟩ = some (.string t470) ∧ w'.cell? ⟨gb473, 14, none⟩ = some (.string t471) ∧ w'.cell? ⟨gb473, 15, none⟩ = some (.int .i64 t472) ∧ w'.cell? (ad474.add (x13_1).toNat) = some (.int .i64 (rd l2 x13_1)) ∧ w'.cell? (ad474.add ((ji24)).toNat) = some (.int .i64 (rd l2 (ji24)))) (ds := [15]) #[false, false, false, false, false, false, false, false, false, false, false, false, false, false, false, false] (by kernel_rfl) rfl rfl ⟨(blk_cell BK473.out 0).trans rfl, (blk_cell BK473.out 1).trans rfl, (blk_cell BK473.out 2).trans rfl, (blk_cell BK473.out 3).trans rfl, (blk_cell BK473.out 4).trans rfl, (blk_cell BK473.out 5).trans rfl, (blk_cell BK473.out 6).trans rfl, (blk_cell BK473.out 7).trans rfl, (blk_cell BK473.out 8).trans rfl, (blk_cell BK473.out 9).trans rfl, (blk_cell BK473.out 10).trans rfl, (blk_cell BK473.out 11).trans rfl, (blk_cell BK473.out 12).trans rfl, (blk_cell BK473.out 13).trans rfl, (blk_cell BK473.out 14).trans rfl, (blk_cell BK473.out 15).trans rfl, ((HB.out.cell (World.block_lt_of_cell? w _ hw474_0)).trans hw474_0), ((HB.out.cell (World.block_lt_of_cell? w _ hw475_0)).trans hw475_0)⟩ (fun hHeld => ?_); refine with_tabW fleuronlaw9_SystemRanges.tab11 fleuronlaw9_SystemRanges.bits11 (fun HT_ HW_ => ?_)
                        generalize wr.drew = w28 at HO_474003 HO_474004 HO_474010 BK473 HB hx474_0 hx475_0 hHeld ⊢
                        refine pure_ (i := 0) (N := some 35) (v := ?_) (a' := ?_) #[true, false, false, false, false, false, false, false, false, false, false, false, false, false, false, false] rfl rfl (any_of HT_.out (by kernel_rfl)) (fun _ _ _ h => h) (Or.inl ⟨by rfl, ?_⟩) ?_ ?_
                        rotate_left
                        · intro w'
                          go_simp
                          with_reducible rfl
                        rotate_left
                        · simp only [Act.put, List.setIfInBounds_toArray, List.set_cons_zero, List.set_cons_succ, i64_w, i32_w]
                          rfl
                        refine pure_ (i := 2) (N := some 37) (v := ?_) (a' := ?_) #[true, false, true, false, false, false, false, false, false, false, false, false, false, false, false, false] rfl rfl (any_of HT_.out (by kernel_rfl)) (fun _ _ _ h => h) (Or.inl ⟨by rfl, ?_⟩) ?_ ?_
                        rotate_left
                        · intro w'
                          go_simp
                          with_reducible rfl
                        rotate_left
                        · simp only [Act.put, List.setIfInBounds_toArray, List.set_cons_zero, List.set_cons_succ, i64_w, i32_w]
                          rfl
                        refine pure_ (i := 3) (N := some 38) (v := ?_) (a' := ?_) #[true, false, true, true, false, false, false, false, false, false, false, false, false, false, false, false] rfl rfl (any_of HT_.out (by kernel_rfl)) (fun _ _ _ h => h) (Or.inl ⟨by rfl, ?_⟩) ?_ ?_
                        rotate_left
                        · intro w'
                          go_simp
                          with_reducible rfl
                        rotate_left
                        · simp only [Act.put, List.setIfInBounds_toArray, List.set_cons_zero, List.set_cons_succ, i64_w, i32_w]
                          rfl
                        refine pure_ (i := 4) (N := some 39) (v := ?_) (a' := ?_) #[true, false, true, true, true, false, false, false, false, false, false, false, false, false, false, false] rfl rfl (any_of HT_.out (by kernel_rfl)) (fun _ _ _ h => h) (Or.inl ⟨by rfl, ?_⟩) ?_ ?_
                        rotate_left
                        · intro w'
                          go_simp
                          with_reducible rfl
                        rotate_left
                        · simp only [Act.put, List.setIfInBounds_toArray, List.set_cons_zero, List.set_cons_succ, i64_w, i32_w]
                          rfl
                        refine pure_ (i := 6) (N := some 41) (v := ?_) (a' := ?_) #[true, false, true, true, true, false, true, false, false, false, false, false, false, false, false, false] rfl rfl (any_of HT_.out (by kernel_rfl)) (fun _ _ _ h => h) (Or.inl ⟨by rfl, ?_⟩) ?_ ?_
                        rotate_left
                        · intro w'
                          go_simp
                          with_reducible rfl
                        rotate_left
                        · simp only [Act.put, List.setIfInBounds_toArray, List.set_cons_zero, List.set_cons_succ, i64_w, i32_w]
                          rfl
                        refine pure_ (i := 7) (N := some 42) (v := ?_) (a' := ?_) #[true, false, true, true, true, false, true, true, false, false, false, false, false, false, false, false] rfl rfl (any_of HT_.out (by kernel_rfl)) (fun _ _ _ h => h) (Or.inl ⟨by rfl, ?_⟩) ?_ ?_
                        rotate_left
                        · intro w'
                          go_simp
                          with_reducible rfl
                        rotate_left
                        · simp only [Act.put, List.setIfInBounds_toArray, List.set_cons_zero, List.set_cons_succ, i64_w, i32_w]
                          rfl
                        refine pure_ (i := 8) (N := some 43) (v := ?_) (a' := ?_) #[true, false, true, true, true, false, true, true, true, false, false, false, false, false, false, false] rfl rfl (any_of HT_.out (by kernel_rfl)) (fun _ _ _ h => h) (Or.inl ⟨by rfl, ?_⟩) ?_ ?_
                        rotate_left
                        · intro w'
                          go_simp
                          with_reducible rfl
                        rotate_left
                        · simp only [Act.put, List.setIfInBounds_toArray, List.set_cons_zero, List.set_cons_succ, i64_w, i32_w]
                          rfl
                        refine pure_ (i := 9) (N := some 44) (v := ?_) (a' := ?_) #[true, false, true, true, true, false, true, true, true, true, false, false, false, false, false, false] rfl rfl (any_of HT_.out (by kernel_rfl)) (fun _ _ _ h => h) (Or.inl ⟨by rfl, ?_⟩) ?_ ?_
                        rotate_left
                        · intro w'
                          go_simp
                          with_reducible rfl
                        rotate_left
                        · simp only [Act.put, List.setIfInBounds_toArray, List.set_cons_zero, List.set_cons_succ, i64_w, i32_w]
                          rfl
                        refine take_ (i := 1) (N := some 36) (v := ?_) (a' := ?_) #[true, true, true, true, true, false, true, true, true, true, false, false, false, false, false, false] rfl rfl (take_ofW HT_.out HW_.out (by kernel_rfl)) (fun _ _ _ h => h) (Or.inl ⟨by rfl, ?_⟩) hHeld ?_ ?_
                        rotate_left
                        · rintro w' ⟨s0, s1, s2, s3, s4, s5, s6, s7, s8, s9, s10, s11, s12, s13, s14, s15, s16, s17⟩
                          go_simp
                          with_reducible rfl
                        rotate_left
                        · simp only [Act.put, List.setIfInBounds_toArray, List.set_cons_zero, List.set_cons_succ, i64_w, i32_w]
                          rfl
                        refine take_ (i := 5) (N := some 40) (v := ?_) (a' := ?_) #[true, true, true, true, true, true, true, true, true, true, false, false, false, false, false, false] rfl rfl (take_ofW HT_.out HW_.out (by kernel_rfl)) (fun _ _ _ h => h) (Or.inl ⟨by rfl, ?_⟩) hHeld ?_ ?_
                        rotate_left
                        · rintro w' ⟨s0, s1, s2, s3, s4, s5, s6, s7, s8, s9, s10, s11, s12, s13, s14, s15, s16, s17⟩
                          go_simp
                          with_reducible rfl
                        rotate_left
                        · simp only [Act.put, List.setIfInBounds_toArray, List.set_cons_zero, List.set_cons_succ, i64_w, i32_w]
                          rfl
                        refine take_ (i := 10) (N := some 45) (v := ?_) (a' := ?_) #[true, true, true, true, true, true, true, true, true, true, true, false, false, false, false, false] rfl rfl (take_ofW HT_.out HW_.out (by kernel_rfl)) (fun _ _ _ h => h) (Or.inl ⟨by rfl, ?_⟩) hHeld ?_ ?_
                        rotate_left
                        · rintro w' ⟨s0, s1, s2, s3, s4, s5, s6, s7, s8, s9, s10, s11, s12, s13, s14, s15, s16, s17⟩
                          go_simp
                          with_reducible rfl
                        rotate_left
                        · simp only [Act.put, List.setIfInBounds_toArray, List.set_cons_zero, List.set_cons_succ, i64_w, i32_w]
                          rfl
                        refine pure_ (i := 11) (N := some 46) (v := ?_) (a' := ?_) #[true, true, true, true, true, true, true, true, true, true, true, true, false, false, false, false] rfl rfl (any_of HT_.out (by kernel_rfl)) (fun _ _ _ h => h) (Or.inl ⟨by rfl, ?_⟩) ?_ ?_
                        rotate_left
                        · intro w'
                          go_simp
                          with_reducible rfl
                        rotate_left
                        · simp only [Act.put, List.setIfInBounds_toArray, List.set_cons_zero, List.set_cons_succ, i64_w, i32_w]
                          rfl
                        refine one_ (i := 12) (N := some 47) #[true, true, true, true, true, true, true, true, true, true, true, true, true, false, false, false] rfl rfl (one_of HT_.out (by kernel_rfl)) (by decide) (fun K hK => ?_)
                        refine value_ (w1 := ?_) (v := ?_) (by rfl) rfl ?_ ?_
                        rotate_left 2
                        · go_simp
                          constructor
                          · rfl
                          · rfl
                        refine hK.out _ _ ⟨(blk_cell (blk_alloc BK473.out _) 0).trans rfl, (blk_cell (blk_alloc BK473.out _) 1).trans rfl, (blk_cell (blk_alloc BK473.out _) 2).trans rfl, (blk_cell (blk_alloc BK473.out _) 3).trans rfl, (blk_cell (blk_alloc BK473.out _) 4).trans rfl, (blk_cell (blk_alloc BK473.out _) 5).trans rfl, (blk_cell (blk_alloc BK473.out _) 6).trans rfl, (blk_cell (blk_alloc BK473.out _) 7).trans rfl, (blk_cell (blk_alloc BK473.out _) 8).trans rfl, (blk_cell (blk_alloc BK473.out _) 9).trans rfl, (blk_cell (blk_alloc BK473.out _) 10).trans rfl, (blk_cell (blk_alloc BK473.out _) 11).trans rfl, (blk_cell (blk_alloc BK473.out _) 12).trans rfl, (blk_cell (blk_alloc BK473.out _) 13).trans rfl, (blk_cell (blk_alloc BK473.out _) 14).trans rfl, (blk_cell (blk_alloc BK473.out _) 15).trans rfl, (World.cell?_alloc_lt _ _ _ (World.block_lt_of_cell? _ _ (((HB.out.cell (World.block_lt_of_cell? w _ hw474_0)).trans hw474_0)))).trans (((HB.out.cell (World.block_lt_of_cell? w _ hw474_0)).trans hw474_0)), (World.cell?_alloc_lt _ _ _ (World.block_lt_of_cell? _ _ (((HB.out.cell (World.block_lt_of_cell? w _ hw475_0)).trans hw475_0)))).trans (((HB.out.cell (World.block_lt_of_cell? w _ hw475_0)).trans hw475_0))⟩ (fun hHeld => ?_)
                        clear hK K
                        refine norm_ (a' := ?_) ?_ ?_
                        rotate_left
                        · show Act.put _ (some 47) _ = _
                          simp only [Act.put, List.setIfInBounds_toArray, List.set_cons_zero, List.set_cons_succ, i64_w, i32_w]
                          rfl
                        refine one_ (i := 13) (N := some 48) #[true, true, true, true, true, true, true, true, true, true, true, true, true, true, false, false] rfl rfl (one_of HT_.out (by kernel_rfl)) (by decide) (fun K hK => ?_)
                        refine Kd.R_append_step k41 (w0 := w) w.heap.size (by rfl) (.tmp 36) (.tmp 47) 25 41 (.agg #[(.int .i64 0), (.int .i64 0)]) 16 rfl Try.underlying25 info41 rfl (by decide) (by omega) u474010 x474010_1 (⟨rd l2 x13_1, rd l2 (ji24)⟩ : S41) [.int .i64 (rd l2 x13_1), .int .i64 (rd l2 (ji24))] (fun _ => True) (fun _ => False) rfl rfl ?aP (fun _ hk => hk.elim) ?aF ?aO ?aB ?aS ?aL ?_
                        (case aP => exact k41_mkM _ _ _ (⟨rd l2 x13_1, rd l2 (ji24)⟩ : S41))
                        (case aB => exact (by repeat (first | (with_reducible first | exact HB.out | apply below_alloc | apply pw_below_drewN | apply below_drew1 | refine below_set ?_ GE473.out) | exact HB.out)))
                        (case aF => exact (fun _ _ => trivial))
                        (case aO => exact (by (with_reducible repeat (first | apply Kd.R_alloc | apply Kd.R_drewN | apply Kd.R_drew)); exact HO_474010.out))
                        (case aS => exact (below_size (by repeat (first | (with_reducible first | exact HB.out | apply below_alloc | apply pw_below_drewN | apply below_drew1 | refine below_set ?_ GE473.out) | exact HB.out))))
                        (case aL => have := LMc26.out; omega)
                        intro v477 w29 ho hb hg hat
                        rw [← Ny476.out] at ho
                        have n0_ := Aside0.mk (Kd.R_over' (by (with_reducible repeat (first | apply Kd.R_alloc | apply Kd.R_drewN | apply Kd.R_drew)); exact HO_474003.out) (Kd.R_typed (by (with_reducible repeat (first | apply Kd.R_alloc | apply Kd.R_drewN | apply Kd.R_drew)); exact HO_474010.out)) (by decide) hg)
                        have n1_ := Aside0.mk (Kd.R_over' (by (with_reducible repeat (first | apply Kd.R_alloc | apply Kd.R_drewN | apply Kd.R_drew)); exact HO_474004.out) (Kd.R_typed (by (with_reducible repeat (first | apply Kd.R_alloc | apply Kd.R_drewN | apply Kd.R_drew)); exact HO_474010.out)) (by decide) hg)
                        have n2_ := Aside0.mk (blk_grown (g := gb473) (o := .cells #[.string t451, .string t452, .int .i64 t453, .slice Ao18 t454.length co18, .slice Ao19 t457.length co19, .string t460, .string t461, .string t462, .string t463, .bool a3, u474010, .int .i64 t468, .string t469, .string t470, .string t471, .int .i64 t472] 27 (0, 0)) (by (with_reducible repeat (first | refine blk_drewN ?_ _ | refine blk_drew ?_ | refine blk_alloc ?_ _)); exact BK473.out) hg (Kd.R_ne HO_474010.out BK473.out (by decide)))
                        have n3_ := Aside0.mk (hb)
                        have n4_ := Aside0.mk (ho)
                        clear HO_474003
                        clear HO_474004
                        clear BK473
                        clear HB
                        clear HO_474010
                        have HO_474003 := n0_
                        have HO_474004 := n1_
                        have BK473 := n2_
                        have HB := n3_
                        have HO478 := n4_
                        clear n0_ n1_ n2_ n3_ n4_
                        clear ho hb hg hat
                        obtain ⟨Ao30, co30, eo30⟩ := Kd.R_slice HO478.out
                        (first | subst eo30 | (injection eo30 with f1_ f2_ f3_; have f4_ := f1_.symm; have f5_ := f3_.symm; clear f1_ f2_ f3_; subst f4_; subst f5_))
                        refine hK.out _ _ ⟨(blk_cell BK473.out 0).trans rfl, (blk_cell BK473.out 1).trans rfl, (blk_cell BK473.out 2).trans rfl, (blk_cell BK473.out 3).trans rfl, (blk_cell BK473.out 4).trans rfl, (blk_cell BK473.out 5).trans rfl, (blk_cell BK473.out 6).trans rfl, (blk_cell BK473.out 7).trans rfl, (blk_cell BK473.out 8).trans rfl, (blk_cell BK473.out 9).trans rfl, (blk_cell BK473.out 10).trans rfl, (blk_cell BK473.out 11).trans rfl, (blk_cell BK473.out 12).trans rfl, (blk_cell BK473.out 13).trans rfl, (blk_cell BK473.out 14).trans rfl, (blk_cell BK473.out 15).trans rfl, ((HB.out.cell (World.block_lt_of_cell? w _ hw474_0)).trans hw474_0), ((HB.out.cell (World.block_lt_of_cell? w _ hw475_0)).trans hw475_0)⟩ (fun hHeld => ?_)
                        clear hK K
                        refine norm_ (a' := ?_) ?_ ?_
                        rotate_left
                        · show Act.put _ (some 48) _ = _
                          simp only [Act.put, List.setIfInBounds_toArray, List.set_cons_zero, List.set_cons_succ, i64_w, i32_w]
                          rfl
                        refine pure_ (i := 14) (N := some 49) (v := ?_) (a' := ?_) #[true, true, true, true, true, true, true, true, true, true, true, true, true, true, true, false] rfl rfl (any_of HT_.out (by kernel_rfl)) (fun _ _ _ h => h) (Or.inl ⟨by rfl, ?_⟩) ?_ ?_
                        rotate_left
                        · intro w'
                          go_simp
                          with_reducible rfl
                        rotate_left
                        · simp only [Act.put, List.setIfInBounds_toArray, List.set_cons_zero, List.set_cons_succ, i64_w, i32_w]
                          rfl
                        refine last_ (i := 15) (N := none) #[true, true, true, true, true, true, true, true, true, true, true, true, true, true, true, true] rfl rfl (one_of HT_.out (by kernel_rfl)) (by decide) (fun K hK => ?_)
                        have hs31 : w29.cell? ⟨gb473, 10, none⟩ = some (u474010) := (blk_cell BK473.out 10).trans rfl
                        have hfs31 := blk_frozen BK473.out 10
                        refine skip_ (w1 := ?_) (by rfl) rfl ?_ ?_
                        rotate_left
                        · go_simp
                          rfl
                        refine hK.out _ _ ?_
                        clear hK K
                        refine done_ (done_of HT_.out (by kernel_rfl)) ?_
                        try go_wp2
                        go_roundg k1
                        case measure => have := HK1.out; omega
                        case rel => exact ⟨(true), (wrap64 (x13_1 + 2)), (y476), (.slice Ao30 y476.length co30), (by first | rfl | (simp; done) | (simp [*]; done)), (by first | rfl | (simp; done) | (simp [*]; done)), H', ⟨by have := HK1.out; omega⟩, ⟨by (with_reducible repeat (first | apply Kd.R_alloc | apply Kd.R_drewN | apply Kd.R_drew)); exact Kd.R_mono (Kd.R_far (p := ⟨gb473, 10, none⟩) (Kd.R_types HO_474003.out BK473.out (by decide)) (fun _ hk => hk.2) (.slice Ao30 y476.length co30)) (fun _ hk => by first | exact trivial | simp [hk])⟩, ⟨by (with_reducible repeat (first | apply Kd.R_alloc | apply Kd.R_drewN | apply Kd.R_drew)); exact Kd.R_mono (Kd.R_far (p := ⟨gb473, 10, none⟩) (Kd.R_types HO_474004.out BK473.out (by decide)) (fun _ hk => hk.2) (.slice Ao30 y476.length co30)) (fun _ hk => by first | exact trivial | simp [hk])⟩, ⟨by (with_reducible repeat (first | apply Kd.R_alloc | apply Kd.R_drewN | apply Kd.R_drew)); exact Kd.R_mono (Kd.R_far (p := ⟨gb473, 10, none⟩) (Kd.R_types HO478.out BK473.out (by decide)) (fun _ hk => hk.2) (.slice Ao30 y476.length co30)) (fun _ hk => by first | exact trivial | simp [hk])⟩, ⟨by (with_reducible repeat (first | refine blk_drewN ?_ _ | refine blk_drew ?_ | refine blk_alloc ?_ _)); refine blk_put (cs := #[.string t451, .string t452, .int .i64 t453, .slice Ao18 t454.length co18, .slice Ao19 t457.length co19, .string t460, .string t461, .string t462, .string t463, .bool a3, u474010, .int .i64 t468, .string t469, .string t470, .string t471, .int .i64 t472]) ?_ 10 _ rfl; (with_reducible repeat (first | refine blk_drewN ?_ _ | refine blk_drew ?_ | refine blk_alloc ?_ _)); exact BK473.out⟩, ⟨by repeat (first | (with_reducible first | exact HB.out | apply below_alloc | apply pw_below_drewN | apply below_drew1 | refine below_set ?_ GE473.out) | exact HB.out)⟩⟩
                      · replace c27 := Bool.eq_false_iff.mpr c27
                        subst c27
                        have H1 : (if a1 ≥ (rd l2 x13_1) then (fleuronlaw9_SystemRanges.l0 k1 a1 l2 a3 t449 (decide (a1 ≤ (rd l2 (ji24)))) (wrap64 (x13_1 + 2)) t451 t452 t453 t454 t457 t460 t461 t462 t463 a3 y476 t468 t469 t470 t471 t472) else (fleuronlaw9_SystemRanges.l0 k1 a1 l2 a3 t449 false (wrap64 (x13_1 + 2)) t451 t452 t453 t454 t457 t460 t461 t462 t463 a3 y476 t468 t469 t470 t471 t472)) = some r := by rw [if_neg (show ¬ (false = true) by decide)] at H; exact H
                        clear H
                        have H := H1
                        clear H1
                        by_cases c32 : a1 ≥ (rd l2 x13_1)
                        · as_aux_lemma =>
                          rw [if_pos c32] at H
                          have c32b0 : decide ((rd l2 x13_1) ≤ a1) = true := decide_eq_true c32
                          clear c32
                          have H' := Aside0.mk H
                          clear H
                          try go_wp2
                          have n0_ := Aside0.mk (Kd.R_drew HO_474003.out)
                          have n1_ := Aside0.mk (Kd.R_drew HO_474004.out)
                          have n2_ := Aside0.mk (Kd.R_drew HO_474010.out)
                          have n3_ := Aside0.mk (blk_drew BK473.out)
                          have n4_ := Aside0.mk (below_drew1 HB.out)
                          clear HO_474003
                          clear HO_474004
                          clear HO_474010
                          clear BK473
                          clear HB
                          have HO_474003 := n0_
                          have HO_474004 := n1_
                          have HO_474010 := n2_
                          have BK473 := n3_
                          have HB := n4_
                          clear n0_ n1_ n2_ n3_ n4_
                          have p474 : 0 ≤ (x13_1 : Int) := of_decide_eq_true (by first | (with_reducible assumption) | assumption)
                          have q474 : x13_1 < (l2.length : Int) := of_decide_eq_true (by first | (with_reducible assumption) | assumption)
                          obtain ⟨ad474, e474, hx474_0⟩ := Kd.at_int HR2.out x13_1 p474 q474
                          have hw474_0 := hx474_0
                          cases e474
                          replace hx474_0 := (HB.out.cell (World.block_lt_of_cell? w _ hx474_0)).trans hx474_0
                          replace p474 := eq_true p474
                          replace q474 := eq_true q474
                          have p475 : 0 ≤ ((ji24) : Int) := of_decide_eq_true (by first | (with_reducible assumption) | assumption)
                          have q475 : (ji24) < (l2.length : Int) := of_decide_eq_true (by first | (with_reducible assumption) | assumption)
                          obtain ⟨ad475, e475, hx475_0⟩ := Kd.at_int HR2.out (ji24) p475 q475
                          have hw475_0 := hx475_0
                          obtain rfl : ad474 = ad475 := (by injection e475)
                          replace hx475_0 := (HB.out.cell (World.block_lt_of_cell? w _ hx475_0)).trans hx475_0
                          replace p475 := eq_true p475
                          replace q475 := eq_true q475
                          refine start_ (n := 16) (S := fun w' => w'.cell? ⟨gb473, 0, none⟩ = some (.string t451) ∧ w'.cell? ⟨gb473, 1, none⟩ = some (.string t452) ∧ w'.cell? ⟨gb473, 2, none⟩ = some (.int .i64 t453) ∧ w'.cell? ⟨gb473, 3, none⟩ = some (.slice Ao18 t454.length co18) ∧ w'.cell? ⟨gb473, 4, none⟩ = some (.slice Ao19 t457.length co19) ∧ w'.cell? ⟨gb473, 5, none⟩ = some (.string t460) ∧ w'.cell? ⟨gb473, 6, none⟩ = some (.string t461) ∧ w'.cell? ⟨gb473, 7, none⟩ = some (.string t462) ∧ w'.cell? ⟨gb473, 8, none⟩ = some (.string t463) ∧ w'.cell? ⟨gb473, 9, none⟩ = some (.bool a3) ∧ w'.cell? ⟨gb473, 10, none⟩ = some (u474010) ∧ w'.cell? ⟨gb473, 11, none⟩ = some (.int .i64 t468) ∧ w'.cell? ⟨gb473, 12, none⟩ = some (.string t469) ∧ w'.cell? ⟨gb473, 13, none⟩ = some (.string t470) ∧ w'.cell? ⟨gb473, 14, none⟩ = some (.string t471) ∧ w'.cell? ⟨gb473, 15, none⟩ = some (.int .i64 t472) ∧ w'.cell? (ad474.add (x13_1).toNat) = some (.int .i64 (rd l2 x13_1)) ∧ w'.cell? (ad474.add ((ji24)).toNat) = some (.int .i64 (rd l2 (ji24)))) (ds := [15]) #[false, false, false, false, false, false, false, false, false, false, false, false, false, false, false, false] (by kernel_rfl) rfl rfl ⟨(blk_cell BK473.out 0).trans rfl, (blk_cell BK473.out 1).trans rfl, (blk_cell BK473.out 2).trans rfl, (blk_cell BK473.out 3).trans rfl, (blk_cell BK473.out 4).trans rfl, (blk_cell BK473.out 5).trans rfl, (blk_cell BK473.out 6).trans rfl, (blk_cell BK473.out 7).trans rfl, (blk_cell BK473.out 8).trans rfl, (blk_cell BK473.out 9).trans rfl, (blk_cell BK473.out 10).trans rfl, (blk_cell BK473.out 11).trans rfl, (blk_cell BK473.out 12).trans rfl, (blk_cell BK473.out 13).trans rfl, (blk_cell BK473.out 14).trans rfl, (blk_cell BK473.out 15).trans rfl, ((HB.out.cell (World.block_lt_of_cell? w _ hw474_0)).trans hw474_0), ((HB.out.cell (World.block_lt_of_cell? w _ hw475_0)).trans hw475_0)⟩ (fun hHeld => ?_); refine with_tabW fleuronlaw9_SystemRanges.tab11 fleuronlaw9_SystemRanges.bits11 (fun HT_ HW_ => ?_)
                          generalize wr.drew = w33 at HO_474003 HO_474004 HO_474010 BK473 HB hx474_0 hx475_0 hHeld ⊢
                          refine pure_ (i := 0) (N := some 35) (v := ?_) (a' := ?_) #[true, false, false, false, false, false, false, false, false, false, false, false, false, false, false, false] rfl rfl (any_of HT_.out (by kernel_rfl)) (fun _ _ _ h => h) (Or.inl ⟨by rfl, ?_⟩) ?_ ?_
                          rotate_left
                          · intro w'
                            go_simp
                            with_reducible rfl
                          rotate_left
                          · simp only [Act.put, List.setIfInBounds_toArray, List.set_cons_zero, List.set_cons_succ, i64_w, i32_w]
                            rfl
                          refine pure_ (i := 2) (N := some 37) (v := ?_) (a' := ?_) #[true, false, true, false, false, false, false, false, false, false, false, false, false, false, false, false] rfl rfl (any_of HT_.out (by kernel_rfl)) (fun _ _ _ h => h) (Or.inl ⟨by rfl, ?_⟩) ?_ ?_
                          rotate_left
                          · intro w'
                            go_simp
                            with_reducible rfl
                          rotate_left
                          · simp only [Act.put, List.setIfInBounds_toArray, List.set_cons_zero, List.set_cons_succ, i64_w, i32_w]
                            rfl
                          refine pure_ (i := 3) (N := some 38) (v := ?_) (a' := ?_) #[true, false, true, true, false, false, false, false, false, false, false, false, false, false, false, false] rfl rfl (any_of HT_.out (by kernel_rfl)) (fun _ _ _ h => h) (Or.inl ⟨by rfl, ?_⟩) ?_ ?_
                          rotate_left
                          · intro w'
                            go_simp
                            with_reducible rfl
                          rotate_left
                          · simp only [Act.put, List.setIfInBounds_toArray, List.set_cons_zero, List.set_cons_succ, i64_w, i32_w]
                            rfl
                          refine pure_ (i := 4) (N := some 39) (v := ?_) (a' := ?_) #[true, false, true, true, true, false, false, false, false, false, false, false, false, false, false, false] rfl rfl (any_of HT_.out (by kernel_rfl)) (fun _ _ _ h => h) (Or.inl ⟨by rfl, ?_⟩) ?_ ?_
                          rotate_left
                          · intro w'
                            go_simp
                            with_reducible rfl
                          rotate_left
                          · simp only [Act.put, List.setIfInBounds_toArray, List.set_cons_zero, List.set_cons_succ, i64_w, i32_w]
                            rfl
                          refine pure_ (i := 6) (N := some 41) (v := ?_) (a' := ?_) #[true, false, true, true, true, false, true, false, false, false, false, false, false, false, false, false] rfl rfl (any_of HT_.out (by kernel_rfl)) (fun _ _ _ h => h) (Or.inl ⟨by rfl, ?_⟩) ?_ ?_
                          rotate_left
                          · intro w'
                            go_simp
                            with_reducible rfl
                          rotate_left
                          · simp only [Act.put, List.setIfInBounds_toArray, List.set_cons_zero, List.set_cons_succ, i64_w, i32_w]
                            rfl
                          refine pure_ (i := 7) (N := some 42) (v := ?_) (a' := ?_) #[true, false, true, true, true, false, true, true, false, false, false, false, false, false, false, false] rfl rfl (any_of HT_.out (by kernel_rfl)) (fun _ _ _ h => h) (Or.inl ⟨by rfl, ?_⟩) ?_ ?_
                          rotate_left
                          · intro w'
                            go_simp
                            with_reducible rfl
                          rotate_left
                          · simp only [Act.put, List.setIfInBounds_toArray, List.set_cons_zero, List.set_cons_succ, i64_w, i32_w]
                            rfl
                          refine pure_ (i := 8) (N := some 43) (v := ?_) (a' := ?_) #[true, false, true, true, true, false, true, true, true, false, false, false, false, false, false, false] rfl rfl (any_of HT_.out (by kernel_rfl)) (fun _ _ _ h => h) (Or.inl ⟨by rfl, ?_⟩) ?_ ?_
                          rotate_left
                          · intro w'
                            go_simp
                            with_reducible rfl
                          rotate_left
                          · simp only [Act.put, List.setIfInBounds_toArray, List.set_cons_zero, List.set_cons_succ, i64_w, i32_w]
                            rfl
                          refine pure_ (i := 9) (N := some 44) (v := ?_) (a' := ?_) #[true, false, true, true, true, false, true, true, true, true, false, false, false, false, false, false] rfl rfl (any_of HT_.out (by kernel_rfl)) (fun _ _ _ h => h) (Or.inl ⟨by rfl, ?_⟩) ?_ ?_
                          rotate_left
                          · intro w'
                            go_simp
                            with_reducible rfl
                          rotate_left
                          · simp only [Act.put, List.setIfInBounds_toArray, List.set_cons_zero, List.set_cons_succ, i64_w, i32_w]
                            rfl
                          refine take_ (i := 1) (N := some 36) (v := ?_) (a' := ?_) #[true, true, true, true, true, false, true, true, true, true, false, false, false, false, false, false] rfl rfl (take_ofW HT_.out HW_.out (by kernel_rfl)) (fun _ _ _ h => h) (Or.inl ⟨by rfl, ?_⟩) hHeld ?_ ?_
                          rotate_left
                          · rintro w' ⟨s0, s1, s2, s3, s4, s5, s6, s7, s8, s9, s10, s11, s12, s13, s14, s15, s16, s17⟩
                            go_simp
                            with_reducible rfl
                          rotate_left
                          · simp only [Act.put, List.setIfInBounds_toArray, List.set_cons_zero, List.set_cons_succ, i64_w, i32_w]
                            rfl
                          refine take_ (i := 5) (N := some 40) (v := ?_) (a' := ?_) #[true, true, true, true, true, true, true, true, true, true, false, false, false, false, false, false] rfl rfl (take_ofW HT_.out HW_.out (by kernel_rfl)) (fun _ _ _ h => h) (Or.inl ⟨by rfl, ?_⟩) hHeld ?_ ?_
                          rotate_left
                          · rintro w' ⟨s0, s1, s2, s3, s4, s5, s6, s7, s8, s9, s10, s11, s12, s13, s14, s15, s16, s17⟩
                            go_simp
                            with_reducible rfl
                          rotate_left
                          · simp only [Act.put, List.setIfInBounds_toArray, List.set_cons_zero, List.set_cons_succ, i64_w, i32_w]
                            rfl
                          refine take_ (i := 10) (N := some 45) (v := ?_) (a' := ?_) #[true, true, true, true, true, true, true, true, true, true, true, false, false, false, false, false] rfl rfl (take_ofW HT_.out HW_.out (by kernel_rfl)) (fun _ _ _ h => h) (Or.inl ⟨by rfl, ?_⟩) hHeld ?_ ?_
                          rotate_left
                          · rintro w' ⟨s0, s1, s2, s3, s4, s5, s6, s7, s8, s9, s10, s11, s12, s13, s14, s15, s16, s17⟩
                            go_simp
                            with_reducible rfl
                          rotate_left
                          · simp only [Act.put, List.setIfInBounds_toArray, List.set_cons_zero, List.set_cons_succ, i64_w, i32_w]
                            rfl
                          refine pure_ (i := 11) (N := some 46) (v := ?_) (a' := ?_) #[true, true, true, true, true, true, true, true, true, true, true, true, false, false, false, false] rfl rfl (any_of HT_.out (by kernel_rfl)) (fun _ _ _ h => h) (Or.inl ⟨by rfl, ?_⟩) ?_ ?_
                          rotate_left
                          · intro w'
                            go_simp
                            with_reducible rfl
                          rotate_left
                          · simp only [Act.put, List.setIfInBounds_toArray, List.set_cons_zero, List.set_cons_succ, i64_w, i32_w]
                            rfl
                          refine one_ (i := 12) (N := some 47) #[true, true, true, true, true, true, true, true, true, true, true, true, true, false, false, false] rfl rfl (one_of HT_.out (by kernel_rfl)) (by decide) (fun K hK => ?_)
                          refine value_ (w1 := ?_) (v := ?_) (by rfl) rfl ?_ ?_
                          rotate_left 2
                          · go_simp
                            constructor
                            · rfl
                            · rfl
                          refine hK.out _ _ ⟨(blk_cell (blk_alloc BK473.out _) 0).trans rfl, (blk_cell (blk_alloc BK473.out _) 1).trans rfl, (blk_cell (blk_alloc BK473.out _) 2).trans rfl, (blk_cell (blk_alloc BK473.out _) 3).trans rfl, (blk_cell (blk_alloc BK473.out _) 4).trans rfl, (blk_cell (blk_alloc BK473.out _) 5).trans rfl, (blk_cell (blk_alloc BK473.out _) 6).trans rfl, (blk_cell (blk_alloc BK473.out _) 7).trans rfl, (blk_cell (blk_alloc BK473.out _) 8).trans rfl, (blk_cell (blk_alloc BK473.out _) 9).trans rfl, (blk_cell (blk_alloc BK473.out _) 10).trans rfl, (blk_cell (blk_alloc BK473.out _) 11).trans rfl, (blk_cell (blk_alloc BK473.out _) 12).trans rfl, (blk_cell (blk_alloc BK473.out _) 13).trans rfl, (blk_cell (blk_alloc BK473.out _) 14).trans rfl, (blk_cell (blk_alloc BK473.out _) 15).trans rfl, (World.cell?_alloc_lt _ _ _ (World.block_lt_of_cell? _ _ (((HB.out.cell (World.block_lt_of_cell? w _ hw474_0)).trans hw474_0)))).trans (((HB.out.cell (World.block_lt_of_cell? w _ hw474_0)).trans hw474_0)), (World.cell?_alloc_lt _ _ _ (World.block_lt_of_cell? _ _ (((HB.out.cell (World.block_lt_of_cell? w _ hw475_0)).trans hw475_0)))).trans (((HB.out.cell (World.block_lt_of_cell? w _ hw475_0)).trans hw475_0))⟩ (fun hHeld => ?_)
                          clear hK K
                          refine norm_ (a' := ?_) ?_ ?_
                          rotate_left
                          · show Act.put _ (some 47) _ = _
                            simp only [Act.put, List.setIfInBounds_toArray, List.set_cons_zero, List.set_cons_succ, i64_w, i32_w]
                            rfl
                          refine one_ (i := 13) (N := some 48) #[true, true, true, true, true, true, true, true, true, true, true, true, true, true, false, false] rfl rfl (one_of HT_.out (by kernel_rfl)) (by decide) (fun K hK => ?_)
                          refine Kd.R_append_step k41 (w0 := w) w.heap.size (by rfl) (.tmp 36) (.tmp 47) 25 41 (.agg #[(.int .i64 0), (.int .i64 0)]) 16 rfl Try.underlying25 info41 rfl (by decide) (by omega) u474010 x474010_1 (⟨rd l2 x13_1, rd l2 (ji24)⟩ : S41) [.int .i64 (rd l2 x13_1), .int .i64 (rd l2 (ji24))] (fun _ => True) (fun _ => False) rfl rfl ?aP (fun _ hk => hk.elim) ?aF ?aO ?aB ?aS ?aL ?_
                          (case aP => exact k41_mkM _ _ _ (⟨rd l2 x13_1, rd l2 (ji24)⟩ : S41))
                          (case aB => exact (by repeat (first | (with_reducible first | exact HB.out | apply below_alloc | apply pw_below_drewN | apply below_drew1 | refine below_set ?_ GE473.out) | exact HB.out)))
                          (case aF => exact (fun _ _ => trivial))
                          (case aO => exact (by (with_reducible repeat (first | apply Kd.R_alloc | apply Kd.R_drewN | apply Kd.R_drew)); exact HO_474010.out))
                          (case aS => exact (below_size (by repeat (first | (with_reducible first | exact HB.out | apply below_alloc | apply pw_below_drewN | apply below_drew1 | refine below_set ?_ GE473.out) | exact HB.out))))
                          (case aL => have := LMc26.out; omega)
                          intro v477 w34 ho hb hg hat
                          rw [← Ny476.out] at ho
                          have n0_ := Aside0.mk (Kd.R_over' (by (with_reducible repeat (first | apply Kd.R_alloc | apply Kd.R_drewN | apply Kd.R_drew)); exact HO_474003.out) (Kd.R_typed (by (with_reducible repeat (first | apply Kd.R_alloc | apply Kd.R_drewN | apply Kd.R_drew)); exact HO_474010.out)) (by decide) hg)
                          have n1_ := Aside0.mk (Kd.R_over' (by (with_reducible repeat (first | apply Kd.R_alloc | apply Kd.R_drewN | apply Kd.R_drew)); exact HO_474004.out) (Kd.R_typed (by (with_reducible repeat (first | apply Kd.R_alloc | apply Kd.R_drewN | apply Kd.R_drew)); exact HO_474010.out)) (by decide) hg)
                          have n2_ := Aside0.mk (blk_grown (g := gb473) (o := .cells #[.string t451, .string t452, .int .i64 t453, .slice Ao18 t454.length co18, .slice Ao19 t457.length co19, .string t460, .string t461, .string t462, .string t463, .bool a3, u474010, .int .i64 t468, .string t469, .string t470, .string t471, .int .i64 t472] 27 (0, 0)) (by (with_reducible repeat (first | refine blk_drewN ?_ _ | refine blk_drew ?_ | refine blk_alloc ?_ _)); exact BK473.out) hg (Kd.R_ne HO_474010.out BK473.out (by decide)))
                          have n3_ := Aside0.mk (hb)
                          have n4_ := Aside0.mk (ho)
                          clear HO_474003
                          clear HO_474004
                          clear BK473
                          clear HB
                          clear HO_474010
                          have HO_474003 := n0_
                          have HO_474004 := n1_
                          have BK473 := n2_
                          have HB := n3_
                          have HO478 := n4_
                          clear n0_ n1_ n2_ n3_ n4_
                          clear ho hb hg hat
                          obtain ⟨Ao35, co35, eo35⟩ := Kd.R_slice HO478.out
                          (first | subst eo35 | (injection eo35 with f1_ f2_ f3_; have f4_ := f1_.symm; have f5_ := f3_.symm; clear f1_ f2_ f3_; subst f4_; subst f5_))
                          refine hK.out _ _ ⟨(blk_cell BK473.out 0).trans rfl, (blk_cell BK473.out 1).trans rfl, (blk_cell BK473.out 2).trans rfl, (blk_cell BK473.out 3).trans rfl, (blk_cell BK473.out 4).trans rfl, (blk_cell BK473.out 5).trans rfl, (blk_cell BK473.out 6).trans rfl, (blk_cell BK473.out 7).trans rfl, (blk_cell BK473.out 8).trans rfl, (blk_cell BK473.out 9).trans rfl, (blk_cell BK473.out 10).trans rfl, (blk_cell BK473.out 11).trans rfl, (blk_cell BK473.out 12).trans rfl, (blk_cell BK473.out 13).trans rfl, (blk_cell BK473.out 14).trans rfl, (blk_cell BK473.out 15).trans rfl, ((HB.out.cell (World.block_lt_of_cell? w _ hw474_0)).trans hw474_0), ((HB.out.cell (World.block_lt_of_cell? w _ hw475_0)).trans hw475_0)⟩ (fun hHeld => ?_)
                          clear hK K
                          refine norm_ (a' := ?_) ?_ ?_
                          rotate_left
                          · show Act.put _ (some 48) _ = _
                            simp only [Act.put, List.setIfInBounds_toArray, List.set_cons_zero, List.set_cons_succ, i64_w, i32_w]
                            rfl
                          refine pure_ (i := 14) (N := some 49) (v := ?_) (a' := ?_) #[true, true, true, true, true, true, true, true, true, true, true, true, true, true, true, false] rfl rfl (any_of HT_.out (by kernel_rfl)) (fun _ _ _ h => h) (Or.inl ⟨by rfl, ?_⟩) ?_ ?_
                          rotate_left
                          · intro w'
                            go_simp
                            with_reducible rfl
                          rotate_left
                          · simp only [Act.put, List.setIfInBounds_toArray, List.set_cons_zero, List.set_cons_succ, i64_w, i32_w]
                            rfl
                          refine last_ (i := 15) (N := none) #[true, true, true, true, true, true, true, true, true, true, true, true, true, true, true, true] rfl rfl (one_of HT_.out (by kernel_rfl)) (by decide) (fun K hK => ?_)
                          have hs36 : w34.cell? ⟨gb473, 10, none⟩ = some (u474010) := (blk_cell BK473.out 10).trans rfl
                          have hfs36 := blk_frozen BK473.out 10
                          refine skip_ (w1 := ?_) (by rfl) rfl ?_ ?_
                          rotate_left
                          · go_simp
                            rfl
                          refine hK.out _ _ ?_
                          clear hK K
                          refine done_ (done_of HT_.out (by kernel_rfl)) ?_
                          have p479 : 0 ≤ (x13_1 : Int) := of_decide_eq_true (by first | (with_reducible assumption) | assumption)
                          have q479 : x13_1 < (l2.length : Int) := of_decide_eq_true (by first | (with_reducible assumption) | assumption)
                          obtain ⟨ad479, e479, hx479_0⟩ := Kd.at_int HR2.out x13_1 p479 q479
                          obtain rfl : ad474 = ad479 := (by injection e479)
                          have hn479_0 : ad474.block ≠ gb473 := Nat.ne_of_lt (Nat.lt_of_lt_of_le (by have := World.block_lt_of_cell? _ _ hx479_0; first | rwa [add_block] at this | exact this) GW473.out)
                          replace hx479_0 := (HB.out.cell (World.block_lt_of_cell? w _ hx479_0)).trans hx479_0
                          replace hx479_0 := (cell_far (p := ⟨gb473, 10, none⟩) (by first | (rw [add_block]; exact hn479_0) | (show (Addr.add _ _).block ≠ _; rw [add_block]; exact hn479_0) | exact hn479_0) (.slice Ao35 y476.length co35)).trans hx479_0
                          clear hn479_0
                          replace p479 := eq_true p479
                          replace q479 := eq_true q479
                          have p480 : 0 ≤ ((ji24) : Int) := of_decide_eq_true (by first | (with_reducible assumption) | assumption)
                          have q480 : (ji24) < (l2.length : Int) := of_decide_eq_true (by first | (with_reducible assumption) | assumption)
                          obtain ⟨ad480, e480, hx480_0⟩ := Kd.at_int HR2.out (ji24) p480 q480
                          obtain rfl : ad474 = ad480 := (by injection e480)
                          have hn480_0 : ad474.block ≠ gb473 := Nat.ne_of_lt (Nat.lt_of_lt_of_le (by have := World.block_lt_of_cell? _ _ hx480_0; first | rwa [add_block] at this | exact this) GW473.out)
                          replace hx480_0 := (HB.out.cell (World.block_lt_of_cell? w _ hx480_0)).trans hx480_0
                          replace hx480_0 := (cell_far (p := ⟨gb473, 10, none⟩) (by first | (rw [add_block]; exact hn480_0) | (show (Addr.add _ _).block ≠ _; rw [add_block]; exact hn480_0) | exact hn480_0) (.slice Ao35 y476.length co35)).trans hx480_0
                          clear hn480_0
                          replace p480 := eq_true p480
                          replace q480 := eq_true q480
                          try go_wp2
                          go_roundg k1
                          case measure => have := HK1.out; omega
                          case rel => exact ⟨(decide (a1 ≤ (rd l2 (ji24)))), (wrap64 (x13_1 + 2)), (y476), (.slice Ao35 y476.length co35), (by first | rfl | (simp; done) | (simp only [← hji24] <;> (first | rfl | simp)) | (simp [*]; done)), (by first | rfl | (simp; done) | (simp [*]; done)), H', ⟨by have := HK1.out; omega⟩, ⟨by (with_reducible repeat (first | apply Kd.R_alloc | apply Kd.R_drewN | apply Kd.R_drew)); exact Kd.R_mono (Kd.R_far (p := ⟨gb473, 10, none⟩) (Kd.R_types HO_474003.out BK473.out (by decide)) (fun _ hk => hk.2) (.slice Ao35 y476.length co35)) (fun _ hk => by first | exact trivial | simp [hk])⟩, ⟨by (with_reducible repeat (first | apply Kd.R_alloc | apply Kd.R_drewN | apply Kd.R_drew)); exact Kd.R_mono (Kd.R_far (p := ⟨gb473, 10, none⟩) (Kd.R_types HO_474004.out BK473.out (by decide)) (fun _ hk => hk.2) (.slice Ao35 y476.length co35)) (fun _ hk => by first | exact trivial | simp [hk])⟩, ⟨by (with_reducible repeat (first | apply Kd.R_alloc | apply Kd.R_drewN | apply Kd.R_drew)); exact Kd.R_mono (Kd.R_far (p := ⟨gb473, 10, none⟩) (Kd.R_types HO478.out BK473.out (by decide)) (fun _ hk => hk.2) (.slice Ao35 y476.length co35)) (fun _ hk => by first | exact trivial | simp [hk])⟩, ⟨by (with_reducible repeat (first | refine blk_drewN ?_ _ | refine blk_drew ?_ | refine blk_alloc ?_ _)); refine blk_put (cs := #[.string t451, .string t452, .int .i64 t453, .slice Ao18 t454.length co18, .slice Ao19 t457.length co19, .string t460, .string t461, .string t462, .string t463, .bool a3, u474010, .int .i64 t468, .string t469, .string t470, .string t471, .int .i64 t472]) ?_ 10 _ rfl; (with_reducible repeat (first | refine blk_drewN ?_ _ | refine blk_drew ?_ | refine blk_alloc ?_ _)); exact BK473.out⟩, ⟨by repeat (first | (with_reducible first | exact HB.out | apply below_alloc | apply pw_below_drewN | apply below_drew1 | refine below_set ?_ GE473.out) | exact HB.out)⟩⟩
                        · as_aux_lemma =>
                          rw [if_neg c32] at H
                          have c32b0 : decide ((rd l2 x13_1) ≤ a1) = false := decide_eq_false c32
                          clear c32
                          have H' := Aside0.mk H
                          clear H
                          try go_wp2
                          have n0_ := Aside0.mk (Kd.R_drew HO_474003.out)
                          have n1_ := Aside0.mk (Kd.R_drew HO_474004.out)
                          have n2_ := Aside0.mk (Kd.R_drew HO_474010.out)
                          have n3_ := Aside0.mk (blk_drew BK473.out)
                          have n4_ := Aside0.mk (below_drew1 HB.out)
                          clear HO_474003
                          clear HO_474004
                          clear HO_474010
                          clear BK473
                          clear HB
                          have HO_474003 := n0_
                          have HO_474004 := n1_
                          have HO_474010 := n2_
                          have BK473 := n3_
                          have HB := n4_
                          clear n0_ n1_ n2_ n3_ n4_
                          have p474 : 0 ≤ (x13_1 : Int) := of_decide_eq_true (by first | (with_reducible assumption) | assumption)
                          have q474 : x13_1 < (l2.length : Int) := of_decide_eq_true (by first | (with_reducible assumption) | assumption)
                          obtain ⟨ad474, e474, hx474_0⟩ := Kd.at_int HR2.out x13_1 p474 q474
                          have hw474_0 := hx474_0
                          cases e474
                          replace hx474_0 := (HB.out.cell (World.block_lt_of_cell? w _ hx474_0)).trans hx474_0
                          replace p474 := eq_true p474
                          replace q474 := eq_true q474
                          have p475 : 0 ≤ ((ji24) : Int) := of_decide_eq_true (by first | (with_reducible assumption) | assumption)
                          have q475 : (ji24) < (l2.length : Int) := of_decide_eq_true (by first | (with_reducible assumption) | assumption)
                          obtain ⟨ad475, e475, hx475_0⟩ := Kd.at_int HR2.out (ji24) p475 q475
                          have hw475_0 := hx475_0
                          obtain rfl : ad474 = ad475 := (by injection e475)
                          replace hx475_0 := (HB.out.cell (World.block_lt_of_cell? w _ hx475_0)).trans hx475_0
                          replace p475 := eq_true p475
                          replace q475 := eq_true q475
                          refine start_ (n := 16) (S := fun w' => w'.cell? ⟨gb473, 0, none⟩ = some (.string t451) ∧ w'.cell? ⟨gb473, 1, none⟩ = some (.string t452) ∧ w'.cell? ⟨gb473, 2, none⟩ = some (.int .i64 t453) ∧ w'.cell? ⟨gb473, 3, none⟩ = some (.slice Ao18 t454.length co18) ∧ w'.cell? ⟨gb473, 4, none⟩ = some (.slice Ao19 t457.length co19) ∧ w'.cell? ⟨gb473, 5, none⟩ = some (.string t460) ∧ w'.cell? ⟨gb473, 6, none⟩ = some (.string t461) ∧ w'.cell? ⟨gb473, 7, none⟩ = some (.string t462) ∧ w'.cell? ⟨gb473, 8, none⟩ = some (.string t463) ∧ w'.cell? ⟨gb473, 9, none⟩ = some (.bool a3) ∧ w'.cell? ⟨gb473, 10, none⟩ = some (u474010) ∧ w'.cell? ⟨gb473, 11, none⟩ = some (.int .i64 t468) ∧ w'.cell? ⟨gb473, 12, none⟩ = some (.string t469) ∧ w'.cell? ⟨gb473, 13, none⟩ = some (.string t470) ∧ w'.cell? ⟨gb473, 14, none⟩ = some (.string t471) ∧ w'.cell? ⟨gb473, 15, none⟩ = some (.int .i64 t472) ∧ w'.cell? (ad474.add (x13_1).toNat) = some (.int .i64 (rd l2 x13_1)) ∧ w'.cell? (ad474.add ((ji24)).toNat) = some (.int .i64 (rd l2 (ji24)))) (ds := [15]) #[false, false, false, false, false, false, false, false, false, false, false, false, false, false, false, false] (by kernel_rfl) rfl rfl ⟨(blk_cell BK473.out 0).trans rfl, (blk_cell BK473.out 1).trans rfl, (blk_cell BK473.out 2).trans rfl, (blk_cell BK473.out 3).trans rfl, (blk_cell BK473.out 4).trans rfl, (blk_cell BK473.out 5).trans rfl, (blk_cell BK473.out 6).trans rfl, (blk_cell BK473.out 7).trans rfl, (blk_cell BK473.out 8).trans rfl, (blk_cell BK473.out 9).trans rfl, (blk_cell BK473.out 10).trans rfl, (blk_cell BK473.out 11).trans rfl, (blk_cell BK473.out 12).trans rfl, (blk_cell BK473.out 13).trans rfl, (blk_cell BK473.out 14).trans rfl, (blk_cell BK473.out 15).trans rfl, ((HB.out.cell (World.block_lt_of_cell? w _ hw474_0)).trans hw474_0), ((HB.out.cell (World.block_lt_of_cell? w _ hw475_0)).trans hw475_0)⟩ (fun hHeld => ?_); refine with_tabW fleuronlaw9_SystemRanges.tab11 fleuronlaw9_SystemRanges.bits11 (fun HT_ HW_ => ?_)
                          generalize wr.drew = w37 at HO_474003 HO_474004 HO_474010 BK473 HB hx474_0 hx475_0 hHeld ⊢
                          refine pure_ (i := 0) (N := some 35) (v := ?_) (a' := ?_) #[true, false, false, false, false, false, false, false, false, false, false, false, false, false, false, false] rfl rfl (any_of HT_.out (by kernel_rfl)) (fun _ _ _ h => h) (Or.inl ⟨by rfl, ?_⟩) ?_ ?_
                          rotate_left
                          · intro w'
                            go_simp
                            with_reducible rfl
                          rotate_left
                          · simp only [Act.put, List.setIfInBounds_toArray, List.set_cons_zero, List.set_cons_succ, i64_w, i32_w]
                            rfl
                          refine pure_ (i := 2) (N := some 37) (v := ?_) (a' := ?_) #[true, false, true, false, false, false, false, false, false, false, false, false, false, false, false, false] rfl rfl (any_of HT_.out (by kernel_rfl)) (fun _ _ _ h => h) (Or.inl ⟨by rfl, ?_⟩) ?_ ?_
                          rotate_left
                          · intro w'
                            go_simp
                            with_reducible rfl
                          rotate_left
                          · simp only [Act.put, List.setIfInBounds_toArray, List.set_cons_zero, List.set_cons_succ, i64_w, i32_w]
                            rfl
                          refine pure_ (i := 3) (N := some 38) (v := ?_) (a' := ?_) #[true, false, true, true, false, false, false, false, false, false, false, false, false, false, false, false] rfl rfl (any_of HT_.out (by kernel_rfl)) (fun _ _ _ h => h) (Or.inl ⟨by rfl, ?_⟩) ?_ ?_
                          rotate_left
                          · intro w'
                            go_simp
                            with_reducible rfl
                          rotate_left
                          · simp only [Act.put, List.setIfInBounds_toArray, List.set_cons_zero, List.set_cons_succ, i64_w, i32_w]
                            rfl
                          refine pure_ (i := 4) (N := some 39) (v := ?_) (a' := ?_) #[true, false, true, true, true, false, false, false, false, false, false, false, false, false, false, false] rfl rfl (any_of HT_.out (by kernel_rfl)) (fun _ _ _ h => h) (Or.inl ⟨by rfl, ?_⟩) ?_ ?_
                          rotate_left
                          · intro w'
                            go_simp
                            with_reducible rfl
                          rotate_left
                          · simp only [Act.put, List.setIfInBounds_toArray, List.set_cons_zero, List.set_cons_succ, i64_w, i32_w]
                            rfl
                          refine pure_ (i := 6) (N := some 41) (v := ?_) (a' := ?_) #[true, false, true, true, true, false, true, false, false, false, false, false, false, false, false, false] rfl rfl (any_of HT_.out (by kernel_rfl)) (fun _ _ _ h => h) (Or.inl ⟨by rfl, ?_⟩) ?_ ?_
                          rotate_left
                          · intro w'
                            go_simp
                            with_reducible rfl
                          rotate_left
                          · simp only [Act.put, List.setIfInBounds_toArray, List.set_cons_zero, List.set_cons_succ, i64_w, i32_w]
                            rfl
                          refine pure_ (i := 7) (N := some 42) (v := ?_) (a' := ?_) #[true, false, true, true, true, false, true, true, false, false, false, false, false, false, false, false] rfl rfl (any_of HT_.out (by kernel_rfl)) (fun _ _ _ h => h) (Or.inl ⟨by rfl, ?_⟩) ?_ ?_
                          rotate_left
                          · intro w'
                            go_simp
                            with_reducible rfl
                          rotate_left
                          · simp only [Act.put, List.setIfInBounds_toArray, List.set_cons_zero, List.set_cons_succ, i64_w, i32_w]
                            rfl
                          refine pure_ (i := 8) (N := some 43) (v := ?_) (a' := ?_) #[true, false, true, true, true, false, true, true, true, false, false, false, false, false, false, false] rfl rfl (any_of HT_.out (by kernel_rfl)) (fun _ _ _ h => h) (Or.inl ⟨by rfl, ?_⟩) ?_ ?_
                          rotate_left
                          · intro w'
                            go_simp
                            with_reducible rfl
                          rotate_left
                          · simp only [Act.put, List.setIfInBounds_toArray, List.set_cons_zero, List.set_cons_succ, i64_w, i32_w]
                            rfl
                          refine pure_ (i := 9) (N := some 44) (v := ?_) (a' := ?_) #[true, false, true, true, true, false, true, true, true, true, false, false, false, false, false, false] rfl rfl (any_of HT_.out (by kernel_rfl)) (fun _ _ _ h => h) (Or.inl ⟨by rfl, ?_⟩) ?_ ?_
                          rotate_left
                          · intro w'
                            go_simp
                            with_reducible rfl
                          rotate_left
                          · simp only [Act.put, List.setIfInBounds_toArray, List.set_cons_zero, List.set_cons_succ, i64_w, i32_w]
                            rfl
                          refine take_ (i := 1) (N := some 36) (v := ?_) (a' := ?_) #[true, true, true, true, true, false, true, true, true, true, false, false, false, false, false, false] rfl rfl (take_ofW HT_.out HW_.out (by kernel_rfl)) (fun _ _ _ h => h) (Or.inl ⟨by rfl, ?_⟩) hHeld ?_ ?_
                          rotate_left
                          · rintro w' ⟨s0, s1, s2, s3, s4, s5, s6, s7, s8, s9, s10, s11, s12, s13, s14, s15, s16, s17⟩
                            go_simp
                            with_reducible rfl
                          rotate_left
                          · simp only [Act.put, List.setIfInBounds_toArray, List.set_cons_zero, List.set_cons_succ, i64_w, i32_w]
                            rfl
                          refine take_ (i := 5) (N := some 40) (v := ?_) (a' := ?_) #[true, true, true, true, true, true, true, true, true, true, false, false, false, false, false, false] rfl rfl (take_ofW HT_.out HW_.out (by kernel_rfl)) (fun _ _ _ h => h) (Or.inl ⟨by rfl, ?_⟩) hHeld ?_ ?_
                          rotate_left
                          · rintro w' ⟨s0, s1, s2, s3, s4, s5, s6, s7, s8, s9, s10, s11, s12, s13, s14, s15, s16, s17⟩
                            go_simp
                            with_reducible rfl
                          rotate_left
                          · simp only [Act.put, List.setIfInBounds_toArray, List.set_cons_zero, List.set_cons_succ, i64_w, i32_w]
                            rfl
                          refine take_ (i := 10) (N := some 45) (v := ?_) (a' := ?_) #[true, true, true, true, true, true, true, true, true, true, true, false, false, false, false, false] rfl rfl (take_ofW HT_.out HW_.out (by kernel_rfl)) (fun _ _ _ h => h) (Or.inl ⟨by rfl, ?_⟩) hHeld ?_ ?_
                          rotate_left
                          · rintro w' ⟨s0, s1, s2, s3, s4, s5, s6, s7, s8, s9, s10, s11, s12, s13, s14, s15, s16, s17⟩
                            go_simp
                            with_reducible rfl
                          rotate_left
                          · simp only [Act.put, List.setIfInBounds_toArray, List.set_cons_zero, List.set_cons_succ, i64_w, i32_w]
                            rfl
                          refine pure_ (i := 11) (N := some 46) (v := ?_) (a' := ?_) #[true, true, true, true, true, true, true, true, true, true, true, true, false, false, false, false] rfl rfl (any_of HT_.out (by kernel_rfl)) (fun _ _ _ h => h) (Or.inl ⟨by rfl, ?_⟩) ?_ ?_
                          rotate_left
                          · intro w'
                            go_simp
                            with_reducible rfl
                          rotate_left
                          · simp only [Act.put, List.setIfInBounds_toArray, List.set_cons_zero, List.set_cons_succ, i64_w, i32_w]
                            rfl
                          refine one_ (i := 12) (N := some 47) #[true, true, true, true, true, true, true, true, true, true, true, true, true, false, false, false] rfl rfl (one_of HT_.out (by kernel_rfl)) (by decide) (fun K hK => ?_)
                          refine value_ (w1 := ?_) (v := ?_) (by rfl) rfl ?_ ?_
                          rotate_left 2
                          · go_simp
                            constructor
                            · rfl
                            · rfl
                          refine hK.out _ _ ⟨(blk_cell (blk_alloc BK473.out _) 0).trans rfl, (blk_cell (blk_alloc BK473.out _) 1).trans rfl, (blk_cell (blk_alloc BK473.out _) 2).trans rfl, (blk_cell (blk_alloc BK473.out _) 3).trans rfl, (blk_cell (blk_alloc BK473.out _) 4).trans rfl, (blk_cell (blk_alloc BK473.out _) 5).trans rfl, (blk_cell (blk_alloc BK473.out _) 6).trans rfl, (blk_cell (blk_alloc BK473.out _) 7).trans rfl, (blk_cell (blk_alloc BK473.out _) 8).trans rfl, (blk_cell (blk_alloc BK473.out _) 9).trans rfl, (blk_cell (blk_alloc BK473.out _) 10).trans rfl, (blk_cell (blk_alloc BK473.out _) 11).trans rfl, (blk_cell (blk_alloc BK473.out _) 12).trans rfl, (blk_cell (blk_alloc BK473.out _) 13).trans rfl, (blk_cell (blk_alloc BK473.out _) 14).trans rfl, (blk_cell (blk_alloc BK473.out _) 15).trans rfl, (World.cell?_alloc_lt _ _ _ (World.block_lt_of_cell? _ _ (((HB.out.cell (World.block_lt_of_cell? w _ hw474_0)).trans hw474_0)))).trans (((HB.out.cell (World.block_lt_of_cell? w _ hw474_0)).trans hw474_0)), (World.cell?_alloc_lt _ _ _ (World.block_lt_of_cell? _ _ (((HB.out.cell (World.block_lt_of_cell? w _ hw475_0)).trans hw475_0)))).trans (((HB.out.cell (World.block_lt_of_cell? w _ hw475_0)).trans hw475_0))⟩ (fun hHeld => ?_)
                          clear hK K
                          refine norm_ (a' := ?_) ?_ ?_
                          rotate_left
                          · show Act.put _ (some 47) _ = _
                            simp only [Act.put, List.setIfInBounds_toArray, List.set_cons_zero, List.set_cons_succ, i64_w, i32_w]
                            rfl
                          refine one_ (i := 13) (N := some 48) #[true, true, true, true, true, true, true, true, true, true, true, true, true, true, false, false] rfl rfl (one_of HT_.out (by kernel_rfl)) (by decide) (fun K hK => ?_)
                          refine Kd.R_append_step k41 (w0 := w) w.heap.size (by rfl) (.tmp 36) (.tmp 47) 25 41 (.agg #[(.int .i64 0), (.int .i64 0)]) 16 rfl Try.underlying25 info41 rfl (by decide) (by omega) u474010 x474010_1 (⟨rd l2 x13_1, rd l2 (ji24)⟩ : S41) [.int .i64 (rd l2 x13_1), .int .i64 (rd l2 (ji24))] (fun _ => True) (fun _ => False) rfl rfl ?aP (fun _ hk => hk.elim) ?aF ?aO ?aB ?aS ?aL ?_
                          (case aP => exact k41_mkM _ _ _ (⟨rd l2 x13_1, rd l2 (ji24)⟩ : S41))
                          (case aB => exact (by repeat (first | (with_reducible first | exact HB.out | apply below_alloc | apply pw_below_drewN | apply below_drew1 | refine below_set ?_ GE473.out) | exact HB.out)))
                          (case aF => exact (fun _ _ => trivial))
                          (case aO => exact (by (with_reducible repeat (first | apply Kd.R_alloc | apply Kd.R_drewN | apply Kd.R_drew)); exact HO_474010.out))
                          (case aS => exact (below_size (by repeat (first | (with_reducible first | exact HB.out | apply below_alloc | apply pw_below_drewN | apply below_drew1 | refine below_set ?_ GE473.out) | exact HB.out))))
                          (case aL => have := LMc26.out; omega)
                          intro v477 w38 ho hb hg hat
                          rw [← Ny476.out] at ho
                          have n0_ := Aside0.mk (Kd.R_over' (by (with_reducible repeat (first | apply Kd.R_alloc | apply Kd.R_drewN | apply Kd.R_drew)); exact HO_474003.out) (Kd.R_typed (by (with_reducible repeat (first | apply Kd.R_alloc | apply Kd.R_drewN | apply Kd.R_drew)); exact HO_474010.out)) (by decide) hg)
                          have n1_ := Aside0.mk (Kd.R_over' (by (with_reducible repeat (first | apply Kd.R_alloc | apply Kd.R_drewN | apply Kd.R_drew)); exact HO_474004.out) (Kd.R_typed (by (with_reducible repeat (first | apply Kd.R_alloc | apply Kd.R_drewN | apply Kd.R_drew)); exact HO_474010.out)) (by decide) hg)
                          have n2_ := Aside0.mk (blk_grown (g := gb473) (o := .cells #[.string t451, .string t452, .int .i64 t453, .slice Ao18 t454.length co18, .slice Ao19 t457.length co19, .string t460, .string t461, .string t462, .string t463, .bool a3, u474010, .int .i64 t468, .string t469, .string t470, .string t471, .int .i64 t472] 27 (0, 0)) (by (with_reducible repeat (first | refine blk_drewN ?_ _ | refine blk_drew ?_ | refine blk_alloc ?_ _)); exact BK473.out) hg (Kd.R_ne HO_474010.out BK473.out (by decide)))
                          have n3_ := Aside0.mk (hb)
                          have n4_ := Aside0.mk (ho)
                          clear HO_474003
                          clear HO_474004
                          clear BK473
                          clear HB
                          clear HO_474010
                          have HO_474003 := n0_
                          have HO_474004 := n1_
                          have BK473 := n2_
                          have HB := n3_
                          have HO478 := n4_
                          clear n0_ n1_ n2_ n3_ n4_
                          clear ho hb hg hat
                          obtain ⟨Ao39, co39, eo39⟩ := Kd.R_slice HO478.out
                          (first | subst eo39 | (injection eo39 with f1_ f2_ f3_; have f4_ := f1_.symm; have f5_ := f3_.symm; clear f1_ f2_ f3_; subst f4_; subst f5_))
                          refine hK.out _ _ ⟨(blk_cell BK473.out 0).trans rfl, (blk_cell BK473.out 1).trans rfl, (blk_cell BK473.out 2).trans rfl, (blk_cell BK473.out 3).trans rfl, (blk_cell BK473.out 4).trans rfl, (blk_cell BK473.out 5).trans rfl, (blk_cell BK473.out 6).trans rfl, (blk_cell BK473.out 7).trans rfl, (blk_cell BK473.out 8).trans rfl, (blk_cell BK473.out 9).trans rfl, (blk_cell BK473.out 10).trans rfl, (blk_cell BK473.out 11).trans rfl, (blk_cell BK473.out 12).trans rfl, (blk_cell BK473.out 13).trans rfl, (blk_cell BK473.out 14).trans rfl, (blk_cell BK473.out 15).trans rfl, ((HB.out.cell (World.block_lt_of_cell? w _ hw474_0)).trans hw474_0), ((HB.out.cell (World.block_lt_of_cell? w _ hw475_0)).trans hw475_0)⟩ (fun hHeld => ?_)
                          clear hK K
                          refine norm_ (a' := ?_) ?_ ?_
                          rotate_left
                          · show Act.put _ (some 48) _ = _
                            simp only [Act.put, List.setIfInBounds_toArray, List.set_cons_zero, List.set_cons_succ, i64_w, i32_w]
                            rfl
                          refine pure_ (i := 14) (N := some 49) (v := ?_) (a' := ?_) #[true, true, true, true, true, true, true, true, true, true, true, true, true, true, true, false] rfl rfl (any_of HT_.out (by kernel_rfl)) (fun _ _ _ h => h) (Or.inl ⟨by rfl, ?_⟩) ?_ ?_
                          rotate_left
                          · intro w'
                            go_simp
                            with_reducible rfl
                          rotate_left
                          · simp only [Act.put, List.setIfInBounds_toArray, List.set_cons_zero, List.set_cons_succ, i64_w, i32_w]
                            rfl
                          refine last_ (i := 15) (N := none) #[true, true, true, true, true, true, true, true, true, true, true, true, true, true, true, true] rfl rfl (one_of HT_.out (by kernel_rfl)) (by decide) (fun K hK => ?_)
                          have hs40 : w38.cell? ⟨gb473, 10, none⟩ = some (u474010) := (blk_cell BK473.out 10).trans rfl
                          have hfs40 := blk_frozen BK473.out 10
                          refine skip_ (w1 := ?_) (by rfl) rfl ?_ ?_
                          rotate_left
                          · go_simp
                            rfl
                          refine hK.out _ _ ?_
                          clear hK K
                          refine done_ (done_of HT_.out (by kernel_rfl)) ?_
                          have p479 : 0 ≤ (x13_1 : Int) := of_decide_eq_true (by first | (with_reducible assumption) | assumption)
                          have q479 : x13_1 < (l2.length : Int) := of_decide_eq_true (by first | (with_reducible assumption) | assumption)
                          obtain ⟨ad479, e479, hx479_0⟩ := Kd.at_int HR2.out x13_1 p479 q479
                          obtain rfl : ad474 = ad479 := (by injection e479)
                          have hn479_0 : ad474.block ≠ gb473 := Nat.ne_of_lt (Nat.lt_of_lt_of_le (by have := World.block_lt_of_cell? _ _ hx479_0; first | rwa [add_block] at this | exact this) GW473.out)
                          replace hx479_0 := (HB.out.cell (World.block_lt_of_cell? w _ hx479_0)).trans hx479_0
                          replace hx479_0 := (cell_far (p := ⟨gb473, 10, none⟩) (by first | (rw [add_block]; exact hn479_0) | (show (Addr.add _ _).block ≠ _; rw [add_block]; exact hn479_0) | exact hn479_0) (.slice Ao39 y476.length co39)).trans hx479_0
                          clear hn479_0
                          replace p479 := eq_true p479
                          replace q479 := eq_true q479
                          try go_wp2
                          go_roundg k1
                          case measure => have := HK1.out; omega
                          case rel => exact ⟨(false), (wrap64 (x13_1 + 2)), (y476), (.slice Ao39 y476.length co39), (by first | rfl | (simp; done) | (simp [*]; done)), (by first | rfl | (simp; done) | (simp [*]; done)), H', ⟨by have := HK1.out; omega⟩, ⟨by (with_reducible repeat (first | apply Kd.R_alloc | apply Kd.R_drewN | apply Kd.R_drew)); exact Kd.R_mono (Kd.R_far (p := ⟨gb473, 10, none⟩) (Kd.R_types HO_474003.out BK473.out (by decide)) (fun _ hk => hk.2) (.slice Ao39 y476.length co39)) (fun _ hk => by first | exact trivial | simp [hk])⟩, ⟨by (with_reducible repeat (first | apply Kd.R_alloc | apply Kd.R_drewN | apply Kd.R_drew)); exact Kd.R_mono (Kd.R_far (p := ⟨gb473, 10, none⟩) (Kd.R_types HO_474004.out BK473.out (by decide)) (fun _ hk => hk.2) (.slice Ao39 y476.length co39)) (fun _ hk => by first | exact trivial | simp [hk])⟩, ⟨by (with_reducible repeat (first | apply Kd.R_alloc | apply Kd.R_drewN | apply Kd.R_drew)); exact Kd.R_mono (Kd.R_far (p := ⟨gb473, 10, none⟩) (Kd.R_types HO478.out BK473.out (by decide)) (fun _ hk => hk.2) (.slice Ao39 y476.length co39)) (fun _ hk => by first | exact trivial | simp [hk])⟩, ⟨by (with_reducible repeat (first | refine blk_drewN ?_ _ | refine blk_drew ?_ | refine blk_alloc ?_ _)); refine blk_put (cs := #[.string t451, .string t452, .int .i64 t453, .slice Ao18 t454.length co18, .slice Ao19 t457.length co19, .string t460, .string t461, .string t462, .string t463, .bool a3, u474010, .int .i64 t468, .string t469, .string t470, .string t471, .int .i64 t472]) ?_ 10 _ rfl; (with_reducible repeat (first | refine blk_drewN ?_ _ | refine blk_drew ?_ | refine blk_alloc ?_ _)); exact BK473.out⟩, ⟨by repeat (first | (with_reducible first | exact HB.out | apply below_alloc | apply pw_below_drewN | apply below_drew1 | refine below_set ?_ GE473.out) | exact HB.out)⟩⟩
                    · rw [if_neg c26] at H
                      exact absurd H (by simp)
                  · rw [if_neg c25] at H
                    exact absurd H (by simp)
                · rw [if_neg c23] at H
                  exact absurd H (by simp)
              · rw [if_neg c22] at H
                exact absurd H (by simp)
            · rw [if_neg c21] at H
              have c21b0 : decide ((wrap64 (x13_1 + 1)) < (l2.length : Int)) = false := decide_eq_false c21
              clear c21
              have HC41 := Aside0.mk H
              clear H
              go_upto_if 68 with (fail)
              go_cut [12] (fun v12 wc => ∃ (kq : Nat) (x12_40 : Bool), v12 = .bool x12_40 ∧ Aside0 (fleuronlaw9_SystemRanges.j1 kq a1 t449 x12_40 t451 t452 t453 t454 t457 t460 t461 t462 t463 a3 x474010_1 t468 t469 t470 t471 t472 = some r) ∧ Aside0 (kq ≤ k1) ∧ Aside0 (Kd.R Kd.string 9 wc w.heap.size (fun _ => True) (.slice Ao18 t454.length co18) t454) ∧ Aside0 (Kd.R (Kd.int .i64) 3 wc w.heap.size (fun _ => True) (.slice Ao19 t457.length co19) t457) ∧ Aside0 (Kd.R k41 41 wc w.heap.size (fun _ => True) u474010 x474010_1) ∧ Aside0 (wc.heap[gb473]? = some (.cells #[.string t451, .string t452, .int .i64 t453, (.slice Ao18 t454.length co18), (.slice Ao19 t457.length co19), .string t460, .string t461, .string t462, .string t463, .bool a3, u474010, .int .i64 t468, .string t469, .string t470, .string t471, .int .i64 t472] 27 (0, 0))) ∧ Aside0 (Below w.heap.size w wc))
              case first => as_aux_lemma =>
                have H := HC41.out
                clear HC41
                by_cases c42 : a3 = true
                · subst c42
                  have H1 : (if t449 < 3 then (fleuronlaw9_SystemRanges.j1 k1 a1 t449 true t451 t452 t453 t454 t457 t460 t461 t462 t463 true x474010_1 t468 t469 t470 t471 t472) else (if t449 < 5 then (if a1 > 0 then (fleuronlaw9_SystemRanges.j1 k1 a1 t449 true t451 t452 t453 t454 t457 t460 t461 t462 t463 true x474010_1 t468 t469 t470 t471 t472) else (if t449 = 5 then (fleuronlaw9_SystemRanges.j1 k1 a1 t449 (decide (a1 ≥ 0)) t451 t452 t453 t454 t457 t460 t461 t462 t463 true x474010_1 t468 t469 t470 t471 t472) else (fleuronlaw9_SystemRanges.j1 k1 a1 t449 false t451 t452 t453 t454 t457 t460 t461 t462 t463 true x474010_1 t468 t469 t470 t471 t472))) else (if t449 = 5 then (fleuronlaw9_SystemRanges.j1 k1 a1 t449 (decide (a1 ≥ 0)) t451 t452 t453 t454 t457 t460 t461 t462 t463 true x474010_1 t468 t469 t470 t471 t472) else (fleuronlaw9_SystemRanges.j1 k1 a1 t449 false t451 t452 t453 t454 t457 t460 t461 t462 t463 true x474010_1 t468 t469 t470 t471 t472)))) = some r := by rw [if_pos rfl] at H; exact H
                  clear H
                  have H := H1
                  clear H1
                  by_cases c43 : t449 < 3
                  · rw [if_pos c43] at H
                    have c43b0 : decide (t449 < 3) = true := decide_eq_true c43
                    clear c43
                    (first | rw [c43b0] | (simp only [i64_w, i32_w]; rw [c43b0]) | skip)
                    have H' := Aside0.mk H
                    clear H
                    go_wp2
                    go_meet
                    case rel => exact ⟨_, (true), (by first | rfl | (simp; done) | (simp [*]; done)), H', ⟨by have := HK1.out; first | omega | exact Nat.le_refl _⟩, ⟨by (with_reducible repeat (first | apply Kd.R_alloc | apply Kd.R_drewN | apply Kd.R_drew)); exact HO_474003.out⟩, ⟨by (with_reducible repeat (first | apply Kd.R_alloc | apply Kd.R_drewN | apply Kd.R_drew)); exact HO_474004.out⟩, ⟨by (with_reducible repeat (first | apply Kd.R_alloc | apply Kd.R_drewN | apply Kd.R_drew)); exact HO_474010.out⟩, ⟨by (with_reducible repeat (first | refine blk_drewN ?_ _ | refine blk_drew ?_ | refine blk_alloc ?_ _)); exact BK473.out⟩, ⟨by repeat (first | (with_reducible first | exact HB.out | apply below_alloc | apply pw_below_drewN | apply below_drew1 | refine below_set ?_ GE473.out) | exact HB.out)⟩⟩
                  · rw [if_neg c43] at H
                    have c43b0 : decide (t449 < 3) = false := decide_eq_false c43
                    clear c43
                    (first | rw [c43b0] | (simp only [i64_w, i32_w]; rw [c43b0]) | skip)
                    by_cases c44 : t449 < 5
                    · rw [if_pos c44] at H
                      have c44b0 : decide (t449 < 5) = true := decide_eq_true c44
                      clear c44
                      by_cases c45 : a1 > 0
                      · rw [if_pos c45] at H
                        have c45b0 : decide (0 < a1) = true := decide_eq_true c45
                        clear c45
                        have H' := Aside0.mk H
                        clear H
                        go_wp2
                        go_meet
                        case rel => exact ⟨_, (true), (by first | rfl | (simp; done) | (simp [*]; done)), H', ⟨by have := HK1.out; first | omega | exact Nat.le_refl _⟩, ⟨by (with_reducible repeat (first | apply Kd.R_alloc | apply Kd.R_drewN | apply Kd.R_drew)); exact HO_474003.out⟩, ⟨by (with_reducible repeat (first | apply Kd.R_alloc | apply Kd.R_drewN | apply Kd.R_drew)); exact HO_474004.out⟩, ⟨by (with_reducible repeat (first | apply Kd.R_alloc | apply Kd.R_drewN | apply Kd.R_drew)); exact HO_474010.out⟩, ⟨by (with_reducible repeat (first | refine blk_drewN ?_ _ | refine blk_drew ?_ | refine blk_alloc ?_ _)); exact BK473.out⟩, ⟨by repeat (first | (with_reducible first | exact HB.out | apply below_alloc | apply pw_below_drewN | apply below_drew1 | refine below_set ?_ GE473.out) | exact HB.out)⟩⟩
                      · rw [if_neg c45] at H
                        have c45b0 : decide (0 < a1) = false := decide_eq_false c45
                        clear c45
                        by_cases c46 : t449 = 5
                        · rw [if_pos c46] at H
                          have c46b0 : (t449 == 5) = true := beq_iff_eq.mpr c46
                          have c46b1 : (t449 != 5) = false := bne_eq_false_iff_eq.mpr c46
                          clear c46
                          have H' := Aside0.mk H
                          clear H
                          go_wp2
                          go_meet
                          case rel => exact ⟨_, (decide (a1 ≥ 0)), (by first | rfl | (simp; done) | (simp [*]; done)), H', ⟨by have := HK1.out; first | omega | exact Nat.le_refl _⟩, ⟨by (with_reducible repeat (first | apply Kd.R_alloc | apply Kd.R_drewN | apply Kd.R_drew)); exact HO_474003.out⟩, ⟨by (with_reducible repeat (first | apply Kd.R_alloc | apply Kd.R_drewN | apply Kd.R_drew)); exact HO_474004.out⟩, ⟨by (with_reducible repeat (first | apply Kd.R_alloc | apply Kd.R_drewN | apply Kd.R_drew)); exact HO_474010.out⟩, ⟨by (with_reducible repeat (first | refine blk_drewN ?_ _ | refine blk_drew ?_ | refine blk_alloc ?_ _)); exact BK473.out⟩, ⟨by repeat (first | (with_reducible first | exact HB.out | apply below_alloc | apply pw_below_drewN | apply below_drew1 | refine below_set ?_ GE473.out) | exact HB.out)⟩⟩
                        · rw [if_neg c46] at H
                          have c46b0 : (t449 == 5) = false := beq_eq_false_iff_ne.mpr c46
                          have c46b1 : (t449 != 5) = true := bne_iff_ne.mpr c46
                          have H' := Aside0.mk H
                          clear H
                          go_wp2
                          go_meet
                          case rel => exact ⟨_, (false), (by first | rfl | (simp; done) | (simp [*]; done)), H', ⟨by have := HK1.out; first | omega | exact Nat.le_refl _⟩, ⟨by (with_reducible repeat (first | apply Kd.R_alloc | apply Kd.R_drewN | apply Kd.R_drew)); exact HO_474003.out⟩, ⟨by (with_reducible repeat (first | apply Kd.R_alloc | apply Kd.R_drewN | apply Kd.R_drew)); exact HO_474004.out⟩, ⟨by (with_reducible repeat (first | apply Kd.R_alloc | apply Kd.R_drewN | apply Kd.R_drew)); exact HO_474010.out⟩, ⟨by (with_reducible repeat (first | refine blk_drewN ?_ _ | refine blk_drew ?_ | refine blk_alloc ?_ _)); exact BK473.out⟩, ⟨by repeat (first | (with_reducible first | exact HB.out | apply below_alloc | apply pw_below_drewN | apply below_drew1 | refine below_set ?_ GE473.out) | exact HB.out)⟩⟩
                    · rw [if_neg c44] at H
                      have c44b0 : decide (t449 < 5) = false := decide_eq_false c44
                      clear c44
                      by_cases c47 : t449 = 5
                      · rw [if_pos c47] at H
                        have c47b0 : (t449 == 5) = true := beq_iff_eq.mpr c47
                        have c47b1 : (t449 != 5) = false := bne_eq_false_iff_eq.mpr c47
                        clear c47
                        have H' := Aside0.mk H
                        clear H
                        go_wp2
                        go_meet
                        case rel => exact ⟨_, (decide (a1 ≥ 0)), (by first | rfl | (simp; done) | (simp [*]; done)), H', ⟨by have := HK1.out; first | omega | exact Nat.le_refl _⟩, ⟨by (with_reducible repeat (first | apply Kd.R_alloc | apply Kd.R_drewN | apply Kd.R_drew)); exact HO_474003.out⟩, ⟨by (with_reducible repeat (first | apply Kd.R_alloc | apply Kd.R_drewN | apply Kd.R_drew)); exact HO_474004.out⟩, ⟨by (with_reducible repeat (first | apply Kd.R_alloc | apply Kd.R_drewN | apply Kd.R_drew)); exact HO_474010.out⟩, ⟨by (with_reducible repeat (first | refine blk_drewN ?_ _ | refine blk_drew ?_ | refine blk_alloc ?_ _)); exact BK473.out⟩, ⟨by repeat (first | (with_reducible first | exact HB.out | apply below_alloc | apply pw_below_drewN | apply below_drew1 | refine below_set ?_ GE473.out) | exact HB.out)⟩⟩
                      · rw [if_neg c47] at H
                        have c47b0 : (t449 == 5) = false := beq_eq_false_iff_ne.mpr c47
                        have c47b1 : (t449 != 5) = true := bne_iff_ne.mpr c47
                        have H' := Aside0.mk H
                        clear H
                        go_wp2
                        go_meet
                        case rel => exact ⟨_, (false), (by first | rfl | (simp; done) | (simp [*]; done)), H', ⟨by have := HK1.out; first | omega | exact Nat.le_refl _⟩, ⟨by (with_reducible repeat (first | apply Kd.R_alloc | apply Kd.R_drewN | apply Kd.R_drew)); exact HO_474003.out⟩, ⟨by (with_reducible repeat (first | apply Kd.R_alloc | apply Kd.R_drewN | apply Kd.R_drew)); exact HO_474004.out⟩, ⟨by (with_reducible repeat (first | apply Kd.R_alloc | apply Kd.R_drewN | apply Kd.R_drew)); exact HO_474010.out⟩, ⟨by (with_reducible repeat (first | refine blk_drewN ?_ _ | refine blk_drew ?_ | refine blk_alloc ?_ _)); exact BK473.out⟩, ⟨by repeat (first | (with_reducible first | exact HB.out | apply below_alloc | apply pw_below_drewN | apply below_drew1 | refine below_set ?_ GE473.out) | exact HB.out)⟩⟩
                · replace c42 := Bool.eq_false_iff.mpr c42
                  subst c42
                  have H1 : (fleuronlaw9_SystemRanges.j1 k1 a1 t449 x12_1 t451 t452 t453 t454 t457 t460 t461 t462 t463 false x474010_1 t468 t469 t470 t471 t472) = some r := by rw [if_neg (show ¬ (false = true) by decide)] at H; exact H
                  clear H
                  have H := H1
                  clear H1
                  have H' := Aside0.mk H
                  clear H
                  go_wp2
                  go_meet
                  case rel => exact ⟨_, (x12_1), (by first | rfl | (simp; done) | (simp [*]; done)), H', ⟨by have := HK1.out; first | omega | exact Nat.le_refl _⟩, ⟨by (with_reducible repeat (first | apply Kd.R_alloc | apply Kd.R_drewN | apply Kd.R_drew)); exact HO_474003.out⟩, ⟨by (with_reducible repeat (first | apply Kd.R_alloc | apply Kd.R_drewN | apply Kd.R_drew)); exact HO_474004.out⟩, ⟨by (with_reducible repeat (first | apply Kd.R_alloc | apply Kd.R_drewN | apply Kd.R_drew)); exact HO_474010.out⟩, ⟨by (with_reducible repeat (first | refine blk_drewN ?_ _ | refine blk_drew ?_ | refine blk_alloc ?_ _)); exact BK473.out⟩, ⟨by repeat (first | (with_reducible first | exact HB.out | apply below_alloc | apply pw_below_drewN | apply below_drew1 | refine below_set ?_ GE473.out) | exact HB.out)⟩⟩
              case rest =>
                clear HC41
                try clear c2
                try clear p2
                try clear c3
                try clear c4
                try clear p4
                try clear q4
                try clear hx4
                try clear p6
                try clear c21
                try clear c21b0
                try clear c22
                try clear c23
                try clear c25
                try clear c26
                try clear c27
                try clear c32
                try clear c32b0
                try clear c42
                try clear c43
                try clear c43b0
                try clear c44
                try clear c44b0
                try clear c45
                try clear c45b0
                try clear c46
                try clear c46b0
                try clear c46b1
                try clear c47
                try clear c47b0
                try clear c47b1
                try clear p47
                try clear q47
                try clear hx47
                try clear hx474_0
                try clear hx475_0
                try clear hx479_0
                try clear hx480_0
                try clear p474
                try clear p475
                try clear p479
                try clear p480
                try clear q474
                try clear q475
                try clear q479
                try clear q480
                obtain ⟨kq, x12_40, rfl, HA, HJ40, HO_474003, HO_474004, HO_474010, BK473, HB⟩ := hcut
                cases kq with
                | zero => exact absurd HA.out (by simp [fleuronlaw9_SystemRanges.j1])
                | succ kj40 =>
                  have H := HA.out
                  clear HA
                  simp only [fleuronlaw9_SystemRanges.j1] at H
                  replace H := Option.bind_eq_some_iff.mp H
                  obtain ⟨t481, A480, H⟩ := H
                  replace H : (if (t481 == x12_40) = true then ((system_Uses.f t451 t452 t453 t454 t457 t460 t461 t462 t463 a3 x474010_1 t468 t469 t470 t471 t472 a1).bind fun t482 => (if a1 < 0 then (if t449 = 1 then (if (t482 == true) = true then ((fleuronlaw9_awake.f).bind fun t483 => (some t483)) else (some false)) else (if t449 ≥ 3 then (if (t482 == (decide (t449 ≤ 5))) = true then ((fleuronlaw9_awake.f).bind fun t484 => (some t484)) else (some false)) else (if (t482 == false) = true then ((fleuronlaw9_awake.f).bind fun t485 => (some t485)) else (some false)))) else (if (t482 == false) = true then ((fleuronlaw9_awake.f).bind fun t486 => (some t486)) else (some false)))) else (some false)) = some r := H
                  have A48 := Aside0.mk A480
                  clear A480
                  by_cases c49 : (t481 == x12_40) = true
                  · rw [if_pos c49] at H
                    have c49b0 : (t481 == x12_40) = true := c49
                    (try (have c49b1 : decide (t481 = x12_40) = true := by simpa using c49))
                    (try (have c49b2 : (t481 == x12_40) = true := by simpa using c49))
                    clear c49
                    replace H := Option.bind_eq_some_iff.mp H
                    obtain ⟨t482, A500, H⟩ := H
                    replace H : (if a1 < 0 then (if t449 = 1 then (if (t482 == true) = true then ((fleuronlaw9_awake.f).bind fun t483 => (some t483)) else (some false)) else (if t449 ≥ 3 then (if (t482 == (decide (t449 ≤ 5))) = true then ((fleuronlaw9_awake.f).bind fun t484 => (some t484)) else (some false)) else (if (t482 == false) = true then ((fleuronlaw9_awake.f).bind fun t485 => (some t485)) else (some false)))) else (if (t482 == false) = true then ((fleuronlaw9_awake.f).bind fun t486 => (some t486)) else (some false))) = some r := H
                    have A50 := Aside0.mk A500
                    clear A500
                    by_cases c51 : a1 < 0
                    · rw [if_pos c51] at H
                      have c51b0 : decide (a1 < 0) = true := decide_eq_true c51
                      clear c51
                      by_cases c52 : t449 = 1
                      · rw [if_pos c52] at H
                        have c52b0 : (t449 == 1) = true := beq_iff_eq.mpr c52
                        have c52b1 : (t449 != 1) = false := bne_eq_false_iff_eq.mpr c52
                        clear c52
                        by_cases c53 : (t482 == true) = true
                        · as_aux_lemma =>
                          rw [if_pos c53] at H
                          have c53b0 : (t482 == true) = true := c53
                          (try (have c53b1 : decide (t482 = true) = true := by simpa using c53))
                          (try (have c53b2 : (t482 == true) = true := by simpa using c53))
                          clear c53
                          replace H := Option.bind_eq_some_iff.mp H
                          obtain ⟨t483, A540, H⟩ := H
                          replace H : (some t483) = some r := H
                          have A54 := Aside0.mk A540
                          clear A540
                          obtain rfl := Option.some.inj H
                          have hcz55_0 : wc.cell? ⟨gb473, 0, none⟩ = some (.string t451) := (blk_cell BK473.out 0).trans rfl
                          have hcz55_1 : wc.cell? ⟨gb473, 1, none⟩ = some (.string t452) := (blk_cell BK473.out 1).trans rfl
                          have hcz55_2 : wc.cell? ⟨gb473, 2, none⟩ = some (.int .i64 t453) := (blk_cell BK473.out 2).trans rfl
                          have hcz55_3 : wc.cell? ⟨gb473, 3, none⟩ = some (.slice Ao18 t454.length co18) := (blk_cell BK473.out 3).trans rfl
                          have hcz55_4 : wc.cell? ⟨gb473, 4, none⟩ = some (.slice Ao19 t457.length co19) := (blk_cell BK473.out 4).trans rfl
                          have hcz55_5 : wc.cell? ⟨gb473, 5, none⟩ = some (.string t460) := (blk_cell BK473.out 5).trans rfl
                          have hcz55_6 : wc.cell? ⟨gb473, 6, none⟩ = some (.string t461) := (blk_cell BK473.out 6).trans rfl
                          have hcz55_7 : wc.cell? ⟨gb473, 7, none⟩ = some (.string t462) := (blk_cell BK473.out 7).trans rfl
                          have hcz55_8 : wc.cell? ⟨gb473, 8, none⟩ = some (.string t463) := (blk_cell BK473.out 8).trans rfl
                          have hcz55_9 : wc.cell? ⟨gb473, 9, none⟩ = some (.bool a3) := (blk_cell BK473.out 9).trans rfl
                          have hcz55_10 : wc.cell? ⟨gb473, 10, none⟩ = some (u474010) := (blk_cell BK473.out 10).trans rfl
                          have hcz55_11 : wc.cell? ⟨gb473, 11, none⟩ = some (.int .i64 t468) := (blk_cell BK473.out 11).trans rfl
                          have hcz55_12 : wc.cell? ⟨gb473, 12, none⟩ = some (.string t469) := (blk_cell BK473.out 12).trans rfl
                          have hcz55_13 : wc.cell? ⟨gb473, 13, none⟩ = some (.string t470) := (blk_cell BK473.out 13).trans rfl
                          have hcz55_14 : wc.cell? ⟨gb473, 14, none⟩ = some (.string t471) := (blk_cell BK473.out 14).trans rfl
                          have hcz55_15 : wc.cell? ⟨gb473, 15, none⟩ = some (.int .i64 t472) := (blk_cell BK473.out 15).trans rfl
                          have hfz55_0 := blk_frozen BK473.out 0
                          have hfz55_1 := blk_frozen BK473.out 1
                          have hfz55_2 := blk_frozen BK473.out 2
                          have hfz55_3 := blk_frozen BK473.out 3
                          have hfz55_4 := blk_frozen BK473.out 4
                          have hfz55_5 := blk_frozen BK473.out 5
                          have hfz55_6 := blk_frozen BK473.out 6
                          have hfz55_7 := blk_frozen BK473.out 7
                          have hfz55_8 := blk_frozen BK473.out 8
                          have hfz55_9 := blk_frozen BK473.out 9
                          have hfz55_10 := blk_frozen BK473.out 10
                          have hfz55_11 := blk_frozen BK473.out 11
                          have hfz55_12 := blk_frozen BK473.out 12
                          have hfz55_13 := blk_frozen BK473.out 13
                          have hfz55_14 := blk_frozen BK473.out 14
                          have hfz55_15 := blk_frozen BK473.out 15
                          obtain ⟨Ao56, co56, eo56⟩ := Kd.R_slice HO_474010.out
                          subst eo56
                          go_wp2_with (first | ((with_reducible refine gate_callee (f := 16) rfl ?_); refine goesL_ (some 89) rfl rfl Try.func16 (by kernel_rfl) rfl #[.agg #[.string t451, .string t452, .int .i64 t453, .slice Ao18 t454.length co18, .slice Ao19 t457.length co19, .string t460, .string t461, .string t462, .string t463, .bool a3, .slice Ao56 x474010_1.length co56, .int .i64 t468, .string t469, .string t470, .string t471, .int .i64 t472], .int .i64 a1] rfl (by (try simp only [List.map_toArray, List.map_cons, List.map_nil]); first | done | rfl | (simp only [List.length_drop, List.length_take]; rfl)) ?_; (with_reducible refine (system_In.calls t451 t452 t453 _ _ t454 _ _ t457 t460 t461 t462 t463 a3 _ _ x474010_1 t468 t469 t470 t471 t472 a1 t481 _ ?side1 ?side2 ?side3 ?side4 ?side5 ?side6 A48.out).mono ?_); (case side1 => repeat (first | exact (Kd.R_reads' HO_474003.out).2.2 | (with_reducible refine Kd.C_alloc ?_ _) | (with_reducible refine Kd.C_drewN ?_ _) | (with_reducible refine Kd.C_drew ?_))); (case side2 => exact (Kd.R_reads' HO_474003.out).2.1); (case side3 => repeat (first | exact (Kd.R_reads' HO_474004.out).2.2 | (with_reducible refine Kd.C_alloc ?_ _) | (with_reducible refine Kd.C_drewN ?_ _) | (with_reducible refine Kd.C_drew ?_))); (case side4 => exact (Kd.R_reads' HO_474004.out).2.1); (case side5 => repeat (first | exact (Kd.R_reads' HO_474010.out).2.2 | (with_reducible refine Kd.C_alloc ?_ _) | (with_reducible refine Kd.C_drewN ?_ _) | (with_reducible refine Kd.C_drew ?_))); (case side6 => exact (Kd.R_reads' HO_474010.out).2.1); rintro e w57 ⟨rfl, hb⟩; refine ⟨_, rfl, ?_⟩; have n0_ := Aside0.mk (Kd.R_below (by (with_reducible repeat (first | apply Kd.R_alloc | apply Kd.R_drewN | apply Kd.R_drew)); exact HO_474003.out) hb); have n1_ := Aside0.mk (Kd.R_below (by (with_reducible repeat (first | apply Kd.R_alloc | apply Kd.R_drewN | apply Kd.R_drew)); exact HO_474004.out) hb); have n2_ := Aside0.mk (Kd.R_below (by (with_reducible repeat (first | apply Kd.R_alloc | apply Kd.R_drewN | apply Kd.R_drew)); exact HO_474010.out) hb); have n3_ := Aside0.mk (blk_below (g := gb473) (o := .cells #[.string t451, .string t452, .int .i64 t453, .slice Ao18 t454.length co18, .slice Ao19 t457.length co19, .string t460, .string t461, .string t462, .string t463, .bool a3, .slice Ao56 x474010_1.length co56, .int .i64 t468, .string t469, .string t470, .string t471, .int .i64 t472] 27 (0, 0)) (by (with_reducible repeat (first | refine blk_drewN ?_ _ | refine blk_drew ?_ | refine blk_alloc ?_ _)); exact BK473.out) hb); have n4_ := Aside0.mk (below_step (by repeat (first | (with_reducible first | exact HB.out | apply below_alloc | apply pw_below_drewN | apply below_drew1 | refine below_set ?_ GE473.out) | exact HB.out)) hb); clear HO_474003; clear HO_474004; clear HO_474010; clear BK473; clear HB; have HO_474003 := n0_; have HO_474004 := n1_; have HO_474010 := n2_; have BK473 := n3_; have HB := n4_; clear n0_ n1_ n2_ n3_ n4_; (try clear hb); (try clear hb2); (try clear hk); (try clear hi); have hcz58_0 : w57.cell? ⟨gb473, 0, none⟩ = some (.string t451) := (blk_cell BK473.out 0).trans rfl; have hcz58_1 : w57.cell? ⟨gb473, 1, none⟩ = some (.string t452) := (blk_cell BK473.out 1).trans rfl; have hcz58_2 : w57.cell? ⟨gb473, 2, none⟩ = some (.int .i64 t453) := (blk_cell BK473.out 2).trans rfl; have hcz58_3 : w57.cell? ⟨gb473, 3, none⟩ = some (.slice Ao18 t454.length co18) := (blk_cell BK473.out 3).trans rfl; have hcz58_4 : w57.cell? ⟨gb473, 4, none⟩ = some (.slice Ao19 t457.length co19) := (blk_cell BK473.out 4).trans rfl; have hcz58_5 : w57.cell? ⟨gb473, 5, none⟩ = some (.string t460) := (blk_cell BK473.out 5).trans rfl; have hcz58_6 : w57.cell? ⟨gb473, 6, none⟩ = some (.string t461) := (blk_cell BK473.out 6).trans rfl; have hcz58_7 : w57.cell? ⟨gb473, 7, none⟩ = some (.string t462) := (blk_cell BK473.out 7).trans rfl; have hcz58_8 : w57.cell? ⟨gb473, 8, none⟩ = some (.string t463) := (blk_cell BK473.out 8).trans rfl; have hcz58_9 : w57.cell? ⟨gb473, 9, none⟩ = some (.bool a3) := (blk_cell BK473.out 9).trans rfl; have hcz58_10 : w57.cell? ⟨gb473, 10, none⟩ = some (.slice Ao56 x474010_1.length co56) := (blk_cell BK473.out 10).trans rfl; have hcz58_11 : w57.cell? ⟨gb473, 11, none⟩ = some (.int .i64 t468) := (blk_cell BK473.out 11).trans rfl; have hcz58_12 : w57.cell? ⟨gb473, 12, none⟩ = some (.string t469) := (blk_cell BK473.out 12).trans rfl; have hcz58_13 : w57.cell? ⟨gb473, 13, none⟩ = some (.string t470) := (blk_cell BK473.out 13).trans rfl; have hcz58_14 : w57.cell? ⟨gb473, 14, none⟩ = some (.string t471) := (blk_cell BK473.out 14).trans rfl; have hcz58_15 : w57.cell? ⟨gb473, 15, none⟩ = some (.int .i64 t472) := (blk_cell BK473.out 15).trans rfl; have hfz58_0 := blk_frozen BK473.out 0; have hfz58_1 := blk_frozen BK473.out 1; have hfz58_2 := blk_frozen BK473.out 2; have hfz58_3 := blk_frozen BK473.out 3; have hfz58_4 := blk_frozen BK473.out 4; have hfz58_5 := blk_frozen BK473.out 5; have hfz58_6 := blk_frozen BK473.out 6; have hfz58_7 := blk_frozen BK473.out 7; have hfz58_8 := blk_frozen BK473.out 8; have hfz58_9 := blk_frozen BK473.out 9; have hfz58_10 := blk_frozen BK473.out 10; have hfz58_11 := blk_frozen BK473.out 11; have hfz58_12 := blk_frozen BK473.out 12; have hfz58_13 := blk_frozen BK473.out 13; have hfz58_14 := blk_frozen BK473.out 14; have hfz58_15 := blk_frozen BK473.out 15) | (go_at_call 17; (with_reducible refine (system_Uses.calls t451 t452 t453 _ _ t454 _ _ t457 t460 t461 t462 t463 a3 _ _ x474010_1 t468 t469 t470 t471 t472 a1 t482 _ ?side1 ?side2 ?side3 ?side4 ?side5 ?side6 A50.out).mono ?_); (case side1 => repeat (first | exact (Kd.R_reads' HO_474003.out).2.2 | (with_reducible refine Kd.C_alloc ?_ _) | (with_reducible refine Kd.C_drewN ?_ _) | (with_reducible refine Kd.C_drew ?_))); (case side2 => exact (Kd.R_reads' HO_474003.out).2.1); (case side3 => repeat (first | exact (Kd.R_reads' HO_474004.out).2.2 | (with_reducible refine Kd.C_alloc ?_ _) | (with_reducible refine Kd.C_drewN ?_ _) | (with_reducible refine Kd.C_drew ?_))); (case side4 => exact (Kd.R_reads' HO_474004.out).2.1); (case side5 => repeat (first | exact (Kd.R_reads' HO_474010.out).2.2 | (with_reducible refine Kd.C_alloc ?_ _) | (with_reducible refine Kd.C_drewN ?_ _) | (with_reducible refine Kd.C_drew ?_))); (case side6 => exact (Kd.R_reads' HO_474010.out).2.1); rintro e w59 ⟨rfl, hb⟩; have n0_ := Aside0.mk (Kd.R_below (by (with_reducible repeat (first | apply Kd.R_alloc | apply Kd.R_drewN | apply Kd.R_drew)); exact HO_474003.out) hb); have n1_ := Aside0.mk (Kd.R_below (by (with_reducible repeat (first | apply Kd.R_alloc | apply Kd.R_drewN | apply Kd.R_drew)); exact HO_474004.out) hb); have n2_ := Aside0.mk (Kd.R_below (by (with_reducible repeat (first | apply Kd.R_alloc | apply Kd.R_drewN | apply Kd.R_drew)); exact HO_474010.out) hb); have n3_ := Aside0.mk (blk_below (g := gb473) (o := .cells #[.string t451, .string t452, .int .i64 t453, .slice Ao18 t454.length co18, .slice Ao19 t457.length co19, .string t460, .string t461, .string t462, .string t463, .bool a3, .slice Ao56 x474010_1.length co56, .int .i64 t468, .string t469, .string t470, .string t471, .int .i64 t472] 27 (0, 0)) (by (with_reducible repeat (first | refine blk_drewN ?_ _ | refine blk_drew ?_ | refine blk_alloc ?_ _)); exact BK473.out) hb); have n4_ := Aside0.mk (below_step (by repeat (first | (with_reducible first | exact HB.out | apply below_alloc | apply pw_below_drewN | apply below_drew1 | refine below_set ?_ GE473.out) | exact HB.out)) hb); clear HO_474003; clear HO_474004; clear HO_474010; clear BK473; clear HB; have HO_474003 := n0_; have HO_474004 := n1_; have HO_474010 := n2_; have BK473 := n3_; have HB := n4_; clear n0_ n1_ n2_ n3_ n4_; (try clear hb); (try clear hb2); (try clear hk); (try clear hi)) | (go_at_call 10; (with_reducible refine (fleuronlaw9_awake.calls  t483 _ A54.out ht_.out).mono ?_); rintro e w60 ⟨rfl, hb⟩; have n0_ := Aside0.mk (Kd.R_below (by (with_reducible repeat (first | apply Kd.R_alloc | apply Kd.R_drewN | apply Kd.R_drew)); exact HO_474003.out) hb); have n1_ := Aside0.mk (Kd.R_below (by (with_reducible repeat (first | apply Kd.R_alloc | apply Kd.R_drewN | apply Kd.R_drew)); exact HO_474004.out) hb); have n2_ := Aside0.mk (Kd.R_below (by (with_reducible repeat (first | apply Kd.R_alloc | apply Kd.R_drewN | apply Kd.R_drew)); exact HO_474010.out) hb); have n3_ := Aside0.mk (blk_below (g := gb473) (o := .cells #[.string t451, .string t452, .int .i64 t453, .slice Ao18 t454.length co18, .slice Ao19 t457.length co19, .string t460, .string t461, .string t462, .string t463, .bool a3, .slice Ao56 x474010_1.length co56, .int .i64 t468, .string t469, .string t470, .string t471, .int .i64 t472] 27 (0, 0)) (by (with_reducible repeat (first | refine blk_drewN ?_ _ | refine blk_drew ?_ | refine blk_alloc ?_ _)); exact BK473.out) hb); have n4_ := Aside0.mk (below_step (by repeat (first | (with_reducible first | exact HB.out | apply below_alloc | apply pw_below_drewN | apply below_drew1 | refine below_set ?_ GE473.out) | exact HB.out)) hb); clear HO_474003; clear HO_474004; clear HO_474010; clear BK473; clear HB; have HO_474003 := n0_; have HO_474004 := n1_; have HO_474010 := n2_; have BK473 := n3_; have HB := n4_; clear n0_ n1_ n2_ n3_ n4_; (try clear hb); (try clear hb2); (try clear hk); (try clear hi)))
                          go_ret
                          exact ⟨by first | rfl | (simp [errW_none, errW_some] <;> rfl) | (simp [*, errW_none, errW_some] <;> rfl), by repeat (first | (with_reducible first | exact HB.out | apply below_alloc | apply pw_below_drewN | apply below_drew1 | refine below_set ?_ GE473.out) | exact HB.out)⟩
                        · rw [if_neg c53] at H
                          have c53b0 : (t482 == true) = false := by simpa using c53
                          (try (have c53b1 : decide (t482 = true) = false := by simpa using c53))
                          (try (have c53b2 : (t482 == true) = false := by simpa using c53))
                          (try (have c53b3 : ¬ (t482 = true) := by simpa using c53))
                          clear c53
                          exact absurd ((Option.some.inj H).trans ht_.out) (by decide)
                      · rw [if_neg c52] at H
                        have c52b0 : (t449 == 1) = false := beq_eq_false_iff_ne.mpr c52
                        have c52b1 : (t449 != 1) = true := bne_iff_ne.mpr c52
                        by_cases c61 : t449 ≥ 3
                        · rw [if_pos c61] at H
                          have c61b0 : decide (3 ≤ t449) = true := decide_eq_true c61
                          clear c61
                          by_cases c62 : (t482 == (decide (t449 ≤ 5))) = true
                          · as_aux_lemma =>
                            rw [if_pos c62] at H
                            have c62b0 : (t482 == (decide (t449 ≤ 5))) = true := c62
                            (try (have c62b1 : decide (t482 = (decide (t449 ≤ 5))) = true := by simpa using c62))
                            (try (have c62b2 : (t482 == (decide (t449 ≤ 5))) = true := by simpa using c62))
                            clear c62
                            replace H := Option.bind_eq_some_iff.mp H
                            obtain ⟨t484, A630, H⟩ := H
                            replace H : (some t484) = some r := H
                            have A63 := Aside0.mk A630
                            clear A630
                            obtain rfl := Option.some.inj H
                            have hcz64_0 : wc.cell? ⟨gb473, 0, none⟩ = some (.string t451) := (blk_cell BK473.out 0).trans rfl
                            have hcz64_1 : wc.cell? ⟨gb473, 1, none⟩ = some (.string t452) := (blk_cell BK473.out 1).trans rfl
                            have hcz64_2 : wc.cell? ⟨gb473, 2, none⟩ = some (.int .i64 t453) := (blk_cell BK473.out 2).trans rfl
                            have hcz64_3 : wc.cell? ⟨gb473, 3, none⟩ = some (.slice Ao18 t454.length co18) := (blk_cell BK473.out 3).trans rfl
                            have hcz64_4 : wc.cell? ⟨gb473, 4, none⟩ = some (.slice Ao19 t457.length co19) := (blk_cell BK473.out 4).trans rfl
                            have hcz64_5 : wc.cell? ⟨gb473, 5, none⟩ = some (.string t460) := (blk_cell BK473.out 5).trans rfl
                            have hcz64_6 : wc.cell? ⟨gb473, 6, none⟩ = some (.string t461) := (blk_cell BK473.out 6).trans rfl
                            have hcz64_7 : wc.cell? ⟨gb473, 7, none⟩ = some (.string t462) := (blk_cell BK473.out 7).trans rfl
                            have hcz64_8 : wc.cell? ⟨gb473, 8, none⟩ = some (.string t463) := (blk_cell BK473.out 8).trans rfl
                            have hcz64_9 : wc.cell? ⟨gb473, 9, none⟩ = some (.bool a3) := (blk_cell BK473.out 9).trans rfl
                            have hcz64_10 : wc.cell? ⟨gb473, 10, none⟩ = some (u474010) := (blk_cell BK473.out 10).trans rfl
                            have hcz64_11 : wc.cell? ⟨gb473, 11, none⟩ = some (.int .i64 t468) := (blk_cell BK473.out 11).trans rfl
                            have hcz64_12 : wc.cell? ⟨gb473, 12, none⟩ = some (.string t469) := (blk_cell BK473.out 12).trans rfl
                            have hcz64_13 : wc.cell? ⟨gb473, 13, none⟩ = some (.string t470) := (blk_cell BK473.out 13).trans rfl
                            have hcz64_14 : wc.cell? ⟨gb473, 14, none⟩ = some (.string t471) := (blk_cell BK473.out 14).trans rfl
                            have hcz64_15 : wc.cell? ⟨gb473, 15, none⟩ = some (.int .i64 t472) := (blk_cell BK473.out 15).trans rfl
                            have hfz64_0 := blk_frozen BK473.out 0
                            have hfz64_1 := blk_frozen BK473.out 1
                            have hfz64_2 := blk_frozen BK473.out 2
                            have hfz64_3 := blk_frozen BK473.out 3
                            have hfz64_4 := blk_frozen BK473.out 4
                            have hfz64_5 := blk_frozen BK473.out 5
                            have hfz64_6 := blk_frozen BK473.out 6
                            have hfz64_7 := blk_frozen BK473.out 7
                            have hfz64_8 := blk_frozen BK473.out 8
                            have hfz64_9 := blk_frozen BK473.out 9
                            have hfz64_10 := blk_frozen BK473.out 10
                            have hfz64_11 := blk_frozen BK473.out 11
                            have hfz64_12 := blk_frozen BK473.out 12
                            have hfz64_13 := blk_frozen BK473.out 13
                            have hfz64_14 := blk_frozen BK473.out 14
                            have hfz64_15 := blk_frozen BK473.out 15
                            obtain ⟨Ao65, co65, eo65⟩ := Kd.R_slice HO_474010.out
                            subst eo65
                            go_wp2_with (first | ((with_reducible refine gate_callee (f := 16) rfl ?_); refine goesL_ (some 89) rfl rfl Try.func16 (by kernel_rfl) rfl #[.agg #[.string t451, .string t452, .int .i64 t453, .slice Ao18 t454.length co18, .slice Ao19 t457.length co19, .string t460, .string t461, .string t462, .string t463, .bool a3, .slice Ao65 x474010_1.length co65, .int .i64 t468, .string t469, .string t470, .string t471, .int .i64 t472], .int .i64 a1] rfl (by (try simp only [List.map_toArray, List.map_cons, List.map_nil]); first | done | rfl | (simp only [List.length_drop, List.length_take]; rfl)) ?_; (with_reducible refine (system_In.calls t451 t452 t453 _ _ t454 _ _ t457 t460 t461 t462 t463 a3 _ _ x474010_1 t468 t469 t470 t471 t472 a1 t481 _ ?side1 ?side2 ?side3 ?side4 ?side5 ?side6 A48.out).mono ?_); (case side1 => repeat (first | exact (Kd.R_reads' HO_474003.out).2.2 | (with_reducible refine Kd.C_alloc ?_ _) | (with_reducible refine Kd.C_drewN ?_ _) | (with_reducible refine Kd.C_drew ?_))); (case side2 => exact (Kd.R_reads' HO_474003.out).2.1); (case side3 => repeat (first | exact (Kd.R_reads' HO_474004.out).2.2 | (with_reducible refine Kd.C_alloc ?_ _) | (with_reducible refine Kd.C_drewN ?_ _) | (with_reducible refine Kd.C_drew ?_))); (case side4 => exact (Kd.R_reads' HO_474004.out).2.1); (case side5 => repeat (first | exact (Kd.R_reads' HO_474010.out).2.2 | (with_reducible refine Kd.C_alloc ?_ _) | (with_reducible refine Kd.C_drewN ?_ _) | (with_reducible refine Kd.C_drew ?_))); (case side6 => exact (Kd.R_reads' HO_474010.out).2.1); rintro e w66 ⟨rfl, hb⟩; refine ⟨_, rfl, ?_⟩; have n0_ := Aside0.mk (Kd.R_below (by (with_reducible repeat (first | apply Kd.R_alloc | apply Kd.R_drewN | apply Kd.R_drew)); exact HO_474003.out) hb); have n1_ := Aside0.mk (Kd.R_below (by (with_reducible repeat (first | apply Kd.R_alloc | apply Kd.R_drewN | apply Kd.R_drew)); exact HO_474004.out) hb); have n2_ := Aside0.mk (Kd.R_below (by (with_reducible repeat (first | apply Kd.R_alloc | apply Kd.R_drewN | apply Kd.R_drew)); exact HO_474010.out) hb); have n3_ := Aside0.mk (blk_below (g := gb473) (o := .cells #[.string t451, .string t452, .int .i64 t453, .slice Ao18 t454.length co18, .slice Ao19 t457.length co19, .string t460, .string t461, .string t462, .string t463, .bool a3, .slice Ao65 x474010_1.length co65, .int .i64 t468, .string t469, .string t470, .string t471, .int .i64 t472] 27 (0, 0)) (by (with_reducible repeat (first | refine blk_drewN ?_ _ | refine blk_drew ?_ | refine blk_alloc ?_ _)); exact BK473.out) hb); have n4_ := Aside0.mk (below_step (by repeat (first | (with_reducible first | exact HB.out | apply below_alloc | apply pw_below_drewN | apply below_drew1 | refine below_set ?_ GE473.out) | exact HB.out)) hb); clear HO_474003; clear HO_474004; clear HO_474010; clear BK473; clear HB; have HO_474003 := n0_; have HO_474004 := n1_; have HO_474010 := n2_; have BK473 := n3_; have HB := n4_; clear n0_ n1_ n2_ n3_ n4_; (try clear hb); (try clear hb2); (try clear hk); (try clear hi); have hcz67_0 : w66.cell? ⟨gb473, 0, none⟩ = some (.string t451) := (blk_cell BK473.out 0).trans rfl; have hcz67_1 : w66.cell? ⟨gb473, 1, none⟩ = some (.string t452) := (blk_cell BK473.out 1).trans rfl; have hcz67_2 : w66.cell? ⟨gb473, 2, none⟩ = some (.int .i64 t453) := (blk_cell BK473.out 2).trans rfl; have hcz67_3 : w66.cell? ⟨gb473, 3, none⟩ = some (.slice Ao18 t454.length co18) := (blk_cell BK473.out 3).trans rfl; have hcz67_4 : w66.cell? ⟨gb473, 4, none⟩ = some (.slice Ao19 t457.length co19) := (blk_cell BK473.out 4).trans rfl; have hcz67_5 : w66.cell? ⟨gb473, 5, none⟩ = some (.string t460) := (blk_cell BK473.out 5).trans rfl; have hcz67_6 : w66.cell? ⟨gb473, 6, none⟩ = some (.string t461) := (blk_cell BK473.out 6).trans rfl; have hcz67_7 : w66.cell? ⟨gb473, 7, none⟩ = some (.string t462) := (blk_cell BK473.out 7).trans rfl; have hcz67_8 : w66.cell? ⟨gb473, 8, none⟩ = some (.string t463) := (blk_cell BK473.out 8).trans rfl; have hcz67_9 : w66.cell? ⟨gb473, 9, none⟩ = some (.bool a3) := (blk_cell BK473.out 9).trans rfl; have hcz67_10 : w66.cell? ⟨gb473, 10, none⟩ = some (.slice Ao65 x474010_1.length co65) := (blk_cell BK473.out 10).trans rfl; have hcz67_11 : w66.cell? ⟨gb473, 11, none⟩ = some (.int .i64 t468) := (blk_cell BK473.out 11).trans rfl; have hcz67_12 : w66.cell? ⟨gb473, 12, none⟩ = some (.string t469) := (blk_cell BK473.out 12).trans rfl; have hcz67_13 : w66.cell? ⟨gb473, 13, none⟩ = some (.string t470) := (blk_cell BK473.out 13).trans rfl; have hcz67_14 : w66.cell? ⟨gb473, 14, none⟩ = some (.string t471) := (blk_cell BK473.out 14).trans rfl; have hcz67_15 : w66.cell? ⟨gb473, 15, none⟩ = some (.int .i64 t472) := (blk_cell BK473.out 15).trans rfl; have hfz67_0 := blk_frozen BK473.out 0; have hfz67_1 := blk_frozen BK473.out 1; have hfz67_2 := blk_frozen BK473.out 2; have hfz67_3 := blk_frozen BK473.out 3; have hfz67_4 := blk_frozen BK473.out 4; have hfz67_5 := blk_frozen BK473.out 5; have hfz67_6 := blk_frozen BK473.out 6; have hfz67_7 := blk_frozen BK473.out 7; have hfz67_8 := blk_frozen BK473.out 8; have hfz67_9 := blk_frozen BK473.out 9; have hfz67_10 := blk_frozen BK473.out 10; have hfz67_11 := blk_frozen BK473.out 11; have hfz67_12 := blk_frozen BK473.out 12; have hfz67_13 := blk_frozen BK473.out 13; have hfz67_14 := blk_frozen BK473.out 14; have hfz67_15 := blk_frozen BK473.out 15) | (go_at_call 17; (with_reducible refine (system_Uses.calls t451 t452 t453 _ _ t454 _ _ t457 t460 t461 t462 t463 a3 _ _ x474010_1 t468 t469 t470 t471 t472 a1 t482 _ ?side1 ?side2 ?side3 ?side4 ?side5 ?side6 A50.out).mono ?_); (case side1 => repeat (first | exact (Kd.R_reads' HO_474003.out).2.2 | (with_reducible refine Kd.C_alloc ?_ _) | (with_reducible refine Kd.C_drewN ?_ _) | (with_reducible refine Kd.C_drew ?_))); (case side2 => exact (Kd.R_reads' HO_474003.out).2.1); (case side3 => repeat (first | exact (Kd.R_reads' HO_474004.out).2.2 | (with_reducible refine Kd.C_alloc ?_ _) | (with_reducible refine Kd.C_drewN ?_ _) | (with_reducible refine Kd.C_drew ?_))); (case side4 => exact (Kd.R_reads' HO_474004.out).2.1); (case side5 => repeat (first | exact (Kd.R_reads' HO_474010.out).2.2 | (with_reducible refine Kd.C_alloc ?_ _) | (with_reducible refine Kd.C_drewN ?_ _) | (with_reducible refine Kd.C_drew ?_))); (case side6 => exact (Kd.R_reads' HO_474010.out).2.1); rintro e w68 ⟨rfl, hb⟩; have n0_ := Aside0.mk (Kd.R_below (by (with_reducible repeat (first | apply Kd.R_alloc | apply Kd.R_drewN | apply Kd.R_drew)); exact HO_474003.out) hb); have n1_ := Aside0.mk (Kd.R_below (by (with_reducible repeat (first | apply Kd.R_alloc | apply Kd.R_drewN | apply Kd.R_drew)); exact HO_474004.out) hb); have n2_ := Aside0.mk (Kd.R_below (by (with_reducible repeat (first | apply Kd.R_alloc | apply Kd.R_drewN | apply Kd.R_drew)); exact HO_474010.out) hb); have n3_ := Aside0.mk (blk_below (g := gb473) (o := .cells #[.string t451, .string t452, .int .i64 t453, .slice Ao18 t454.length co18, .slice Ao19 t457.length co19, .string t460, .string t461, .string t462, .string t463, .bool a3, .slice Ao65 x474010_1.length co65, .int .i64 t468, .string t469, .string t470, .string t471, .int .i64 t472] 27 (0, 0)) (by (with_reducible repeat (first | refine blk_drewN ?_ _ | refine blk_drew ?_ | refine blk_alloc ?_ _)); exact BK473.out) hb); have n4_ := Aside0.mk (below_step (by repeat (first | (with_reducible first | exact HB.out | apply below_alloc | apply pw_below_drewN | apply below_drew1 | refine below_set ?_ GE473.out) | exact HB.out)) hb); clear HO_474003; clear HO_474004; clear HO_474010; clear BK473; clear HB; have HO_474003 := n0_; have HO_474004 := n1_; have HO_474010 := n2_; have BK473 := n3_; have HB := n4_; clear n0_ n1_ n2_ n3_ n4_; (try clear hb); (try clear hb2); (try clear hk); (try clear hi)) | (go_at_call 10; (with_reducible refine (fleuronlaw9_awake.calls  t484 _ A63.out ht_.out).mono ?_); rintro e w69 ⟨rfl, hb⟩; have n0_ := Aside0.mk (Kd.R_below (by (with_reducible repeat (first | apply Kd.R_alloc | apply Kd.R_drewN | apply Kd.R_drew)); exact HO_474003.out) hb); have n1_ := Aside0.mk (Kd.R_below (by (with_reducible repeat (first | apply Kd.R_alloc | apply Kd.R_drewN | apply Kd.R_drew)); exact HO_474004.out) hb); have n2_ := Aside0.mk (Kd.R_below (by (with_reducible repeat (first | apply Kd.R_alloc | apply Kd.R_drewN | apply Kd.R_drew)); exact HO_474010.out) hb); have n3_ := Aside0.mk (blk_below (g := gb473) (o := .cells #[.string t451, .string t452, .int .i64 t453, .slice Ao18 t454.length co18, .slice Ao19 t457.length co19, .string t460, .string t461, .string t462, .string t463, .bool a3, .slice Ao65 x474010_1.length co65, .int .i64 t468, .string t469, .string t470, .string t471, .int .i64 t472] 27 (0, 0)) (by (with_reducible repeat (first | refine blk_drewN ?_ _ | refine blk_drew ?_ | refine blk_alloc ?_ _)); exact BK473.out) hb); have n4_ := Aside0.mk (below_step (by repeat (first | (with_reducible first | exact HB.out | apply below_alloc | apply pw_below_drewN | apply below_drew1 | refine below_set ?_ GE473.out) | exact HB.out)) hb); clear HO_474003; clear HO_474004; clear HO_474010; clear BK473; clear HB; have HO_474003 := n0_; have HO_474004 := n1_; have HO_474010 := n2_; have BK473 := n3_; have HB := n4_; clear n0_ n1_ n2_ n3_ n4_; (try clear hb); (try clear hb2); (try clear hk); (try clear hi)))
                            go_ret
                            exact ⟨by first | rfl | (simp [errW_none, errW_some] <;> rfl) | (simp [*, errW_none, errW_some] <;> rfl), by repeat (first | (with_reducible first | exact HB.out | apply below_alloc | apply pw_below_drewN | apply below_drew1 | refine below_set ?_ GE473.out) | exact HB.out)⟩
                          · rw [if_neg c62] at H
                            have c62b0 : (t482 == (decide (t449 ≤ 5))) = false := by simpa using c62
                            (try (have c62b1 : decide (t482 = (decide (t449 ≤ 5))) = false := by simpa using c62))
                            (try (have c62b2 : (t482 == (decide (t449 ≤ 5))) = false := by simpa using c62))
                            (try (have c62b3 : ¬ (t482 = (decide (t449 ≤ 5))) := by simpa using c62))
                            clear c62
                            exact absurd ((Option.some.inj H).trans ht_.out) (by decide)
                        · rw [if_neg c61] at H
                          have c61b0 : decide (3 ≤ t449) = false := decide_eq_false c61
                          clear c61
                          by_cases c70 : (t482 == false) = true
                          · as_aux_lemma =>
                            rw [if_pos c70] at H
                            have c70b0 : (t482 == false) = true := c70
                            (try (have c70b1 : decide (t482 = false) = true := by simpa using c70))
                            (try (have c70b2 : (t482 == false) = true := by simpa using c70))
                            clear c70
                            replace H := Option.bind_eq_some_iff.mp H
                            obtain ⟨t485, A710, H⟩ := H
                            replace H : (some t485) = some r := H
                            have A71 := Aside0.mk A710
                            clear A710
                            obtain rfl := Option.some.inj H
                            have hcz72_0 : wc.cell? ⟨gb473, 0, none⟩ = some (.string t451) := (blk_cell BK473.out 0).trans rfl
                            have hcz72_1 : wc.cell? ⟨gb473, 1, none⟩ = some (.string t452) := (blk_cell BK473.out 1).trans rfl
                            have hcz72_2 : wc.cell? ⟨gb473, 2, none⟩ = some (.int .i64 t453) := (blk_cell BK473.out 2).trans rfl
                            have hcz72_3 : wc.cell? ⟨gb473, 3, none⟩ = some (.slice Ao18 t454.length co18) := (blk_cell BK473.out 3).trans rfl
                            have hcz72_4 : wc.cell? ⟨gb473, 4, none⟩ = some (.slice Ao19 t457.length co19) := (blk_cell BK473.out 4).trans rfl
                            have hcz72_5 : wc.cell? ⟨gb473, 5, none⟩ = some (.string t460) := (blk_cell BK473.out 5).trans rfl
                            have hcz72_6 : wc.cell? ⟨gb473, 6, none⟩ = some (.string t461) := (blk_cell BK473.out 6).trans rfl
                            have hcz72_7 : wc.cell? ⟨gb473, 7, none⟩ = some (.string t462) := (blk_cell BK473.out 7).trans rfl
                            have hcz72_8 : wc.cell? ⟨gb473, 8, none⟩ = some (.string t463) := (blk_cell BK473.out 8).trans rfl
                            have hcz72_9 : wc.cell? ⟨gb473, 9, none⟩ = some (.bool a3) := (blk_cell BK473.out 9).trans rfl
                            have hcz72_10 : wc.cell? ⟨gb473, 10, none⟩ = some (u474010) := (blk_cell BK473.out 10).trans rfl
                            have hcz72_11 : wc.cell? ⟨gb473, 11, none⟩ = some (.int .i64 t468) := (blk_cell BK473.out 11).trans rfl
                            have hcz72_12 : wc.cell? ⟨gb473, 12, none⟩ = some (.string t469) := (blk_cell BK473.out 12).trans rfl
                            have hcz72_13 : wc.cell? ⟨gb473, 13, none⟩ = some (.string t470) := (blk_cell BK473.out 13).trans rfl
                            have hcz72_14 : wc.cell? ⟨gb473, 14, none⟩ = some (.string t471) := (blk_cell BK473.out 14).trans rfl
                            have hcz72_15 : wc.cell? ⟨gb473, 15, none⟩ = some (.int .i64 t472) := (blk_cell BK473.out 15).trans rfl
                            have hfz72_0 := blk_frozen BK473.out 0
                            have hfz72_1 := blk_frozen BK473.out 1
                            have hfz72_2 := blk_frozen BK473.out 2
                            have hfz72_3 := blk_frozen BK473.out 3
                            have hfz72_4 := blk_frozen BK473.out 4
                            have hfz72_5 := blk_frozen BK473.out 5
                            have hfz72_6 := blk_frozen BK473.out 6
                            have hfz72_7 := blk_frozen BK473.out 7
                            have hfz72_8 := blk_frozen BK473.out 8
                            have hfz72_9 := blk_frozen BK473.out 9
                            have hfz72_10 := blk_frozen BK473.out 10
                            have hfz72_11 := blk_frozen BK473.out 11
                            have hfz72_12 := blk_frozen BK473.out 12
                            have hfz72_13 := blk_frozen BK473.out 13
                            have hfz72_14 := blk_frozen BK473.out 14
                            have hfz72_15 := blk_frozen BK473.out 15
                            obtain ⟨Ao73, co73, eo73⟩ := Kd.R_slice HO_474010.out
                            subst eo73
                            go_wp2_with (first | ((with_reducible refine gate_callee (f := 16) rfl ?_); refine goesL_ (some 89) rfl rfl Try.func16 (by kernel_rfl) rfl #[.agg #[.string t451, .string t452, .int .i64 t453, .slice Ao18 t454.length co18, .slice Ao19 t457.length co19, .string t460, .string t461, .string t462, .string t463, .bool a3, .slice Ao73 x474010_1.length co73, .int .i64 t468, .string t469, .string t470, .string t471, .int .i64 t472], .int .i64 a1] rfl (by (try simp only [List.map_toArray, List.map_cons, List.map_nil]); first | done | rfl | (simp only [List.length_drop, List.length_take]; rfl)) ?_; (with_reducible refine (system_In.calls t451 t452 t453 _ _ t454 _ _ t457 t460 t461 t462 t463 a3 _ _ x474010_1 t468 t469 t470 t471 t472 a1 t481 _ ?side1 ?side2 ?side3 ?side4 ?side5 ?side6 A48.out).mono ?_); (case side1 => repeat (first | exact (Kd.R_reads' HO_474003.out).2.2 | (with_reducible refine Kd.C_alloc ?_ _) | (with_reducible refine Kd.C_drewN ?_ _) | (with_reducible refine Kd.C_drew ?_))); (case side2 => exact (Kd.R_reads' HO_474003.out).2.1); (case side3 => repeat (first | exact (Kd.R_reads' HO_474004.out).2.2 | (with_reducible refine Kd.C_alloc ?_ _) | (with_reducible refine Kd.C_drewN ?_ _) | (with_reducible refine Kd.C_drew ?_))); (case side4 => exact (Kd.R_reads' HO_474004.out).2.1); (case side5 => repeat (first | exact (Kd.R_reads' HO_474010.out).2.2 | (with_reducible refine Kd.C_alloc ?_ _) | (with_reducible refine Kd.C_drewN ?_ _) | (with_reducible refine Kd.C_drew ?_))); (case side6 => exact (Kd.R_reads' HO_474010.out).2.1); rintro e w74 ⟨rfl, hb⟩; refine ⟨_, rfl, ?_⟩; have n0_ := Aside0.mk (Kd.R_below (by (with_reducible repeat (first | apply Kd.R_alloc | apply Kd.R_drewN | apply Kd.R_drew)); exact HO_474003.out) hb); have n1_ := Aside0.mk (Kd.R_below (by (with_reducible repeat (first | apply Kd.R_alloc | apply Kd.R_drewN | apply Kd.R_drew)); exact HO_474004.out) hb); have n2_ := Aside0.mk (Kd.R_below (by (with_reducible repeat (first | apply Kd.R_alloc | apply Kd.R_drewN | apply Kd.R_drew)); exact HO_474010.out) hb); have n3_ := Aside0.mk (blk_below (g := gb473) (o := .cells #[.string t451, .string t452, .int .i64 t453, .slice Ao18 t454.length co18, .slice Ao19 t457.length co19, .string t460, .string t461, .string t462, .string t463, .bool a3, .slice Ao73 x474010_1.length co73, .int .i64 t468, .string t469, .string t470, .string t471, .int .i64 t472] 27 (0, 0)) (by (with_reducible repeat (first | refine blk_drewN ?_ _ | refine blk_drew ?_ | refine blk_alloc ?_ _)); exact BK473.out) hb); have n4_ := Aside0.mk (below_step (by repeat (first | (with_reducible first | exact HB.out | apply below_alloc | apply pw_below_drewN | apply below_drew1 | refine below_set ?_ GE473.out) | exact HB.out)) hb); clear HO_474003; clear HO_474004; clear HO_474010; clear BK473; clear HB; have HO_474003 := n0_; have HO_474004 := n1_; have HO_474010 := n2_; have BK473 := n3_; have HB := n4_; clear n0_ n1_ n2_ n3_ n4_; (try clear hb); (try clear hb2); (try clear hk); (try clear hi); have hcz75_0 : w74.cell? ⟨gb473, 0, none⟩ = some (.string t451) := (blk_cell BK473.out 0).trans rfl; have hcz75_1 : w74.cell? ⟨gb473, 1, none⟩ = some (.string t452) := (blk_cell BK473.out 1).trans rfl; have hcz75_2 : w74.cell? ⟨gb473, 2, none⟩ = some (.int .i64 t453) := (blk_cell BK473.out 2).trans rfl; have hcz75_3 : w74.cell? ⟨gb473, 3, none⟩ = some (.slice Ao18 t454.length co18) := (blk_cell BK473.out 3).trans rfl; have hcz75_4 : w74.cell? ⟨gb473, 4, none⟩ = some (.slice Ao19 t457.length co19) := (blk_cell BK473.out 4).trans rfl; have hcz75_5 : w74.cell? ⟨gb473, 5, none⟩ = some (.string t460) := (blk_cell BK473.out 5).trans rfl; have hcz75_6 : w74.cell? ⟨gb473, 6, none⟩ = some (.string t461) := (blk_cell BK473.out 6).trans rfl; have hcz75_7 : w74.cell? ⟨gb473, 7, none⟩ = some (.string t462) := (blk_cell BK473.out 7).trans rfl; have hcz75_8 : w74.cell? ⟨gb473, 8, none⟩ = some (.string t463) := (blk_cell BK473.out 8).trans rfl; have hcz75_9 : w74.cell? ⟨gb473, 9, none⟩ = some (.bool a3) := (blk_cell BK473.out 9).trans rfl; have hcz75_10 : w74.cell? ⟨gb473, 10, none⟩ = some (.slice Ao73 x474010_1.length co73) := (blk_cell BK473.out 10).trans rfl; have hcz75_11 : w74.cell? ⟨gb473, 11, none⟩ = some (.int .i64 t468) := (blk_cell BK473.out 11).trans rfl; have hcz75_12 : w74.cell? ⟨gb473, 12, none⟩ = some (.string t469) := (blk_cell BK473.out 12).trans rfl; have hcz75_13 : w74.cell? ⟨gb473, 13, none⟩ = some (.string t470) := (blk_cell BK473.out 13).trans rfl; have hcz75_14 : w74.cell? ⟨gb473, 14, none⟩ = some (.string t471) := (blk_cell BK473.out 14).trans rfl; have hcz75_15 : w74.cell? ⟨gb473, 15, none⟩ = some (.int .i64 t472) := (blk_cell BK473.out 15).trans rfl; have hfz75_0 := blk_frozen BK473.out 0; have hfz75_1 := blk_frozen BK473.out 1; have hfz75_2 := blk_frozen BK473.out 2; have hfz75_3 := blk_frozen BK473.out 3; have hfz75_4 := blk_frozen BK473.out 4; have hfz75_5 := blk_frozen BK473.out 5; have hfz75_6 := blk_frozen BK473.out 6; have hfz75_7 := blk_frozen BK473.out 7; have hfz75_8 := blk_frozen BK473.out 8; have hfz75_9 := blk_frozen BK473.out 9; have hfz75_10 := blk_frozen BK473.out 10; have hfz75_11 := blk_frozen BK473.out 11; have hfz75_12 := blk_frozen BK473.out 12; have hfz75_13 := blk_frozen BK473.out 13; have hfz75_14 := blk_frozen BK473.out 14; have hfz75_15 := blk_frozen BK473.out 15) | (go_at_call 17; (with_reducible refine (system_Uses.calls t451 t452 t453 _ _ t454 _ _ t457 t460 t461 t462 t463 a3 _ _ x474010_1 t468 t469 t470 t471 t472 a1 t482 _ ?side1 ?side2 ?side3 ?side4 ?side5 ?side6 A50.out).mono ?_); (case side1 => repeat (first | exact (Kd.R_reads' HO_474003.out).2.2 | (with_reducible refine Kd.C_alloc ?_ _) | (with_reducible refine Kd.C_drewN ?_ _) | (with_reducible refine Kd.C_drew ?_))); (case side2 => exact (Kd.R_reads' HO_474003.out).2.1); (case side3 => repeat (first | exact (Kd.R_reads' HO_474004.out).2.2 | (with_reducible refine Kd.C_alloc ?_ _) | (with_reducible refine Kd.C_drewN ?_ _) | (with_reducible refine Kd.C_drew ?_))); (case side4 => exact (Kd.R_reads' HO_474004.out).2.1); (case side5 => repeat (first | exact (Kd.R_reads' HO_474010.out).2.2 | (with_reducible refine Kd.C_alloc ?_ _) | (with_reducible refine Kd.C_drewN ?_ _) | (with_reducible refine Kd.C_drew ?_))); (case side6 => exact (Kd.R_reads' HO_474010.out).2.1); rintro e w76 ⟨rfl, hb⟩; have n0_ := Aside0.mk (Kd.R_below (by (with_reducible repeat (first | apply Kd.R_alloc | apply Kd.R_drewN | apply Kd.R_drew)); exact HO_474003.out) hb); have n1_ := Aside0.mk (Kd.R_below (by (with_reducible repeat (first | apply Kd.R_alloc | apply Kd.R_drewN | apply Kd.R_drew)); exact HO_474004.out) hb); have n2_ := Aside0.mk (Kd.R_below (by (with_reducible repeat (first | apply Kd.R_alloc | apply Kd.R_drewN | apply Kd.R_drew)); exact HO_474010.out) hb); have n3_ := Aside0.mk (blk_below (g := gb473) (o := .cells #[.string t451, .string t452, .int .i64 t453, .slice Ao18 t454.length co18, .slice Ao19 t457.length co19, .string t460, .string t461, .string t462, .string t463, .bool a3, .slice Ao73 x474010_1.length co73, .int .i64 t468, .string t469, .string t470, .string t471, .int .i64 t472] 27 (0, 0)) (by (with_reducible repeat (first | refine blk_drewN ?_ _ | refine blk_drew ?_ | refine blk_alloc ?_ _)); exact BK473.out) hb); have n4_ := Aside0.mk (below_step (by repeat (first | (with_reducible first | exact HB.out | apply below_alloc | apply pw_below_drewN | apply below_drew1 | refine below_set ?_ GE473.out) | exact HB.out)) hb); clear HO_474003; clear HO_474004; clear HO_474010; clear BK473; clear HB; have HO_474003 := n0_; have HO_474004 := n1_; have HO_474010 := n2_; have BK473 := n3_; have HB := n4_; clear n0_ n1_ n2_ n3_ n4_; (try clear hb); (try clear hb2); (try clear hk); (try clear hi)) | (go_at_call 10; (with_reducible refine (fleuronlaw9_awake.calls  t485 _ A71.out ht_.out).mono ?_); rintro e w77 ⟨rfl, hb⟩; have n0_ := Aside0.mk (Kd.R_below (by (with_reducible repeat (first | apply Kd.R_alloc | apply Kd.R_drewN | apply Kd.R_drew)); exact HO_474003.out) hb); have n1_ := Aside0.mk (Kd.R_below (by (with_reducible repeat (first | apply Kd.R_alloc | apply Kd.R_drewN | apply Kd.R_drew)); exact HO_474004.out) hb); have n2_ := Aside0.mk (Kd.R_below (by (with_reducible repeat (first | apply Kd.R_alloc | apply Kd.R_drewN | apply Kd.R_drew)); exact HO_474010.out) hb); have n3_ := Aside0.mk (blk_below (g := gb473) (o := .cells #[.string t451, .string t452, .int .i64 t453, .slice Ao18 t454.length co18, .slice Ao19 t457.length co19, .string t460, .string t461, .string t462, .string t463, .bool a3, .slice Ao73 x474010_1.length co73, .int .i64 t468, .string t469, .string t470, .string t471, .int .i64 t472] 27 (0, 0)) (by (with_reducible repeat (first | refine blk_drewN ?_ _ | refine blk_drew ?_ | refine blk_alloc ?_ _)); exact BK473.out) hb); have n4_ := Aside0.mk (below_step (by repeat (first | (with_reducible first | exact HB.out | apply below_alloc | apply pw_below_drewN | apply below_drew1 | refine below_set ?_ GE473.out) | exact HB.out)) hb); clear HO_474003; clear HO_474004; clear HO_474010; clear BK473; clear HB; have HO_474003 := n0_; have HO_474004 := n1_; have HO_474010 := n2_; have BK473 := n3_; have HB := n4_; clear n0_ n1_ n2_ n3_ n4_; (try clear hb); (try clear hb2); (try clear hk); (try clear hi)))
                            go_ret
                            exact ⟨by first | rfl | (simp [errW_none, errW_some] <;> rfl) | (simp [*, errW_none, errW_some] <;> rfl), by repeat (first | (with_reducible first | exact HB.out | apply below_alloc | apply pw_below_drewN | apply below_drew1 | refine below_set ?_ GE473.out) | exact HB.out)⟩
                          · rw [if_neg c70] at H
                            have c70b0 : (t482 == false) = false := by simpa using c70
                            (try (have c70b1 : decide (t482 = false) = false := by simpa using c70))
                            (try (have c70b2 : (t482 == false) = false := by simpa using c70))
                            (try (have c70b3 : ¬ (t482 = false) := by simpa using c70))
                            clear c70
                            exact absurd ((Option.some.inj H).trans ht_.out) (by decide)
                    · rw [if_neg c51] at H
                      have c51b0 : decide (a1 < 0) = false := decide_eq_false c51
                      clear c51
                      by_cases c78 : (t482 == false) = true
                      · as_aux_lemma =>
                        rw [if_pos c78] at H
                        have c78b0 : (t482 == false) = true := c78
                        (try (have c78b1 : decide (t482 = false) = true := by simpa using c78))
                        (try (have c78b2 : (t482 == false) = true := by simpa using c78))
                        clear c78
                        replace H := Option.bind_eq_some_iff.mp H
                        obtain ⟨t486, A790, H⟩ := H
                        replace H : (some t486) = some r := H
                        have A79 := Aside0.mk A790
                        clear A790
                        obtain rfl := Option.some.inj H
                        have hcz80_0 : wc.cell? ⟨gb473, 0, none⟩ = some (.string t451) := (blk_cell BK473.out 0).trans rfl
                        have hcz80_1 : wc.cell? ⟨gb473, 1, none⟩ = some (.string t452) := (blk_cell BK473.out 1).trans rfl
                        have hcz80_2 : wc.cell? ⟨gb473, 2, none⟩ = some (.int .i64 t453) := (blk_cell BK473.out 2).trans rfl
                        have hcz80_3 : wc.cell? ⟨gb473, 3, none⟩ = some (.slice Ao18 t454.length co18) := (blk_cell BK473.out 3).trans rfl
                        have hcz80_4 : wc.cell? ⟨gb473, 4, none⟩ = some (.slice Ao19 t457.length co19) := (blk_cell BK473.out 4).trans rfl
                        have hcz80_5 : wc.cell? ⟨gb473, 5, none⟩ = some (.string t460) := (blk_cell BK473.out 5).trans rfl
                        have hcz80_6 : wc.cell? ⟨gb473, 6, none⟩ = some (.string t461) := (blk_cell BK473.out 6).trans rfl
                        have hcz80_7 : wc.cell? ⟨gb473, 7, none⟩ = some (.string t462) := (blk_cell BK473.out 7).trans rfl
                        have hcz80_8 : wc.cell? ⟨gb473, 8, none⟩ = some (.string t463) := (blk_cell BK473.out 8).trans rfl
                        have hcz80_9 : wc.cell? ⟨gb473, 9, none⟩ = some (.bool a3) := (blk_cell BK473.out 9).trans rfl
                        have hcz80_10 : wc.cell? ⟨gb473, 10, none⟩ = some (u474010) := (blk_cell BK473.out 10).trans rfl
                        have hcz80_11 : wc.cell? ⟨gb473, 11, none⟩ = some (.int .i64 t468) := (blk_cell BK473.out 11).trans rfl
                        have hcz80_12 : wc.cell? ⟨gb473, 12, none⟩ = some (.string t469) := (blk_cell BK473.out 12).trans rfl
                        have hcz80_13 : wc.cell? ⟨gb473, 13, none⟩ = some (.string t470) := (blk_cell BK473.out 13).trans rfl
                        have hcz80_14 : wc.cell? ⟨gb473, 14, none⟩ = some (.string t471) := (blk_cell BK473.out 14).trans rfl
                        have hcz80_15 : wc.cell? ⟨gb473, 15, none⟩ = some (.int .i64 t472) := (blk_cell BK473.out 15).trans rfl
                        have hfz80_0 := blk_frozen BK473.out 0
                        have hfz80_1 := blk_frozen BK473.out 1
                        have hfz80_2 := blk_frozen BK473.out 2
                        have hfz80_3 := blk_frozen BK473.out 3
                        have hfz80_4 := blk_frozen BK473.out 4
                        have hfz80_5 := blk_frozen BK473.out 5
                        have hfz80_6 := blk_frozen BK473.out 6
                        have hfz80_7 := blk_frozen BK473.out 7
                        have hfz80_8 := blk_frozen BK473.out 8
                        have hfz80_9 := blk_frozen BK473.out 9
                        have hfz80_10 := blk_frozen BK473.out 10
                        have hfz80_11 := blk_frozen BK473.out 11
                        have hfz80_12 := blk_frozen BK473.out 12
                        have hfz80_13 := blk_frozen BK473.out 13
                        have hfz80_14 := blk_frozen BK473.out 14
                        have hfz80_15 := blk_frozen BK473.out 15
                        obtain ⟨Ao81, co81, eo81⟩ := Kd.R_slice HO_474010.out
                        subst eo81
                        go_wp2_with (first | ((with_reducible refine gate_callee (f := 16) rfl ?_); refine goesL_ (some 89) rfl rfl Try.func16 (by kernel_rfl) rfl #[.agg #[.string t451, .string t452, .int .i64 t453, .slice Ao18 t454.length co18, .slice Ao19 t457.length co19, .string t460, .string t461, .string t462, .string t463, .bool a3, .slice Ao81 x474010_1.length co81, .int .i64 t468, .string t469, .string t470, .string t471, .int .i64 t472], .int .i64 a1] rfl (by (try simp only [List.map_toArray, List.map_cons, List.map_nil]); first | done | rfl | (simp only [List.length_drop, List.length_take]; rfl)) ?_; (with_reducible refine (system_In.calls t451 t452 t453 _ _ t454 _ _ t457 t460 t461 t462 t463 a3 _ _ x474010_1 t468 t469 t470 t471 t472 a1 t481 _ ?side1 ?side2 ?side3 ?side4 ?side5 ?side6 A48.out).mono ?_); (case side1 => repeat (first | exact (Kd.R_reads' HO_474003.out).2.2 | (with_reducible refine Kd.C_alloc ?_ _) | (with_reducible refine Kd.C_drewN ?_ _) | (with_reducible refine Kd.C_drew ?_))); (case side2 => exact (Kd.R_reads' HO_474003.out).2.1); (case side3 => repeat (first | exact (Kd.R_reads' HO_474004.out).2.2 | (with_reducible refine Kd.C_alloc ?_ _) | (with_reducible refine Kd.C_drewN ?_ _) | (with_reducible refine Kd.C_drew ?_))); (case side4 => exact (Kd.R_reads' HO_474004.out).2.1); (case side5 => repeat (first | exact (Kd.R_reads' HO_474010.out).2.2 | (with_reducible refine Kd.C_alloc ?_ _) | (with_reducible refine Kd.C_drewN ?_ _) | (with_reducible refine Kd.C_drew ?_))); (case side6 => exact (Kd.R_reads' HO_474010.out).2.1); rintro e w82 ⟨rfl, hb⟩; refine ⟨_, rfl, ?_⟩; have n0_ := Aside0.mk (Kd.R_below (by (with_reducible repeat (first | apply Kd.R_alloc | apply Kd.R_drewN | apply Kd.R_drew)); exact HO_474003.out) hb); have n1_ := Aside0.mk (Kd.R_below (by (with_reducible repeat (first | apply Kd.R_alloc | apply Kd.R_drewN | apply Kd.R_drew)); exact HO_474004.out) hb); have n2_ := Aside0.mk (Kd.R_below (by (with_reducible repeat (first | apply Kd.R_alloc | apply Kd.R_drewN | apply Kd.R_drew)); exact HO_474010.out) hb); have n3_ := Aside0.mk (blk_below (g := gb473) (o := .cells #[.string t451, .string t452, .int .i64 t453, .slice Ao18 t454.length co18, .slice Ao19 t457.length co19, .string t460, .string t461, .string t462, .string t463, .bool a3, .slice Ao81 x474010_1.length co81, .int .i64 t468, .string t469, .string t470, .string t471, .int .i64 t472] 27 (0, 0)) (by (with_reducible repeat (first | refine blk_drewN ?_ _ | refine blk_drew ?_ | refine blk_alloc ?_ _)); exact BK473.out) hb); have n4_ := Aside0.mk (below_step (by repeat (first | (with_reducible first | exact HB.out | apply below_alloc | apply pw_below_drewN | apply below_drew1 | refine below_set ?_ GE473.out) | exact HB.out)) hb); clear HO_474003; clear HO_474004; clear HO_474010; clear BK473; clear HB; have HO_474003 := n0_; have HO_474004 := n1_; have HO_474010 := n2_; have BK473 := n3_; have HB := n4_; clear n0_ n1_ n2_ n3_ n4_; (try clear hb); (try clear hb2); (try clear hk); (try clear hi); have hcz83_0 : w82.cell? ⟨gb473, 0, none⟩ = some (.string t451) := (blk_cell BK473.out 0).trans rfl; have hcz83_1 : w82.cell? ⟨gb473, 1, none⟩ = some (.string t452) := (blk_cell BK473.out 1).trans rfl; have hcz83_2 : w82.cell? ⟨gb473, 2, none⟩ = some (.int .i64 t453) := (blk_cell BK473.out 2).trans rfl; have hcz83_3 : w82.cell? ⟨gb473, 3, none⟩ = some (.slice Ao18 t454.length co18) := (blk_cell BK473.out 3).trans rfl; have hcz83_4 : w82.cell? ⟨gb473, 4, none⟩ = some (.slice Ao19 t457.length co19) := (blk_cell BK473.out 4).trans rfl; have hcz83_5 : w82.cell? ⟨gb473, 5, none⟩ = some (.string t460) := (blk_cell BK473.out 5).trans rfl; have hcz83_6 : w82.cell? ⟨gb473, 6, none⟩ = some (.string t461) := (blk_cell BK473.out 6).trans rfl; have hcz83_7 : w82.cell? ⟨gb473, 7, none⟩ = some (.string t462) := (blk_cell BK473.out 7).trans rfl; have hcz83_8 : w82.cell? ⟨gb473, 8, none⟩ = some (.string t463) := (blk_cell BK473.out 8).trans rfl; have hcz83_9 : w82.cell? ⟨gb473, 9, none⟩ = some (.bool a3) := (blk_cell BK473.out 9).trans rfl; have hcz83_10 : w82.cell? ⟨gb473, 10, none⟩ = some (.slice Ao81 x474010_1.length co81) := (blk_cell BK473.out 10).trans rfl; have hcz83_11 : w82.cell? ⟨gb473, 11, none⟩ = some (.int .i64 t468) := (blk_cell BK473.out 11).trans rfl; have hcz83_12 : w82.cell? ⟨gb473, 12, none⟩ = some (.string t469) := (blk_cell BK473.out 12).trans rfl; have hcz83_13 : w82.cell? ⟨gb473, 13, none⟩ = some (.string t470) := (blk_cell BK473.out 13).trans rfl; have hcz83_14 : w82.cell? ⟨gb473, 14, none⟩ = some (.string t471) := (blk_cell BK473.out 14).trans rfl; have hcz83_15 : w82.cell? ⟨gb473, 15, none⟩ = some (.int .i64 t472) := (blk_cell BK473.out 15).trans rfl; have hfz83_0 := blk_frozen BK473.out 0; have hfz83_1 := blk_frozen BK473.out 1; have hfz83_2 := blk_frozen BK473.out 2; have hfz83_3 := blk_frozen BK473.out 3; have hfz83_4 := blk_frozen BK473.out 4; have hfz83_5 := blk_frozen BK473.out 5; have hfz83_6 := blk_frozen BK473.out 6; have hfz83_7 := blk_frozen BK473.out 7; have hfz83_8 := blk_frozen BK473.out 8; have hfz83_9 := blk_frozen BK473.out 9; have hfz83_10 := blk_frozen BK473.out 10; have hfz83_11 := blk_frozen BK473.out 11; have hfz83_12 := blk_frozen BK473.out 12; have hfz83_13 := blk_frozen BK473.out 13; have hfz83_14 := blk_frozen BK473.out 14; have hfz83_15 := blk_frozen BK473.out 15) | (go_at_call 17; (with_reducible refine (system_Uses.calls t451 t452 t453 _ _ t454 _ _ t457 t460 t461 t462 t463 a3 _ _ x474010_1 t468 t469 t470 t471 t472 a1 t482 _ ?side1 ?side2 ?side3 ?side4 ?side5 ?side6 A50.out).mono ?_); (case side1 => repeat (first | exact (Kd.R_reads' HO_474003.out).2.2 | (with_reducible refine Kd.C_alloc ?_ _) | (with_reducible refine Kd.C_drewN ?_ _) | (with_reducible refine Kd.C_drew ?_))); (case side2 => exact (Kd.R_reads' HO_474003.out).2.1); (case side3 => repeat (first | exact (Kd.R_reads' HO_474004.out).2.2 | (with_reducible refine Kd.C_alloc ?_ _) | (with_reducible refine Kd.C_drewN ?_ _) | (with_reducible refine Kd.C_drew ?_))); (case side4 => exact (Kd.R_reads' HO_474004.out).2.1); (case side5 => repeat (first | exact (Kd.R_reads' HO_474010.out).2.2 | (with_reducible refine Kd.C_alloc ?_ _) | (with_reducible refine Kd.C_drewN ?_ _) | (with_reducible refine Kd.C_drew ?_))); (case side6 => exact (Kd.R_reads' HO_474010.out).2.1); rintro e w84 ⟨rfl, hb⟩; have n0_ := Aside0.mk (Kd.R_below (by (with_reducible repeat (first | apply Kd.R_alloc | apply Kd.R_drewN | apply Kd.R_drew)); exact HO_474003.out) hb); have n1_ := Aside0.mk (Kd.R_below (by (with_reducible repeat (first | apply Kd.R_alloc | apply Kd.R_drewN | apply Kd.R_drew)); exact HO_474004.out) hb); have n2_ := Aside0.mk (Kd.R_below (by (with_reducible repeat (first | apply Kd.R_alloc | apply Kd.R_drewN | apply Kd.R_drew)); exact HO_474010.out) hb); have n3_ := Aside0.mk (blk_below (g := gb473) (o := .cells #[.string t451, .string t452, .int .i64 t453, .slice Ao18 t454.length co18, .slice Ao19 t457.length co19, .string t460, .string t461, .string t462, .string t463, .bool a3, .slice Ao81 x474010_1.length co81, .int .i64 t468, .string t469, .string t470, .string t471, .int .i64 t472] 27 (0, 0)) (by (with_reducible repeat (first | refine blk_drewN ?_ _ | refine blk_drew ?_ | refine blk_alloc ?_ _)); exact BK473.out) hb); have n4_ := Aside0.mk (below_step (by repeat (first | (with_reducible first | exact HB.out | apply below_alloc | apply pw_below_drewN | apply below_drew1 | refine below_set ?_ GE473.out) | exact HB.out)) hb); clear HO_474003; clear HO_474004; clear HO_474010; clear BK473; clear HB; have HO_474003 := n0_; have HO_474004 := n1_; have HO_474010 := n2_; have BK473 := n3_; have HB := n4_; clear n0_ n1_ n2_ n3_ n4_; (try clear hb); (try clear hb2); (try clear hk); (try clear hi)) | (go_at_call 10; (with_reducible refine (fleuronlaw9_awake.calls  t486 _ A79.out ht_.out).mono ?_); rintro e w85 ⟨rfl, hb⟩; have n0_ := Aside0.mk (Kd.R_below (by (with_reducible repeat (first | apply Kd.R_alloc | apply Kd.R_drewN | apply Kd.R_drew)); exact HO_474003.out) hb); have n1_ := Aside0.mk (Kd.R_below (by (with_reducible repeat (first | apply Kd.R_alloc | apply Kd.R_drewN | apply Kd.R_drew)); exact HO_474004.out) hb); have n2_ := Aside0.mk (Kd.R_below (by (with_reducible repeat (first | apply Kd.R_alloc | apply Kd.R_drewN | apply Kd.R_drew)); exact HO_474010.out) hb); have n3_ := Aside0.mk (blk_below (g := gb473) (o := .cells #[.string t451, .string t452, .int .i64 t453, .slice Ao18 t454.length co18, .slice Ao19 t457.length co19, .string t460, .string t461, .string t462, .string t463, .bool a3, .slice Ao81 x474010_1.length co81, .int .i64 t468, .string t469, .string t470, .string t471, .int .i64 t472] 27 (0, 0)) (by (with_reducible repeat (first | refine blk_drewN ?_ _ | refine blk_drew ?_ | refine blk_alloc ?_ _)); exact BK473.out) hb); have n4_ := Aside0.mk (below_step (by repeat (first | (with_reducible first | exact HB.out | apply below_alloc | apply pw_below_drewN | apply below_drew1 | refine below_set ?_ GE473.out) | exact HB.out)) hb); clear HO_474003; clear HO_474004; clear HO_474010; clear BK473; clear HB; have HO_474003 := n0_; have HO_474004 := n1_; have HO_474010 := n2_; have BK473 := n3_; have HB := n4_; clear n0_ n1_ n2_ n3_ n4_; (try clear hb); (try clear hb2); (try clear hk); (try clear hi)))
                        go_ret
                        exact ⟨by first | rfl | (simp [errW_none, errW_some] <;> rfl) | (simp [*, errW_none, errW_some] <;> rfl), by repeat (first | (with_reducible first | exact HB.out | apply below_alloc | apply pw_below_drewN | apply below_drew1 | refine below_set ?_ GE473.out) | exact HB.out)⟩
                      · rw [if_neg c78] at H
                        have c78b0 : (t482 == false) = false := by simpa using c78
                        (try (have c78b1 : decide (t482 = false) = false := by simpa using c78))
                        (try (have c78b2 : (t482 == false) = false := by simpa using c78))
                        (try (have c78b3 : ¬ (t482 = false) := by simpa using c78))
                        clear c78
                        exact absurd ((Option.some.inj H).trans ht_.out) (by decide)
                  · rw [if_neg c49] at H
                    have c49b0 : (t481 == x12_40) = false := by simpa using c49
                    (try (have c49b1 : decide (t481 = x12_40) = false := by simpa using c49))
                    (try (have c49b2 : (t481 == x12_40) = false := by simpa using c49))
                    (try (have c49b3 : ¬ (t481 = x12_40) := by simpa using c49))
                    clear c49
                    exact absurd ((Option.some.inj H).trans ht_.out) (by decide)
      · rw [if_neg c10] at H
        exact absurd H (by simp)
    · rw [if_neg c9] at H
      exact absurd H (by simp)

/-- THE ONE PURE STATEMENT of fleuronlaw9_SystemRanges: yours. -/
def fleuronlaw9_SystemRanges.Pure : Prop := ∀ (a0 : Int) (a1 : Int) (l2 : List Int) (a3 : Bool), (Lit.int .i64 a0).wf = true → (Lit.int .i64 a1).wf = true → l2.length ≤ maxLen → l2.length * 8 ≤ 140737488351232 → (∀ x ∈ l2, (Lit.int .i64 x).wf = true) → ∃ k, fleuronlaw9_SystemRanges.f k a0 a1 l2 a3 = some true
theorem fleuronlaw9_SystemRanges.walk (P : fleuronlaw9_SystemRanges.Pure) (a0 : Int) (a1 : Int) (a2 : Option Addr) (len2 cap2 : Nat) (z2 : List Int) (a3 : Bool) (w : World) (w0 : (Lit.int .i64 a0).wf = true) (w1 : (Lit.int .i64 a1).wf = true) (w2 : (a2 = none ∧ len2 = 0 ∧ cap2 = 0 ∧ z2 = []) ∨ ∃ x, a2 = some x ∧ len2 ≤ cap2 ∧ cap2 ≤ maxLen ∧ z2.length = cap2 ∧ (∀ i, i < z2.length → w.cell? (x.add i) = some (.int .i64 (z2.getD i 0))) ∧ ∀ n ∈ z2, (Lit.int .i64 n).wf = true) (y2 : len2 * 8 ≤ 140737488351232) :
    Calls Try.prog 8 #[.int .i64 a0, .int .i64 a1, .slice a2 len2 cap2, .bool a3] w fun e w' => e = .returned (.bool true) ∧ Below w.heap.size w w' := by
  obtain ⟨l2, rfl, hr2, hm2, hw2, hc2⟩ := ReadsInt.ofRowC w2
  obtain ⟨k, h⟩ := P a0 a1 l2 a3 w0 w1 hm2 y2 hw2
  refine (fleuronlaw9_SystemRanges.calls k a0 a1 _ _ l2 a3 true w (Kd.C_of_reads (d := (0 : Int)) (h1 := fun _ => rfl) hr2) hc2 h rfl).mono ?_
  rintro e w' ⟨rfl, hd⟩
  exact ⟨rfl, hd⟩

end Go.Proofs.Ytalegejfellbdaa.Print
