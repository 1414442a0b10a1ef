/- Written by a program of this session out of the translation, with contracts given by hand beside. -/
import Derived.Test.YtalegejfellbdaaPrint0
import Derived.Test.YtalegejfellbdaaPrint11
import Derived.Test.YtalegejfellbdaaPrint12
import Derived.Test.YtalegejfellbdaaPrint15
namespace Go.Proofs.Ytalegejfellbdaa.Print
open Go.RowKit Go.Proofs.YtalegejfellbdaaW.PrintWords Go.Proofs.YtalegejfellbdaaW.PrintLast Go.Proofs.YtalegejfellbdaaW.PrintMore
attribute [local go_sem] max2_int min2_int max_two min_two max_three min_three max_four min_four   -- for this text's walks alone
set_option linter.unusedVariables false
set_option linter.unusedSimpArgs false

/-! ### fleuronlaw9_map2: function 14 -/
def fleuronlaw9_map2.f (a0 : Bool) : Option (Int) := if a0 = true then (some 1) else (some 0)
set_option maxHeartbeats 8000000 in
set_option maxRecDepth 100000 in
theorem fleuronlaw9_map2.calls (a0 : Bool) (r : Int) (w : World) (h : fleuronlaw9_map2.f a0 = some r) :
    Calls Try.prog 14 #[.bool a0] w fun e w' => e = .returned (.int .i64 r) ∧ Drawn0 w w' := by
  have H : (if a0 = true then (some 1) else (some 0)) = some r := h
  clear h
  by_cases c2 : a0 = true
  · subst c2
    have H1 : (some 1) = some r := by rw [if_pos rfl] at H; exact H
    clear H
    have H := H1
    clear H1
    obtain rfl := Option.some.inj H
    go_enter Try.func14, Try.ntmps14
    go_wp2
    go_ret
    exact ⟨by first | rfl | (simp; done) | (simp [*]; done), by repeat (first | exact Drawn0.refl _ | apply Drawn0.step)⟩
  · replace c2 := Bool.eq_false_iff.mpr c2
    subst c2
    have H1 : (some 0) = some r := by rw [if_neg (show ¬ (false = true) by decide)] at H; exact H
    clear H
    have H := H1
    clear H1
    obtain rfl := Option.some.inj H
    go_enter Try.func14, Try.ntmps14
    go_wp2
    go_ret
    exact ⟨by first | rfl | (simp; done) | (simp [*]; done), by repeat (first | exact Drawn0.refl _ | apply Drawn0.step)⟩

/-! ### fleuronlaw9_SystemSizes: function 4 -/
mutual
def fleuronlaw9_SystemSizes.j0 : Nat → Int → Bool → Bool → Bool → Option (Bool)
  | 0, _, _, _, _ => none
  | k + 1, x0, x1, x2, x17 => if x17 = true then ((fleuronlaw9_awake.f).bind fun t162 => (some t162)) else ((fleuronlaw9_made.f (⟨#[115, 121, 109, 98, 111, 108, 105, 99]⟩ : ByteArray) ([] : List ByteArray)).bind fun bt163 => (fleuronlaw9_SystemSizes.l0 k x0 x1 x2 0 bt163.1 bt163.2.1 bt163.2.2.1 bt163.2.2.2.1 bt163.2.2.2.2.1 bt163.2.2.2.2.2.1 bt163.2.2.2.2.2.2.1 bt163.2.2.2.2.2.2.2.1 bt163.2.2.2.2.2.2.2.2.1 bt163.2.2.2.2.2.2.2.2.2.1 bt163.2.2.2.2.2.2.2.2.2.2.1 bt163.2.2.2.2.2.2.2.2.2.2.2.1 bt163.2.2.2.2.2.2.2.2.2.2.2.2.1 bt163.2.2.2.2.2.2.2.2.2.2.2.2.2.1 bt163.2.2.2.2.2.2.2.2.2.2.2.2.2.2.1 bt163.2.2.2.2.2.2.2.2.2.2.2.2.2.2.2))
def fleuronlaw9_SystemSizes.l0 : Nat → Int → Bool → Bool → Int → ByteArray → ByteArray → Int → List ByteArray → List Int → ByteArray → ByteArray → ByteArray → ByteArray → Bool → List (S41) → Int → ByteArray → ByteArray → ByteArray → Int → Option (Bool)
  | 0, _, _, _, _, _, _, _, _, _, _, _, _, _, _, _, _, _, _, _, _ => none
  | k + 1, x0, x1, x2, x8, x186000, x186001, x186002, x186003, x186004, x186005, x186006, x186007, x186008, x186009, x186010, x186011, x186012, x186013, x186014, x186015 => if x8 < x0 then (if x186003.length < 8796093022208 then (fleuronlaw9_SystemSizes.l0 k x0 x1 x2 (wrap64 (x8 + 1)) x186000 x186001 x186002 (x186003 ++ [(⟨#[115]⟩ : ByteArray)]) x186004 x186005 x186006 x186007 x186008 x186009 x186010 x186011 x186012 x186013 x186014 x186015) else (none)) else (if x2 = true then ((fleuronlaw9_made.f (⟨#[97, 100, 100, 105, 116, 105, 118, 101]⟩ : ByteArray) (([(⟨#[120]⟩ : ByteArray), (⟨#[121]⟩ : ByteArray)] : List ByteArray))).bind fun bt192 => (fleuronlaw9_SystemSizes.j2 k x0 x1 x2 (wrap64 ((wrap64 ((wrap64 (1000 * x0)) * (wrap64 (60 - x0)))) + (wrap64 (x0 * x0)))) bt192.1 bt192.2.1 bt192.2.2.1 bt192.2.2.2.1 (([wrap64 (1000 * x0), x0] : List Int)) bt192.2.2.2.2.2.1 bt192.2.2.2.2.2.2.1 bt192.2.2.2.2.2.2.2.1 bt192.2.2.2.2.2.2.2.2.1 bt192.2.2.2.2.2.2.2.2.2.1 bt192.2.2.2.2.2.2.2.2.2.2.1 bt192.2.2.2.2.2.2.2.2.2.2.2.1 bt192.2.2.2.2.2.2.2.2.2.2.2.2.1 bt192.2.2.2.2.2.2.2.2.2.2.2.2.2.1 bt192.2.2.2.2.2.2.2.2.2.2.2.2.2.2.1 bt192.2.2.2.2.2.2.2.2.2.2.2.2.2.2.2)) else (fleuronlaw9_SystemSizes.j2 k x0 x1 x2 (wrap64 (60 * x0)) x186000 x186001 x186002 x186003 x186004 x186005 x186006 x186007 x186008 x186009 x186010 x186011 x186012 x186013 x186014 x186015))
def fleuronlaw9_SystemSizes.j2 : Nat → Int → Bool → Bool → Int → ByteArray → ByteArray → Int → List ByteArray → List Int → ByteArray → ByteArray → ByteArray → ByteArray → Bool → List (S41) → Int → ByteArray → ByteArray → ByteArray → Int → Option (Bool)
  | 0, _, _, _, _, _, _, _, _, _, _, _, _, _, _, _, _, _, _, _, _ => none
  | k + 1, x0, x1, x2, x9, x186000, x186001, x186002, x186003, x186004, x186005, x186006, x186007, x186008, x186009, x186010, x186011, x186012, x186013, x186014, x186015 => if x1 = true then (if x2 = true then ((system_Signs.f k x186000 x186001 x186002 x186003 x186004 x186005 x186006 x186007 x186008 x186009 x186010 x186011 x186012 x186013 x186014 x186015 (wrap64 (x9 + x0))).bind fun bt217 => (if (bt217.2 == (!x1)) = true then ((some (([0, 60] : List Int) : List Int)).bind fun y219 => ((fleuronlaw9_map2.f bt217.2).bind fun t222 => (if 0 ≤ t222 then (if t222 < (y219.length : Int) then (if (bt217.1.size : Int) = (rd y219 t222) then ((fleuronlaw9_awake.f).bind fun t224 => (some t224)) else (some false)) else (none)) else (none)))) else (some false))) else ((system_Signs.f k x186000 x186001 x186002 x186003 x186004 x186005 x186006 x186007 x186008 x186009 x186010 x186011 x186012 x186013 x186014 x186015 (wrap64 ((wrap64 (60 * x0)) + 1))).bind fun bt225 => (if (bt225.2 == (!x1)) = true then ((some (([0, 60] : List Int) : List Int)).bind fun y227 => ((fleuronlaw9_map2.f bt225.2).bind fun t230 => (if 0 ≤ t230 then (if t230 < (y227.length : Int) then (if (bt225.1.size : Int) = (rd y227 t230) then ((fleuronlaw9_awake.f).bind fun t232 => (some t232)) else (some false)) else (none)) else (none)))) else (some false)))) else ((system_Signs.f k x186000 x186001 x186002 x186003 x186004 x186005 x186006 x186007 x186008 x186009 x186010 x186011 x186012 x186013 x186014 x186015 x9).bind fun bt233 => (if (bt233.2 == (!x1)) = true then ((some (([0, 60] : List Int) : List Int)).bind fun y235 => ((fleuronlaw9_map2.f bt233.2).bind fun t238 => (if 0 ≤ t238 then (if t238 < (y235.length : Int) then (if (bt233.1.size : Int) = (rd y235 t238) then ((fleuronlaw9_awake.f).bind fun t240 => (some t240)) else (some false)) else (none)) else (none)))) else (some false)))
end
def fleuronlaw9_SystemSizes.f (k : Nat) (a0 : Int) (a1 : Bool) (a2 : Bool) : Option (Bool) := if a0 < 1 then (fleuronlaw9_SystemSizes.j0 k a0 a1 a2 true) else (fleuronlaw9_SystemSizes.j0 k a0 a1 a2 (decide (a0 > 20)))
theorem fleuronlaw9_SystemSizes.mono_l : ∀ k, (∀ y0 y1 y2 y3, LeO (fleuronlaw9_SystemSizes.j0 k y0 y1 y2 y3) (fleuronlaw9_SystemSizes.j0 (k + 1) y0 y1 y2 y3)) ∧ (∀ y0 y1 y2 y3 y4 y5 y6 y7 y8 y9 y10 y11 y12 y13 y14 y15 y16 y17 y18 y19, LeO (fleuronlaw9_SystemSizes.l0 k y0 y1 y2 y3 y4 y5 y6 y7 y8 y9 y10 y11 y12 y13 y14 y15 y16 y17 y18 y19) (fleuronlaw9_SystemSizes.l0 (k + 1) y0 y1 y2 y3 y4 y5 y6 y7 y8 y9 y10 y11 y12 y13 y14 y15 y16 y17 y18 y19)) ∧ (∀ y0 y1 y2 y3 y4 y5 y6 y7 y8 y9 y10 y11 y12 y13 y14 y15 y16 y17 y18 y19, LeO (fleuronlaw9_SystemSizes.j2 k y0 y1 y2 y3 y4 y5 y6 y7 y8 y9 y10 y11 y12 y13 y14 y15 y16 y17 y18 y19) (fleuronlaw9_SystemSizes.j2 (k + 1) y0 y1 y2 y3 y4 y5 y6 y7 y8 y9 y10 y11 y12 y13 y14 y15 y16 y17 y18 y19))
  | 0 => ⟨fun _ _ _ _ r h => by simp [fleuronlaw9_SystemSizes.j0] at h, fun _ _ _ _ _ _ _ _ _ _ _ _ _ _ _ _ _ _ _ _ r h => by simp [fleuronlaw9_SystemSizes.l0] at h, fun _ _ _ _ _ _ _ _ _ _ _ _ _ _ _ _ _ _ _ _ r h => by simp [fleuronlaw9_SystemSizes.j2] at h⟩
  | k + 1 => by
    obtain ⟨ih0, ih1, ih2⟩ := fleuronlaw9_SystemSizes.mono_l k
    refine ⟨?_, ?_, ?_⟩
    · intro y0 y1 y2 y3
      unfold fleuronlaw9_SystemSizes.j0
      repeat' first
      | (with_reducible exact ih0 _ _ _ _)
      | (with_reducible exact ih1 _ _ _ _ _ _ _ _ _ _ _ _ _ _ _ _ _ _ _ _)
      | (with_reducible exact ih2 _ _ _ _ _ _ _ _ _ _ _ _ _ _ _ _ _ _ _ _)
      | (with_reducible exact system_Signs.mono _ _ _ _ _ _ _ _ _ _ _ _ _ _ _ _ _ _)
      | (with_reducible exact LeO.refl _)
      | (with_reducible exact LeO.none _)
      | (with_reducible refine LeO.ite ?_ ?_)
      | (with_reducible refine LeO.bind ?_ (fun _ => ?_))
      | exact ih0 _ _ _ _
      | exact ih1 _ _ _ _ _ _ _ _ _ _ _ _ _ _ _ _ _ _ _ _
      | exact ih2 _ _ _ _ _ _ _ _ _ _ _ _ _ _ _ _ _ _ _ _
      | exact system_Signs.mono _ _ _ _ _ _ _ _ _ _ _ _ _ _ _ _ _ _
      | exact LeO.none _
      | refine LeO.ite ?_ ?_
      | refine LeO.bind ?_ (fun _ => ?_)
    · intro y0 y1 y2 y3 y4 y5 y6 y7 y8 y9 y10 y11 y12 y13 y14 y15 y16 y17 y18 y19
      unfold fleuronlaw9_SystemSizes.l0
      repeat' first
      | (with_reducible exact ih0 _ _ _ _)
      | (with_reducible exact ih1 _ _ _ _ _ _ _ _ _ _ _ _ _ _ _ _ _ _ _ _)
      | (with_reducible exact ih2 _ _ _ _ _ _ _ _ _ _ _ _ _ _ _ _ _ _ _ _)
      | (with_reducible exact system_Signs.mono _ _ _ _ _ _ _ _ _ _ _ _ _ _ _ _ _ _)
      | (with_reducible exact LeO.refl _)
      | (with_reducible exact LeO.none _)
      | (with_reducible refine LeO.ite ?_ ?_)
      | (with_reducible refine LeO.bind ?_ (fun _ => ?_))
      | exact ih0 _ _ _ _
      | exact ih1 _ _ _ _ _ _ _ _ _ _ _ _ _ _ _ _ _ _ _ _
      | exact ih2 _ _ _ _ _ _ _ _ _ _ _ _ _ _ _ _ _ _ _ _
      | exact system_Signs.mono _ _ _ _ _ _ _ _ _ _ _ _ _ _ _ _ _ _
      | exact LeO.none _
      | refine LeO.ite ?_ ?_
      | refine LeO.bind ?_ (fun _ => ?_)
    · intro y0 y1 y2 y3 y4 y5 y6 y7 y8 y9 y10 y11 y12 y13 y14 y15 y16 y17 y18 y19
      unfold fleuronlaw9_SystemSizes.j2
      repeat' first
      | (with_reducible exact ih0 _ _ _ _)
      | (with_reducible exact ih1 _ _ _ _ _ _ _ _ _ _ _ _ _ _ _ _ _ _ _ _)
      | (with_reducible exact ih2 _ _ _ _ _ _ _ _ _ _ _ _ _ _ _ _ _ _ _ _)
      | (with_reducible exact system_Signs.mono _ _ _ _ _ _ _ _ _ _ _ _ _ _ _ _ _ _)
      | (with_reducible exact LeO.refl _)
      | (with_reducible exact LeO.none _)
      | (with_reducible refine LeO.ite ?_ ?_)
      | (with_reducible refine LeO.bind ?_ (fun _ => ?_))
      | exact ih0 _ _ _ _
      | exact ih1 _ _ _ _ _ _ _ _ _ _ _ _ _ _ _ _ _ _ _ _
      | exact ih2 _ _ _ _ _ _ _ _ _ _ _ _ _ _ _ _ _ _ _ _
      | exact system_Signs.mono _ _ _ _ _ _ _ _ _ _ _ _ _ _ _ _ _ _
      | exact LeO.none _
      | refine LeO.ite ?_ ?_
      | refine LeO.bind ?_ (fun _ => ?_)
theorem fleuronlaw9_SystemSizes.mono : ∀ a0 a1 a2 k, LeO (fleuronlaw9_SystemSizes.f k a0 a1 a2) (fleuronlaw9_SystemSizes.f (k + 1) a0 a1 a2) := by
  intro a0 a1 a2 k
  obtain ⟨ih0, ih1, ih2⟩ := fleuronlaw9_SystemSizes.mono_l k
  unfold fleuronlaw9_SystemSizes.f
  repeat' first
      | (with_reducible exact ih0 _ _ _ _)
      | (with_reducible exact ih1 _ _ _ _ _ _ _ _ _ _ _ _ _ _ _ _ _ _ _ _)
      | (with_reducible exact ih2 _ _ _ _ _ _ _ _ _ _ _ _ _ _ _ _ _ _ _ _)
      | (with_reducible exact system_Signs.mono _ _ _ _ _ _ _ _ _ _ _ _ _ _ _ _ _ _)
      | (with_reducible exact LeO.refl _)
      | (with_reducible exact LeO.none _)
      | (with_reducible refine LeO.ite ?_ ?_)
      | (with_reducible refine LeO.bind ?_ (fun _ => ?_))
      | exact ih0 _ _ _ _
      | exact ih1 _ _ _ _ _ _ _ _ _ _ _ _ _ _ _ _ _ _ _ _
      | exact ih2 _ _ _ _ _ _ _ _ _ _ _ _ _ _ _ _ _ _ _ _
      | exact system_Signs.mono _ _ _ _ _ _ _ _ _ _ _ _ _ _ _ _ _ _
      | exact LeO.none _
      | refine LeO.ite ?_ ?_
      | refine LeO.bind ?_ (fun _ => ?_)
set_option maxHeartbeats 8000000 in
set_option maxRecDepth 100000 in
theorem fleuronlaw9_SystemSizes.calls (k : Nat) (a0 : Int) (a1 : Bool) (a2 : Bool) (r : Bool) (w : World) (h : fleuronlaw9_SystemSizes.f k a0 a1 a2 = some r) (ht0_ : r = true) :
    Calls Try.prog 4 #[.int .i64 a0, .bool a1, .bool a2] w fun e w' => e = .returned (.bool r) ∧ Below w.heap.size w w' := by
  have hu27 := Try.underlying27
  have HB := Aside0.mk (Below.refl w.heap.size w)
  have H : (if a0 < 1 then (fleuronlaw9_SystemSizes.j0 k a0 a1 a2 true) else (fleuronlaw9_SystemSizes.j0 k a0 a1 a2 (decide (a0 > 20)))) = some r := h
  clear h
  have ht_ := Aside0.mk ht0_
  clear ht0_
  have HC4 := Aside0.mk H
  clear H
  go_enter Try.func4, Try.ntmps4
  go_upto_region 1 with (fail)
  go_cut [17] (fun v17 wc => ∃ (kq : Nat) (x17_3 : Bool), v17 = .bool x17_3 ∧ Aside0 (fleuronlaw9_SystemSizes.j0 kq a0 a1 a2 x17_3 = some r) ∧ Aside0 (kq ≤ k) ∧ Aside0 (Below w.heap.size w wc))
  case first =>
    have H := HC4.out
    clear HC4
    by_cases c5 : a0 < 1
    · rw [if_pos c5] at H
      have c5b0 : decide (a0 < 1) = true := decide_eq_true c5
      clear c5
      (first | rw [c5b0] | (simp only [i64_w, i32_w]; rw [c5b0]) | skip)
      have H' := Aside0.mk H
      clear H
      go_wp2
      go_meet
      case rel => exact ⟨_, (true), (by first | rfl | (simp; done) | (simp [*]; done)), H', ⟨by first | omega | exact Nat.le_refl _⟩, ⟨by repeat (first | (with_reducible first | exact HB.out | apply below_alloc | apply pw_below_drewN | apply below_drew1) | exact HB.out)⟩⟩
    · rw [if_neg c5] at H
      have c5b0 : decide (a0 < 1) = false := decide_eq_false c5
      clear c5
      (first | rw [c5b0] | (simp only [i64_w, i32_w]; rw [c5b0]) | skip)
      have H' := Aside0.mk H
      clear H
      go_wp2
      go_meet
      case rel => exact ⟨_, (decide (a0 > 20)), (by first | rfl | (simp; done) | (simp [*]; done)), H', ⟨by first | omega | exact Nat.le_refl _⟩, ⟨by repeat (first | (with_reducible first | exact HB.out | apply below_alloc | apply pw_below_drewN | apply below_drew1) | exact HB.out)⟩⟩
  case rest =>
    clear HC4
    try clear p2
    try clear c4
    try clear c5
    try clear c5b0
    obtain ⟨kq, x17_3, rfl, HA, HJ3, HB⟩ := hcut
    cases kq with
    | zero => exact absurd HA.out (by simp [fleuronlaw9_SystemSizes.j0])
    | succ kj3 =>
      have H := HA.out
      clear HA
      simp only [fleuronlaw9_SystemSizes.j0] at H
      by_cases c6 : x17_3 = true
      · subst c6
        have H1 : ((fleuronlaw9_awake.f).bind fun t162 => (some t162)) = some r := by rw [if_pos rfl] at H; exact H
        clear H
        have H := H1
        clear H1
        replace H := Option.bind_eq_some_iff.mp H
        obtain ⟨t162, A70, H⟩ := H
        replace H : (some t162) = some r := H
        have A7 := Aside0.mk A70
        clear A70
        obtain rfl := Option.some.inj H
        go_wp2_with (first | ((with_reducible refine gate_callee (f := 10) rfl ?_); refine goesL_ (some 18) rfl rfl Try.func10 (by kernel_rfl) rfl #[] rfl (by (try simp only [List.map_toArray, List.map_cons, List.map_nil]); first | done | rfl | (simp only [List.length_drop, List.length_take]; rfl)) ?_; (with_reducible refine (fleuronlaw9_awake.calls  t162 _ A7.out ht_.out).mono ?_); rintro e w8 ⟨rfl, hb⟩; refine ⟨_, rfl, ?_⟩; have n0_ := Aside0.mk (below_step (by repeat (first | (with_reducible first | exact HB.out | apply below_alloc | apply pw_below_drewN | apply below_drew1) | exact HB.out)) hb); clear HB; have HB := n0_; clear n0_; (try clear hb); (try clear hb2); (try clear hk); (try clear hi)))
        go_ret
        exact ⟨by first | rfl | (simp [errW_none, errW_some] <;> rfl) | (simp [*, errW_none, errW_some] <;> rfl), by repeat (first | (with_reducible first | exact HB.out | apply below_alloc | apply pw_below_drewN | apply below_drew1) | exact HB.out)⟩
      · replace c6 := Bool.eq_false_iff.mpr c6
        subst c6
        have H1 : ((fleuronlaw9_made.f (⟨#[115, 121, 109, 98, 111, 108, 105, 99]⟩ : ByteArray) ([] : List ByteArray)).bind fun bt163 => (fleuronlaw9_SystemSizes.l0 kj3 a0 a1 a2 0 bt163.1 bt163.2.1 bt163.2.2.1 bt163.2.2.2.1 bt163.2.2.2.2.1 bt163.2.2.2.2.2.1 bt163.2.2.2.2.2.2.1 bt163.2.2.2.2.2.2.2.1 bt163.2.2.2.2.2.2.2.2.1 bt163.2.2.2.2.2.2.2.2.2.1 bt163.2.2.2.2.2.2.2.2.2.2.1 bt163.2.2.2.2.2.2.2.2.2.2.2.1 bt163.2.2.2.2.2.2.2.2.2.2.2.2.1 bt163.2.2.2.2.2.2.2.2.2.2.2.2.2.1 bt163.2.2.2.2.2.2.2.2.2.2.2.2.2.2.1 bt163.2.2.2.2.2.2.2.2.2.2.2.2.2.2.2)) = some r := by rw [if_neg (show ¬ (false = true) by decide)] at H; exact H
        clear H
        have H := H1
        clear H1
        replace H := Option.bind_eq_some_iff.mp H
        obtain ⟨⟨t163, t164, t165, t166, t169, t172, t173, t174, t175, t176, t177, t180, t181, t182, t183, t184⟩, A90, H⟩ := H
        replace H : (fleuronlaw9_SystemSizes.l0 kj3 a0 a1 a2 0 t163 t164 t165 t166 t169 t172 t173 t174 t175 t176 t177 t180 t181 t182 t183 t184) = some r := H
        have A9 := Aside0.mk A90
        clear A90
        have H' := Aside0.mk H
        clear H
        go_wp2_with (first | ((with_reducible refine gate_callee (f := 13) rfl ?_); refine goesL_ (some 19) rfl rfl Try.func13 (by kernel_rfl) rfl #[.string (⟨#[115, 121, 109, 98, 111, 108, 105, 99]⟩ : ByteArray), .slice none 0 0] rfl (by (try simp only [List.map_toArray, List.map_cons, List.map_nil]); first | done | rfl | (simp only [List.length_drop, List.length_take]; rfl)) ?_; (refine (fleuronlaw9_made.calls (⟨#[115, 121, 109, 98, 111, 108, 105, 99]⟩ : ByteArray) (fun k_ => some k_ = (.slice none 0 0 : Value).ownBlock) (.slice none 0 0) ([] : List ByteArray) t163 t164 t165 t166 t169 t172 t173 t174 t175 t176 t177 t180 t181 t182 t183 t184 w _ ?side1 ?side2 A9.out).mono ?_); (case side1 => repeat (first | (with_reducible first | exact HB.out | apply below_alloc | apply pw_below_drewN | apply below_drew1) | exact HB.out)); (case side2 => exact Kd.R_nil _ _ _ _ _); rintro e w10 ⟨v167, v170, v178, rfl, ho0, ho1, ho2, hb, hkp⟩; refine ⟨_, rfl, ?_⟩; have n0_ := Aside0.mk (Kd.R_mono (ok' := fun k_ => True) ho0 (fun k_ hk_ => trivial)); have n1_ := Aside0.mk (Kd.R_mono (ok' := fun k_ => True) ho1 (fun k_ hk_ => trivial)); have n2_ := Aside0.mk (Kd.R_mono (ok' := fun k_ => True) ho2 (fun k_ hk_ => trivial)); have n3_ := Aside0.mk (hb); clear HB; have HO168 := n0_; have HO171 := n1_; have HO179 := n2_; have HB := n3_; clear n0_ n1_ n2_ n3_; (try clear hb); (try clear hkp); (try clear ho0); (try clear ho1); (try clear ho2)) | ((with_reducible refine gate_dst (N := 7) rfl ?_); (try (refine gate_guard (by rfl) ?_; dsimp only)); refine box_event ?hg (N := 7) ?hd (cs := #[.string (⟨#[]⟩ : ByteArray), .string (⟨#[]⟩ : ByteArray), .int .i64 0, .slice none 0 0, .slice none 0 0, .string (⟨#[]⟩ : ByteArray), .string (⟨#[]⟩ : ByteArray), .string (⟨#[]⟩ : ByteArray), .string (⟨#[]⟩ : ByteArray), .bool false, .slice none 0 0, .int .i64 0, .string (⟨#[]⟩ : ByteArray), .string (⟨#[]⟩ : ByteArray), .string (⟨#[]⟩ : ByteArray), .int .i64 0]) (t := 27) ?hr ?_; (case hd => rfl); (case hg => rfl); (case hr => first | (go_simp; done) | (go_simp; rfl)); intro gb185 hg w11 hbox hb; have n0_ := Aside0.mk (Kd.R_below (by (with_reducible repeat (first | apply Kd.R_alloc | apply Kd.R_drewN | apply Kd.R_drew)); exact HO168.out) hb); have n1_ := Aside0.mk (Kd.R_below (by (with_reducible repeat (first | apply Kd.R_alloc | apply Kd.R_drewN | apply Kd.R_drew)); exact HO171.out) hb); have n2_ := Aside0.mk (Kd.R_below (by (with_reducible repeat (first | apply Kd.R_alloc | apply Kd.R_drewN | apply Kd.R_drew)); exact HO179.out) hb); have n3_ := Aside0.mk (below_step (by repeat (first | (with_reducible first | exact HB.out | apply below_alloc | apply pw_below_drewN | apply below_drew1) | exact HB.out)) hb); have n4_ := Aside0.mk (hbox); have n5_ := Aside0.mk ((by rw [hg]; exact (below_size (by repeat (first | (with_reducible first | exact HB.out | apply below_alloc | apply pw_below_drewN | apply below_drew1) | exact HB.out))) : w.heap.size ≤ gb185)); have n6_ := Aside0.mk ((by rw [hg]; exact (below_size (by repeat (first | (with_reducible first | exact HB.out | apply below_alloc | apply pw_below_drewN | apply below_drew1) | exact HB.out))) : w.heap.size ≤ gb185)); clear HO168; clear HO171; clear HO179; clear HB; have HO168 := n0_; have HO171 := n1_; have HO179 := n2_; have HB := n3_; have BK185 := n4_; have GW185 := n5_; have GE185 := n6_; clear n0_ n1_ n2_ n3_ n4_ n5_ n6_; clear hb hbox hg; have hcz12_0 : w11.cell? ⟨gb185, 0, none⟩ = some (.string (⟨#[]⟩ : ByteArray)) := (blk_cell BK185.out 0).trans rfl; have hcz12_1 : w11.cell? ⟨gb185, 1, none⟩ = some (.string (⟨#[]⟩ : ByteArray)) := (blk_cell BK185.out 1).trans rfl; have hcz12_2 : w11.cell? ⟨gb185, 2, none⟩ = some (.int .i64 0) := (blk_cell BK185.out 2).trans rfl; have hcz12_3 : w11.cell? ⟨gb185, 3, none⟩ = some (.slice none 0 0) := (blk_cell BK185.out 3).trans rfl; have hcz12_4 : w11.cell? ⟨gb185, 4, none⟩ = some (.slice none 0 0) := (blk_cell BK185.out 4).trans rfl; have hcz12_5 : w11.cell? ⟨gb185, 5, none⟩ = some (.string (⟨#[]⟩ : ByteArray)) := (blk_cell BK185.out 5).trans rfl; have hcz12_6 : w11.cell? ⟨gb185, 6, none⟩ = some (.string (⟨#[]⟩ : ByteArray)) := (blk_cell BK185.out 6).trans rfl; have hcz12_7 : w11.cell? ⟨gb185, 7, none⟩ = some (.string (⟨#[]⟩ : ByteArray)) := (blk_cell BK185.out 7).trans rfl; have hcz12_8 : w11.cell? ⟨gb185, 8, none⟩ = some (.string (⟨#[]⟩ : ByteArray)) := (blk_cell BK185.out 8).trans rfl; have hcz12_9 : w11.cell? ⟨gb185, 9, none⟩ = some (.bool false) := (blk_cell BK185.out 9).trans rfl; have hcz12_10 : w11.cell? ⟨gb185, 10, none⟩ = some (.slice none 0 0) := (blk_cell BK185.out 10).trans rfl; have hcz12_11 : w11.cell? ⟨gb185, 11, none⟩ = some (.int .i64 0) := (blk_cell BK185.out 11).trans rfl; have hcz12_12 : w11.cell? ⟨gb185, 12, none⟩ = some (.string (⟨#[]⟩ : ByteArray)) := (blk_cell BK185.out 12).trans rfl; have hcz12_13 : w11.cell? ⟨gb185, 13, none⟩ = some (.string (⟨#[]⟩ : ByteArray)) := (blk_cell BK185.out 13).trans rfl; have hcz12_14 : w11.cell? ⟨gb185, 14, none⟩ = some (.string (⟨#[]⟩ : ByteArray)) := (blk_cell BK185.out 14).trans rfl; have hcz12_15 : w11.cell? ⟨gb185, 15, none⟩ = some (.int .i64 0) := (blk_cell BK185.out 15).trans rfl; have hfz12_0 := blk_frozen BK185.out 0; have hfz12_1 := blk_frozen BK185.out 1; have hfz12_2 := blk_frozen BK185.out 2; have hfz12_3 := blk_frozen BK185.out 3; have hfz12_4 := blk_frozen BK185.out 4; have hfz12_5 := blk_frozen BK185.out 5; have hfz12_6 := blk_frozen BK185.out 6; have hfz12_7 := blk_frozen BK185.out 7; have hfz12_8 := blk_frozen BK185.out 8; have hfz12_9 := blk_frozen BK185.out 9; have hfz12_10 := blk_frozen BK185.out 10; have hfz12_11 := blk_frozen BK185.out 11; have hfz12_12 := blk_frozen BK185.out 12; have hfz12_13 := blk_frozen BK185.out 13; have hfz12_14 := blk_frozen BK185.out 14; have hfz12_15 := blk_frozen BK185.out 15; obtain ⟨Ao13, co13, eo13⟩ := Kd.R_slice HO168.out; subst eo13; obtain ⟨Ao14, co14, eo14⟩ := Kd.R_slice HO171.out; subst eo14; obtain ⟨Ao15, co15, eo15⟩ := Kd.R_slice HO179.out; subst eo15))
        go_loopg [8] kj3 (fun kq v8 w' => ∃ (x8_2 : Int) (x186003_2 : List ByteArray) (u186003 : Value), v8 = .int .i64 x8_2 ∧ Aside0 (fleuronlaw9_SystemSizes.l0 kq a0 a1 a2 x8_2 t163 t164 t165 x186003_2 t169 t172 t173 t174 t175 t176 t177 t180 t181 t182 t183 t184 = some r) ∧ Aside0 (kq ≤ kj3) ∧ Aside0 (Kd.R Kd.string 9 w' w.heap.size (fun _ => True) u186003 x186003_2) ∧ Aside0 (Kd.R (Kd.int .i64) 3 w' w.heap.size (fun _ => True) (.slice Ao14 t169.length co14) t169) ∧ Aside0 (Kd.R k41 41 w' w.heap.size (fun _ => True) (.slice Ao15 t177.length co15) t177) ∧ Aside0 (w'.heap[gb185]? = some (.cells #[.string t163, .string t164, .int .i64 t165, u186003, (.slice Ao14 t169.length co14), .string t172, .string t173, .string t174, .string t175, .bool t176, (.slice Ao15 t177.length co15), .int .i64 t180, .string t181, .string t182, .string t183, .int .i64 t184] 27 (0, 0))) ∧ Aside0 (Below w.heap.size w w'))
        case atStart => exact ⟨(0), (t166), (.slice Ao13 t166.length co13), (by first | rfl | (simp; done) | (simp [*]; done)), H', ⟨Nat.le_refl _⟩, ⟨by (with_reducible repeat (first | apply Kd.R_alloc | apply Kd.R_drewN | apply Kd.R_drew)); exact Kd.R_mono (Kd.R_far (p := ⟨gb185, 15, none⟩) (Kd.R_far (p := ⟨gb185, 14, none⟩) (Kd.R_far (p := ⟨gb185, 13, none⟩) (Kd.R_far (p := ⟨gb185, 12, none⟩) (Kd.R_far (p := ⟨gb185, 11, none⟩) (Kd.R_far (p := ⟨gb185, 10, none⟩) (Kd.R_far (p := ⟨gb185, 9, none⟩) (Kd.R_far (p := ⟨gb185, 8, none⟩) (Kd.R_far (p := ⟨gb185, 7, none⟩) (Kd.R_far (p := ⟨gb185, 6, none⟩) (Kd.R_far (p := ⟨gb185, 5, none⟩) (Kd.R_far (p := ⟨gb185, 4, none⟩) (Kd.R_far (p := ⟨gb185, 3, none⟩) (Kd.R_far (p := ⟨gb185, 2, none⟩) (Kd.R_far (p := ⟨gb185, 1, none⟩) (Kd.R_far (p := ⟨gb185, 0, none⟩) (Kd.R_types HO168.out BK185.out (by decide)) (fun _ hk => hk.2) (.string t163)) (fun _ hk => hk.2) (.string t164)) (fun _ hk => hk.2) (.int .i64 t165)) (fun _ hk => hk.2) (.slice Ao13 t166.length co13)) (fun _ hk => hk.2) (.slice Ao14 t169.length co14)) (fun _ hk => hk.2) (.string t172)) (fun _ hk => hk.2) (.string t173)) (fun _ hk => hk.2) (.string t174)) (fun _ hk => hk.2) (.string t175)) (fun _ hk => hk.2) (.bool t176)) (fun _ hk => hk.2) (.slice Ao15 t177.length co15)) (fun _ hk => hk.2) (.int .i64 t180)) (fun _ hk => hk.2) (.string t181)) (fun _ hk => hk.2) (.string t182)) (fun _ hk => hk.2) (.string t183)) (fun _ hk => hk.2) (.int .i64 t184)) (fun _ hk => by first | exact trivial | simp [hk])⟩, ⟨by (with_reducible repeat (first | apply Kd.R_alloc | apply Kd.R_drewN | apply Kd.R_drew)); exact Kd.R_mono (Kd.R_far (p := ⟨gb185, 15, none⟩) (Kd.R_far (p := ⟨gb185, 14, none⟩) (Kd.R_far (p := ⟨gb185, 13, none⟩) (Kd.R_far (p := ⟨gb185, 12, none⟩) (Kd.R_far (p := ⟨gb185, 11, none⟩) (Kd.R_far (p := ⟨gb185, 10, none⟩) (Kd.R_far (p := ⟨gb185, 9, none⟩) (Kd.R_far (p := ⟨gb185, 8, none⟩) (Kd.R_far (p := ⟨gb185, 7, none⟩) (Kd.R_far (p := ⟨gb185, 6, none⟩) (Kd.R_far (p := ⟨gb185, 5, none⟩) (Kd.R_far (p := ⟨gb185, 4, none⟩) (Kd.R_far (p := ⟨gb185, 3, none⟩) (Kd.R_far (p := ⟨gb185, 2, none⟩) (Kd.R_far (p := ⟨gb185, 1, none⟩) (Kd.R_far (p := ⟨gb185, 0, none⟩) (Kd.R_types HO171.out BK185.out (by decide)) (fun _ hk => hk.2) (.string t163)) (fun _ hk => hk.2) (.string t164)) (fun _ hk => hk.2) (.int .i64 t165)) (fun _ hk => hk.2) (.slice Ao13 t166.length co13)) (fun _ hk => hk.2) (.slice Ao14 t169.length co14)) (fun _ hk => hk.2) (.string t172)) (fun _ hk => hk.2) (.string t173)) (fun _ hk => hk.2) (.string t174)) (fun _ hk => hk.2) (.string t175)) (fun _ hk => hk.2) (.bool t176)) (fun _ hk => hk.2) (.slice Ao15 t177.length co15)) (fun _ hk => hk.2) (.int .i64 t180)) (fun _ hk => hk.2) (.string t181)) (fun _ hk => hk.2) (.string t182)) (fun _ hk => hk.2) (.string t183)) (fun _ hk => hk.2) (.int .i64 t184)) (fun _ hk => by first | exact trivial | simp [hk])⟩, ⟨by (with_reducible repeat (first | apply Kd.R_alloc | apply Kd.R_drewN | apply Kd.R_drew)); exact Kd.R_mono (Kd.R_far (p := ⟨gb185, 15, none⟩) (Kd.R_far (p := ⟨gb185, 14, none⟩) (Kd.R_far (p := ⟨gb185, 13, none⟩) (Kd.R_far (p := ⟨gb185, 12, none⟩) (Kd.R_far (p := ⟨gb185, 11, none⟩) (Kd.R_far (p := ⟨gb185, 10, none⟩) (Kd.R_far (p := ⟨gb185, 9, none⟩) (Kd.R_far (p := ⟨gb185, 8, none⟩) (Kd.R_far (p := ⟨gb185, 7, none⟩) (Kd.R_far (p := ⟨gb185, 6, none⟩) (Kd.R_far (p := ⟨gb185, 5, none⟩) (Kd.R_far (p := ⟨gb185, 4, none⟩) (Kd.R_far (p := ⟨gb185, 3, none⟩) (Kd.R_far (p := ⟨gb185, 2, none⟩) (Kd.R_far (p := ⟨gb185, 1, none⟩) (Kd.R_far (p := ⟨gb185, 0, none⟩) (Kd.R_types HO179.out BK185.out (by decide)) (fun _ hk => hk.2) (.string t163)) (fun _ hk => hk.2) (.string t164)) (fun _ hk => hk.2) (.int .i64 t165)) (fun _ hk => hk.2) (.slice Ao13 t166.length co13)) (fun _ hk => hk.2) (.slice Ao14 t169.length co14)) (fun _ hk => hk.2) (.string t172)) (fun _ hk => hk.2) (.string t173)) (fun _ hk => hk.2) (.string t174)) (fun _ hk => hk.2) (.string t175)) (fun _ hk => hk.2) (.bool t176)) (fun _ hk => hk.2) (.slice Ao15 t177.length co15)) (fun _ hk => hk.2) (.int .i64 t180)) (fun _ hk => hk.2) (.string t181)) (fun _ hk => hk.2) (.string t182)) (fun _ hk => hk.2) (.string t183)) (fun _ hk => hk.2) (.int .i64 t184)) (fun _ hk => by first | exact trivial | simp [hk])⟩, ⟨by (with_reducible repeat (first | refine blk_drewN ?_ _ | refine blk_drew ?_ | refine blk_alloc ?_ _)); refine blk_put (cs := #[.string t163, .string t164, .int .i64 t165, .slice Ao13 t166.length co13, .slice Ao14 t169.length co14, .string t172, .string t173, .string t174, .string t175, .bool t176, .slice Ao15 t177.length co15, .int .i64 t180, .string t181, .string t182, .string t183, .int .i64 0]) ?_ 15 _ rfl; (with_reducible repeat (first | refine blk_drewN ?_ _ | refine blk_drew ?_ | refine blk_alloc ?_ _)); refine blk_put (cs := #[.string t163, .string t164, .int .i64 t165, .slice Ao13 t166.length co13, .slice Ao14 t169.length co14, .string t172, .string t173, .string t174, .string t175, .bool t176, .slice Ao15 t177.length co15, .int .i64 t180, .string t181, .string t182, .string (⟨#[]⟩ : ByteArray), .int .i64 0]) ?_ 14 _ rfl; (with_reducible repeat (first | refine blk_drewN ?_ _ | refine blk_drew ?_ | refine blk_alloc ?_ _)); refine blk_put (cs := #[.string t163, .string t164, .int .i64 t165, .slice Ao13 t166.length co13, .slice Ao14 t169.length co14, .string t172, .string t173, .string t174, .string t175, .bool t176, .slice Ao15 t177.length co15, .int .i64 t180, .string t181, .string (⟨#[]⟩ : ByteArray), .string (⟨#[]⟩ : ByteArray), .int .i64 0]) ?_ 13 _ rfl; (with_reducible repeat (first | refine blk_drewN ?_ _ | refine blk_drew ?_ | refine blk_alloc ?_ _)); refine blk_put (cs := #[.string t163, .string t164, .int .i64 t165, .slice Ao13 t166.length co13, .slice Ao14 t169.length co14, .string t172, .string t173, .string t174, .string t175, .bool t176, .slice Ao15 t177.length co15, .int .i64 t180, .string (⟨#[]⟩ : ByteArray), .string (⟨#[]⟩ : ByteArray), .string (⟨#[]⟩ : ByteArray), .int .i64 0]) ?_ 12 _ rfl; (with_reducible repeat (first | refine blk_drewN ?_ _ | refine blk_drew ?_ | refine blk_alloc ?_ _)); refine blk_put (cs := #[.string t163, .string t164, .int .i64 t165, .slice Ao13 t166.length co13, .slice Ao14 t169.length co14, .string t172, .string t173, .string t174, .string t175, .bool t176, .slice Ao15 t177.length co15, .int .i64 0, .string (⟨#[]⟩ : ByteArray), .string (⟨#[]⟩ : ByteArray), .string (⟨#[]⟩ : ByteArray), .int .i64 0]) ?_ 11 _ rfl; (with_reducible repeat (first | refine blk_drewN ?_ _ | refine blk_drew ?_ | refine blk_alloc ?_ _)); refine blk_put (cs := #[.string t163, .string t164, .int .i64 t165, .slice Ao13 t166.length co13, .slice Ao14 t169.length co14, .string t172, .string t173, .string t174, .string t175, .bool t176, .slice none 0 0, .int .i64 0, .string (⟨#[]⟩ : ByteArray), .string (⟨#[]⟩ : ByteArray), .string (⟨#[]⟩ : ByteArray), .int .i64 0]) ?_ 10 _ rfl; (with_reducible repeat (first | refine blk_drewN ?_ _ | refine blk_drew ?_ | refine blk_alloc ?_ _)); refine blk_put (cs := #[.string t163, .string t164, .int .i64 t165, .slice Ao13 t166.length co13, .slice Ao14 t169.length co14, .string t172, .string t173, .string t174, .string t175, .bool false, .slice none 0 0, .int .i64 0, .string (⟨#[]⟩ : ByteArray), .string (⟨#[]⟩ : ByteArray), .string (⟨#[]⟩ : ByteArray), .int .i64 0]) ?_ 9 _ rfl; (with_reducible repeat (first | refine blk_drewN ?_ _ | refine blk_drew ?_ | refine blk_alloc ?_ _)); refine blk_put (cs := #[.string t163, .string t164, .int .i64 t165, .slice Ao13 t166.length co13, .slice Ao14 t169.length co14, .string t172, .string t173, .string t174, .string (⟨#[]⟩ : ByteArray), .bool false, .slice none 0 0, .int .i64 0, .string (⟨#[]⟩ : ByteArray), .string (⟨#[]⟩ : ByteArray), .string (⟨#[]⟩ : ByteArray), .int .i64 0]) ?_ 8 _ rfl; (with_reducible repeat (first | refine blk_drewN ?_ _ | refine blk_drew ?_ | refine blk_alloc ?_ _)); refine blk_put (cs := #[.string t163, .string t164, .int .i64 t165, .slice Ao13 t166.length co13, .slice Ao14 t169.length co14, .string t172, .string t173, .string (⟨#[]⟩ : ByteArray), .string (⟨#[]⟩ : ByteArray), .bool false, .slice none 0 0, .int .i64 0, .string (⟨#[]⟩ : ByteArray), .string (⟨#[]⟩ : ByteArray), .string (⟨#[]⟩ : ByteArray), .int .i64 0]) ?_ 7 _ rfl; (with_reducible repeat (first | refine blk_drewN ?_ _ | refine blk_drew ?_ | refine blk_alloc ?_ _)); refine blk_put (cs := #[.string t163, .string t164, .int .i64 t165, .slice Ao13 t166.length co13, .slice Ao14 t169.length co14, .string t172, .string (⟨#[]⟩ : ByteArray), .string (⟨#[]⟩ : ByteArray), .string (⟨#[]⟩ : ByteArray), .bool false, .slice none 0 0, .int .i64 0, .string (⟨#[]⟩ : ByteArray), .string (⟨#[]⟩ : ByteArray), .string (⟨#[]⟩ : ByteArray), .int .i64 0]) ?_ 6 _ rfl; (with_reducible repeat (first | refine blk_drewN ?_ _ | refine blk_drew ?_ | refine blk_alloc ?_ _)); refine blk_put (cs := #[.string t163, .string t164, .int .i64 t165, .slice Ao13 t166.length co13, .slice Ao14 t169.length co14, .string (⟨#[]⟩ : ByteArray), .string (⟨#[]⟩ : ByteArray), .string (⟨#[]⟩ : ByteArray), .string (⟨#[]⟩ : ByteArray), .bool false, .slice none 0 0, .int .i64 0, .string (⟨#[]⟩ : ByteArray), .string (⟨#[]⟩ : ByteArray), .string (⟨#[]⟩ : ByteArray), .int .i64 0]) ?_ 5 _ rfl; (with_reducible repeat (first | refine blk_drewN ?_ _ | refine blk_drew ?_ | refine blk_alloc ?_ _)); refine blk_put (cs := #[.string t163, .string t164, .int .i64 t165, .slice Ao13 t166.length co13, .slice none 0 0, .string (⟨#[]⟩ : ByteArray), .string (⟨#[]⟩ : ByteArray), .string (⟨#[]⟩ : ByteArray), .string (⟨#[]⟩ : ByteArray), .bool false, .slice none 0 0, .int .i64 0, .string (⟨#[]⟩ : ByteArray), .string (⟨#[]⟩ : ByteArray), .string (⟨#[]⟩ : ByteArray), .int .i64 0]) ?_ 4 _ rfl; (with_reducible repeat (first | refine blk_drewN ?_ _ | refine blk_drew ?_ | refine blk_alloc ?_ _)); refine blk_put (cs := #[.string t163, .string t164, .int .i64 t165, .slice none 0 0, .slice none 0 0, .string (⟨#[]⟩ : ByteArray), .string (⟨#[]⟩ : ByteArray), .string (⟨#[]⟩ : ByteArray), .string (⟨#[]⟩ : ByteArray), .bool false, .slice none 0 0, .int .i64 0, .string (⟨#[]⟩ : ByteArray), .string (⟨#[]⟩ : ByteArray), .string (⟨#[]⟩ : ByteArray), .int .i64 0]) ?_ 3 _ rfl; (with_reducible repeat (first | refine blk_drewN ?_ _ | refine blk_drew ?_ | refine blk_alloc ?_ _)); refine blk_put (cs := #[.string t163, .string t164, .int .i64 0, .slice none 0 0, .slice none 0 0, .string (⟨#[]⟩ : ByteArray), .string (⟨#[]⟩ : ByteArray), .string (⟨#[]⟩ : ByteArray), .string (⟨#[]⟩ : ByteArray), .bool false, .slice none 0 0, .int .i64 0, .string (⟨#[]⟩ : ByteArray), .string (⟨#[]⟩ : ByteArray), .string (⟨#[]⟩ : ByteArray), .int .i64 0]) ?_ 2 _ rfl; (with_reducible repeat (first | refine blk_drewN ?_ _ | refine blk_drew ?_ | refine blk_alloc ?_ _)); refine blk_put (cs := #[.string t163, .string (⟨#[]⟩ : ByteArray), .int .i64 0, .slice none 0 0, .slice none 0 0, .string (⟨#[]⟩ : ByteArray), .string (⟨#[]⟩ : ByteArray), .string (⟨#[]⟩ : ByteArray), .string (⟨#[]⟩ : ByteArray), .bool false, .slice none 0 0, .int .i64 0, .string (⟨#[]⟩ : ByteArray), .string (⟨#[]⟩ : ByteArray), .string (⟨#[]⟩ : ByteArray), .int .i64 0]) ?_ 1 _ rfl; (with_reducible repeat (first | refine blk_drewN ?_ _ | refine blk_drew ?_ | refine blk_alloc ?_ _)); refine blk_put (cs := #[.string (⟨#[]⟩ : ByteArray), .string (⟨#[]⟩ : ByteArray), .int .i64 0, .slice none 0 0, .slice none 0 0, .string (⟨#[]⟩ : ByteArray), .string (⟨#[]⟩ : ByteArray), .string (⟨#[]⟩ : ByteArray), .string (⟨#[]⟩ : ByteArray), .bool false, .slice none 0 0, .int .i64 0, .string (⟨#[]⟩ : ByteArray), .string (⟨#[]⟩ : ByteArray), .string (⟨#[]⟩ : ByteArray), .int .i64 0]) ?_ 0 _ rfl; (with_reducible repeat (first | refine blk_drewN ?_ _ | refine blk_drew ?_ | refine blk_alloc ?_ _)); exact BK185.out⟩, ⟨by repeat (first | (with_reducible first | exact HB.out | apply below_alloc | apply pw_below_drewN | apply below_drew1 | refine below_set ?_ GE185.out) | exact HB.out)⟩⟩
        case round =>
          clear H'
          try clear c1
          try clear p2
          try clear c4
          try clear c5
          try clear c5b0
          try clear c6
          try clear c10
          try clear c13
          try clear hcz12_0
          try clear hcz12_1
          try clear hcz12_10
          try clear hcz12_11
          try clear hcz12_12
          try clear hcz12_13
          try clear hcz12_14
          try clear hcz12_15
          try clear hcz12_2
          try clear hcz12_3
          try clear hcz12_4
          try clear hcz12_5
          try clear hcz12_6
          try clear hcz12_7
          try clear hcz12_8
          try clear hcz12_9
          try clear hfz12_0
          try clear hfz12_1
          try clear hfz12_10
          try clear hfz12_11
          try clear hfz12_12
          try clear hfz12_13
          try clear hfz12_14
          try clear hfz12_15
          try clear hfz12_2
          try clear hfz12_3
          try clear hfz12_4
          try clear hfz12_5
          try clear hfz12_6
          try clear hfz12_7
          try clear hfz12_8
          try clear hfz12_9
          try clear p2
          obtain ⟨x8_2, x186003_2, u186003, rfl, HA, HK2, HO_186003, HO_186004, HO_186010, BK185, HB⟩ := hrel
          cases gk with
          | zero => exact absurd HA.out (by simp [fleuronlaw9_SystemSizes.l0])
          | succ k2 =>
            have H := HA.out
            clear HA
            simp only [fleuronlaw9_SystemSizes.l0] at H
            by_cases c16 : x8_2 < a0
            · rw [if_pos c16] at H
              have c16b0 : decide (x8_2 < a0) = true := decide_eq_true c16
              clear c16
              by_cases c17 : x186003_2.length < 8796093022208
              · rw [if_pos c17] at H
                have LMc17 := Aside0.mk c17
                clear c17
                obtain ⟨y186, hy186⟩ : ∃ y_ : List ByteArray, y_ = (x186003_2 ++ [(⟨#[115]⟩ : ByteArray)]) := ⟨_, rfl⟩
                replace H : (fleuronlaw9_SystemSizes.l0 k2 a0 a1 a2 (wrap64 (x8_2 + 1)) t163 t164 t165 y186 t169 t172 t173 t174 t175 t176 t177 t180 t181 t182 t183 t184) = some r := by first | (rw [hy186]; with_reducible exact H) | (have H2_ := (Option.bind_some _ _).symm.trans H; rw [hy186]; with_reducible exact H2_) | (have H2_ := (Option.bind_some _ _).symm.trans H; with_reducible exact H2_) | with_reducible exact H | (rw [hy186]; exact H) | exact H
                have Ny186 := Aside0.mk hy186
                clear hy186
                have H' := Aside0.mk H
                clear H
                have hcz18_0 : wr.cell? ⟨gb185, 0, none⟩ = some (.string t163) := (blk_cell BK185.out 0).trans rfl
                have hcz18_1 : wr.cell? ⟨gb185, 1, none⟩ = some (.string t164) := (blk_cell BK185.out 1).trans rfl
                have hcz18_2 : wr.cell? ⟨gb185, 2, none⟩ = some (.int .i64 t165) := (blk_cell BK185.out 2).trans rfl
                have hcz18_3 : wr.cell? ⟨gb185, 3, none⟩ = some (u186003) := (blk_cell BK185.out 3).trans rfl
                have hcz18_4 : wr.cell? ⟨gb185, 4, none⟩ = some (.slice Ao14 t169.length co14) := (blk_cell BK185.out 4).trans rfl
                have hcz18_5 : wr.cell? ⟨gb185, 5, none⟩ = some (.string t172) := (blk_cell BK185.out 5).trans rfl
                have hcz18_6 : wr.cell? ⟨gb185, 6, none⟩ = some (.string t173) := (blk_cell BK185.out 6).trans rfl
                have hcz18_7 : wr.cell? ⟨gb185, 7, none⟩ = some (.string t174) := (blk_cell BK185.out 7).trans rfl
                have hcz18_8 : wr.cell? ⟨gb185, 8, none⟩ = some (.string t175) := (blk_cell BK185.out 8).trans rfl
                have hcz18_9 : wr.cell? ⟨gb185, 9, none⟩ = some (.bool t176) := (blk_cell BK185.out 9).trans rfl
                have hcz18_10 : wr.cell? ⟨gb185, 10, none⟩ = some (.slice Ao15 t177.length co15) := (blk_cell BK185.out 10).trans rfl
                have hcz18_11 : wr.cell? ⟨gb185, 11, none⟩ = some (.int .i64 t180) := (blk_cell BK185.out 11).trans rfl
                have hcz18_12 : wr.cell? ⟨gb185, 12, none⟩ = some (.string t181) := (blk_cell BK185.out 12).trans rfl
                have hcz18_13 : wr.cell? ⟨gb185, 13, none⟩ = some (.string t182) := (blk_cell BK185.out 13).trans rfl
                have hcz18_14 : wr.cell? ⟨gb185, 14, none⟩ = some (.string t183) := (blk_cell BK185.out 14).trans rfl
                have hcz18_15 : wr.cell? ⟨gb185, 15, none⟩ = some (.int .i64 t184) := (blk_cell BK185.out 15).trans rfl
                have hfz18_0 := blk_frozen BK185.out 0
                have hfz18_1 := blk_frozen BK185.out 1
                have hfz18_2 := blk_frozen BK185.out 2
                have hfz18_3 := blk_frozen BK185.out 3
                have hfz18_4 := blk_frozen BK185.out 4
                have hfz18_5 := blk_frozen BK185.out 5
                have hfz18_6 := blk_frozen BK185.out 6
                have hfz18_7 := blk_frozen BK185.out 7
                have hfz18_8 := blk_frozen BK185.out 8
                have hfz18_9 := blk_frozen BK185.out 9
                have hfz18_10 := blk_frozen BK185.out 10
                have hfz18_11 := blk_frozen BK185.out 11
                have hfz18_12 := blk_frozen BK185.out 12
                have hfz18_13 := blk_frozen BK185.out 13
                have hfz18_14 := blk_frozen BK185.out 14
                have hfz18_15 := blk_frozen BK185.out 15
                go_wp2_with (first | ((with_reducible refine gate_builtin (b := .append) (xs := #[.tmp 26, .tmp 27]) rfl ?_); (try (refine gate_guard (by rfl) ?_; dsimp only)); at_builtin; refine Kd.R_append Kd.string (w0 := w) w.heap.size rfl (.tmp 26) (.tmp 27) 22 9 (.string ⟨#[]⟩) 16 rfl Try.underlying22 info9 rfl (by decide) (by omega) u186003 x186003_2 (⟨#[115]⟩ : ByteArray) [.string (⟨#[115]⟩ : ByteArray)] (fun _ => True) (fun _ => False) rfl rfl ?aP (fun _ hk => hk.elim) ?aF ?aO ?aB ?aS ?aL ?_; (case aP => exact rfl); (case aB => exact (by repeat (first | (with_reducible first | exact HB.out | apply below_alloc | apply pw_below_drewN | apply below_drew1 | refine below_set ?_ GE185.out) | exact HB.out))); (case aF => exact (fun _ _ => trivial)); (case aO => exact (by (with_reducible repeat (first | apply Kd.R_alloc | apply Kd.R_drewN | apply Kd.R_drew)); exact HO_186003.out)); (case aS => exact (below_size (by repeat (first | (with_reducible first | exact HB.out | apply below_alloc | apply pw_below_drewN | apply below_drew1 | refine below_set ?_ GE185.out) | exact HB.out)))); (case aL => have := LMc17.out; omega); intro v187 w19 ho hb hg hat; rw [← Ny186.out] at ho; have n0_ := Aside0.mk (Kd.R_over' (by (with_reducible repeat (first | apply Kd.R_alloc | apply Kd.R_drewN | apply Kd.R_drew)); exact HO_186004.out) (Kd.R_typed (by (with_reducible repeat (first | apply Kd.R_alloc | apply Kd.R_drewN | apply Kd.R_drew)); exact HO_186003.out)) (by decide) hg); have n1_ := Aside0.mk (Kd.R_over' (by (with_reducible repeat (first | apply Kd.R_alloc | apply Kd.R_drewN | apply Kd.R_drew)); exact HO_186010.out) (Kd.R_typed (by (with_reducible repeat (first | apply Kd.R_alloc | apply Kd.R_drewN | apply Kd.R_drew)); exact HO_186003.out)) (by decide) hg); have n2_ := Aside0.mk (blk_grown (g := gb185) (o := .cells #[.string t163, .string t164, .int .i64 t165, u186003, .slice Ao14 t169.length co14, .string t172, .string t173, .string t174, .string t175, .bool t176, .slice Ao15 t177.length co15, .int .i64 t180, .string t181, .string t182, .string t183, .int .i64 t184] 27 (0, 0)) (by (with_reducible repeat (first | refine blk_drewN ?_ _ | refine blk_drew ?_ | refine blk_alloc ?_ _)); exact BK185.out) hg (Kd.R_ne HO_186003.out BK185.out (by decide))); have n3_ := Aside0.mk (hb); have n4_ := Aside0.mk (ho); clear HO_186004; clear HO_186010; clear BK185; clear HB; clear HO_186003; have HO_186004 := n0_; have HO_186010 := n1_; have BK185 := n2_; have HB := n3_; have HO188 := n4_; clear n0_ n1_ n2_ n3_ n4_; clear ho hb hg hat; obtain ⟨Ao20, co20, eo20⟩ := Kd.R_slice HO188.out; subst eo20; have hcz21_0 : w19.cell? ⟨gb185, 0, none⟩ = some (.string t163) := (blk_cell BK185.out 0).trans rfl; have hcz21_1 : w19.cell? ⟨gb185, 1, none⟩ = some (.string t164) := (blk_cell BK185.out 1).trans rfl; have hcz21_2 : w19.cell? ⟨gb185, 2, none⟩ = some (.int .i64 t165) := (blk_cell BK185.out 2).trans rfl; have hcz21_3 : w19.cell? ⟨gb185, 3, none⟩ = some (u186003) := (blk_cell BK185.out 3).trans rfl; have hcz21_4 : w19.cell? ⟨gb185, 4, none⟩ = some (.slice Ao14 t169.length co14) := (blk_cell BK185.out 4).trans rfl; have hcz21_5 : w19.cell? ⟨gb185, 5, none⟩ = some (.string t172) := (blk_cell BK185.out 5).trans rfl; have hcz21_6 : w19.cell? ⟨gb185, 6, none⟩ = some (.string t173) := (blk_cell BK185.out 6).trans rfl; have hcz21_7 : w19.cell? ⟨gb185, 7, none⟩ = some (.string t174) := (blk_cell BK185.out 7).trans rfl; have hcz21_8 : w19.cell? ⟨gb185, 8, none⟩ = some (.string t175) := (blk_cell BK185.out 8).trans rfl; have hcz21_9 : w19.cell? ⟨gb185, 9, none⟩ = some (.bool t176) := (blk_cell BK185.out 9).trans rfl; have hcz21_10 : w19.cell? ⟨gb185, 10, none⟩ = some (.slice Ao15 t177.length co15) := (blk_cell BK185.out 10).trans rfl; have hcz21_11 : w19.cell? ⟨gb185, 11, none⟩ = some (.int .i64 t180) := (blk_cell BK185.out 11).trans rfl; have hcz21_12 : w19.cell? ⟨gb185, 12, none⟩ = some (.string t181) := (blk_cell BK185.out 12).trans rfl; have hcz21_13 : w19.cell? ⟨gb185, 13, none⟩ = some (.string t182) := (blk_cell BK185.out 13).trans rfl; have hcz21_14 : w19.cell? ⟨gb185, 14, none⟩ = some (.string t183) := (blk_cell BK185.out 14).trans rfl; have hcz21_15 : w19.cell? ⟨gb185, 15, none⟩ = some (.int .i64 t184) := (blk_cell BK185.out 15).trans rfl; have hfz21_0 := blk_frozen BK185.out 0; have hfz21_1 := blk_frozen BK185.out 1; have hfz21_2 := blk_frozen BK185.out 2; have hfz21_3 := blk_frozen BK185.out 3; have hfz21_4 := blk_frozen BK185.out 4; have hfz21_5 := blk_frozen BK185.out 5; have hfz21_6 := blk_frozen BK185.out 6; have hfz21_7 := blk_frozen BK185.out 7; have hfz21_8 := blk_frozen BK185.out 8; have hfz21_9 := blk_frozen BK185.out 9; have hfz21_10 := blk_frozen BK185.out 10; have hfz21_11 := blk_frozen BK185.out 11; have hfz21_12 := blk_frozen BK185.out 12; have hfz21_13 := blk_frozen BK185.out 13; have hfz21_14 := blk_frozen BK185.out 14; have hfz21_15 := blk_frozen BK185.out 15))
                go_roundg k2
                case measure => have := HJ3.out; have := HK2.out; omega
                case rel => exact ⟨(wrap64 (x8_2 + 1)), (y186), (.slice Ao20 y186.length co20), (by first | rfl | (simp; done) | (simp [*]; done)), H', ⟨by have := HJ3.out; have := HK2.out; omega⟩, ⟨by (with_reducible repeat (first | apply Kd.R_alloc | apply Kd.R_drewN | apply Kd.R_drew)); exact Kd.R_mono (Kd.R_far (p := ⟨gb185, 3, none⟩) (Kd.R_types HO188.out BK185.out (by decide)) (fun _ hk => hk.2) (.slice Ao20 y186.length co20)) (fun _ hk => by first | exact trivial | simp [hk])⟩, ⟨by (with_reducible repeat (first | apply Kd.R_alloc | apply Kd.R_drewN | apply Kd.R_drew)); exact Kd.R_mono (Kd.R_far (p := ⟨gb185, 3, none⟩) (Kd.R_types HO_186004.out BK185.out (by decide)) (fun _ hk => hk.2) (.slice Ao20 y186.length co20)) (fun _ hk => by first | exact trivial | simp [hk])⟩, ⟨by (with_reducible repeat (first | apply Kd.R_alloc | apply Kd.R_drewN | apply Kd.R_drew)); exact Kd.R_mono (Kd.R_far (p := ⟨gb185, 3, none⟩) (Kd.R_types HO_186010.out BK185.out (by decide)) (fun _ hk => hk.2) (.slice Ao20 y186.length co20)) (fun _ hk => by first | exact trivial | simp [hk])⟩, ⟨by (with_reducible repeat (first | refine blk_drewN ?_ _ | refine blk_drew ?_ | refine blk_alloc ?_ _)); refine blk_put (cs := #[.string t163, .string t164, .int .i64 t165, u186003, .slice Ao14 t169.length co14, .string t172, .string t173, .string t174, .string t175, .bool t176, .slice Ao15 t177.length co15, .int .i64 t180, .string t181, .string t182, .string t183, .int .i64 t184]) ?_ 3 _ rfl; (with_reducible repeat (first | refine blk_drewN ?_ _ | refine blk_drew ?_ | refine blk_alloc ?_ _)); exact BK185.out⟩, ⟨by repeat (first | (with_reducible first | exact HB.out | apply below_alloc | apply pw_below_drewN | apply below_drew1 | refine below_set ?_ GE185.out) | exact HB.out)⟩⟩
              · rw [if_neg c17] at H
                exact absurd H (by simp)
            · rw [if_neg c16] at H
              have c16b0 : decide (x8_2 < a0) = false := decide_eq_false c16
              clear c16
              have HC22 := Aside0.mk H
              clear H
              go_upto_if 32 with (fail)
              go_cut [9] (fun v9 wc => ∃ (kq : Nat) (x9_21 : Int) (x186000_21 : ByteArray) (x186001_21 : ByteArray) (x186002_21 : Int) (x186003_21 : List ByteArray) (x186004_21 : List Int) (x186005_21 : ByteArray) (x186006_21 : ByteArray) (x186007_21 : ByteArray) (x186008_21 : ByteArray) (x186009_21 : Bool) (x186010_21 : List (S41)) (x186011_21 : Int) (x186012_21 : ByteArray) (x186013_21 : ByteArray) (x186014_21 : ByteArray) (x186015_21 : Int) (u186003 : Value) (u186004 : Value) (u186010 : Value), v9 = .int .i64 x9_21 ∧ Aside0 (fleuronlaw9_SystemSizes.j2 kq a0 a1 a2 x9_21 x186000_21 x186001_21 x186002_21 x186003_21 x186004_21 x186005_21 x186006_21 x186007_21 x186008_21 x186009_21 x186010_21 x186011_21 x186012_21 x186013_21 x186014_21 x186015_21 = some r) ∧ Aside0 (kq ≤ k2) ∧ Aside0 (Kd.R Kd.string 9 wc w.heap.size (fun _ => True) u186003 x186003_21) ∧ Aside0 (Kd.R (Kd.int .i64) 3 wc w.heap.size (fun _ => True) u186004 x186004_21) ∧ Aside0 (Kd.R k41 41 wc w.heap.size (fun _ => True) u186010 x186010_21) ∧ Aside0 (wc.heap[gb185]? = some (.cells #[.string x186000_21, .string x186001_21, .int .i64 x186002_21, u186003, u186004, .string x186005_21, .string x186006_21, .string x186007_21, .string x186008_21, .bool x186009_21, u186010, .int .i64 x186011_21, .string x186012_21, .string x186013_21, .string x186014_21, .int .i64 x186015_21] 27 (0, 0))) ∧ Aside0 (Below w.heap.size w wc))
              case first =>
                have H := HC22.out
                clear HC22
                by_cases c23 : a2 = true
                · subst c23
                  have H1 : ((fleuronlaw9_made.f (⟨#[97, 100, 100, 105, 116, 105, 118, 101]⟩ : ByteArray) (([(⟨#[120]⟩ : ByteArray), (⟨#[121]⟩ : ByteArray)] : List ByteArray))).bind fun bt192 => (fleuronlaw9_SystemSizes.j2 k2 a0 a1 true (wrap64 ((wrap64 ((wrap64 (1000 * a0)) * (wrap64 (60 - a0)))) + (wrap64 (a0 * a0)))) bt192.1 bt192.2.1 bt192.2.2.1 bt192.2.2.2.1 (([wrap64 (1000 * a0), a0] : List Int)) bt192.2.2.2.2.2.1 bt192.2.2.2.2.2.2.1 bt192.2.2.2.2.2.2.2.1 bt192.2.2.2.2.2.2.2.2.1 bt192.2.2.2.2.2.2.2.2.2.1 bt192.2.2.2.2.2.2.2.2.2.2.1 bt192.2.2.2.2.2.2.2.2.2.2.2.1 bt192.2.2.2.2.2.2.2.2.2.2.2.2.1 bt192.2.2.2.2.2.2.2.2.2.2.2.2.2.1 bt192.2.2.2.2.2.2.2.2.2.2.2.2.2.2.1 bt192.2.2.2.2.2.2.2.2.2.2.2.2.2.2.2)) = some r := by rw [if_pos rfl] at H; exact H
                  clear H
                  have H := H1
                  clear H1
                  obtain ⟨y189, hy189⟩ : ∃ y_ : List ByteArray, y_ = (([(⟨#[120]⟩ : ByteArray), (⟨#[121]⟩ : ByteArray)] : List ByteArray)) := ⟨_, rfl⟩
                  replace H : ((fleuronlaw9_made.f (⟨#[97, 100, 100, 105, 116, 105, 118, 101]⟩ : ByteArray) y189).bind fun bt192 => (fleuronlaw9_SystemSizes.j2 k2 a0 a1 true (wrap64 ((wrap64 ((wrap64 (1000 * a0)) * (wrap64 (60 - a0)))) + (wrap64 (a0 * a0)))) bt192.1 bt192.2.1 bt192.2.2.1 bt192.2.2.2.1 (([wrap64 (1000 * a0), a0] : List Int)) bt192.2.2.2.2.2.1 bt192.2.2.2.2.2.2.1 bt192.2.2.2.2.2.2.2.1 bt192.2.2.2.2.2.2.2.2.1 bt192.2.2.2.2.2.2.2.2.2.1 bt192.2.2.2.2.2.2.2.2.2.2.1 bt192.2.2.2.2.2.2.2.2.2.2.2.1 bt192.2.2.2.2.2.2.2.2.2.2.2.2.1 bt192.2.2.2.2.2.2.2.2.2.2.2.2.2.1 bt192.2.2.2.2.2.2.2.2.2.2.2.2.2.2.1 bt192.2.2.2.2.2.2.2.2.2.2.2.2.2.2.2)) = some r := by first | (rw [hy189]; with_reducible exact H) | (have H2_ := (Option.bind_some _ _).symm.trans H; rw [hy189]; with_reducible exact H2_) | (have H2_ := (Option.bind_some _ _).symm.trans H; with_reducible exact H2_) | with_reducible exact H | (rw [hy189]; exact H) | exact H
                  have Ny189 := Aside0.mk hy189
                  clear hy189
                  replace H := Option.bind_eq_some_iff.mp H
                  obtain ⟨⟨t192, t193, t194, t195, t198, t201, t202, t203, t204, t205, t206, t209, t210, t211, t212, t213⟩, A240, H⟩ := H
                  replace H : (fleuronlaw9_SystemSizes.j2 k2 a0 a1 true (wrap64 ((wrap64 ((wrap64 (1000 * a0)) * (wrap64 (60 - a0)))) + (wrap64 (a0 * a0)))) t192 t193 t194 t195 (([wrap64 (1000 * a0), a0] : List Int)) t201 t202 t203 t204 t205 t206 t209 t210 t211 t212 t213) = some r := H
                  have A24 := Aside0.mk A240
                  clear A240
                  obtain ⟨y214, hy214⟩ : ∃ y_ : List Int, y_ = (([wrap64 (1000 * a0), a0] : List Int)) := ⟨_, rfl⟩
                  replace H : (fleuronlaw9_SystemSizes.j2 k2 a0 a1 true (wrap64 ((wrap64 ((wrap64 (1000 * a0)) * (wrap64 (60 - a0)))) + (wrap64 (a0 * a0)))) t192 t193 t194 t195 y214 t201 t202 t203 t204 t205 t206 t209 t210 t211 t212 t213) = some r := by first | (rw [hy214]; with_reducible exact H) | (have H2_ := (Option.bind_some _ _).symm.trans H; rw [hy214]; with_reducible exact H2_) | (have H2_ := (Option.bind_some _ _).symm.trans H; with_reducible exact H2_) | with_reducible exact H | (rw [hy214]; exact H) | exact H
                  have Ny214 := Aside0.mk hy214
                  clear hy214
                  have H' := Aside0.mk H
                  clear H
                  go_wp2_with (first | ((with_reducible refine gate_dst (N := 33) rfl ?_); (try (refine gate_guard (by rfl) ?_; dsimp only)); refine Kd.R_lit Kd.string _ 9 ?hg (N := 33) ?hd (xs := ([(⟨#[120]⟩ : ByteArray), (⟨#[121]⟩ : ByteArray)] : List ByteArray)) (inner := [.string (⟨#[120]⟩ : ByteArray), .string (⟨#[121]⟩ : ByteArray)]) (ok := fun _ => True) (okp := fun _ => True) ?hr ?hp (fun _ hk => hk) trivial (Below.refl _ _) (Nat.le_refl _) (by simp) ?_; (case hd => rfl); (case hg => rfl); (case hr => first | (go_simp; done) | (go_simp; rfl)); (case hp => exact (Reps.one (show Kd.M Kd.string _ _ _ (⟨#[120]⟩ : ByteArray) [.string (⟨#[120]⟩ : ByteArray)] from rfl) (Reps.one (show Kd.M Kd.string _ _ _ (⟨#[121]⟩ : ByteArray) [.string (⟨#[121]⟩ : ByteArray)] from rfl) (Reps.none _ _)))); intro v190 w25 ho26 hb hg_ hnew_; clear hg_ hnew_; (first | rw [← Ny189.out] at ho26 | (simp only [Int.reduceToNat] at ho26; rw [← Ny189.out] at ho26)); have n0_ := Aside0.mk (Kd.R_elder' (by (with_reducible repeat (first | apply Kd.R_alloc | apply Kd.R_drewN | apply Kd.R_drew)); exact HO_186003.out) (Kd.R_base ho26) hb); have n1_ := Aside0.mk (Kd.R_below (by (with_reducible repeat (first | apply Kd.R_alloc | apply Kd.R_drewN | apply Kd.R_drew)); exact HO_186004.out) hb); have n2_ := Aside0.mk (Kd.R_below (by (with_reducible repeat (first | apply Kd.R_alloc | apply Kd.R_drewN | apply Kd.R_drew)); exact HO_186010.out) hb); have n3_ := Aside0.mk (Kd.R_lower (Kd.R_new' ho26 (Kd.R_lt (by (with_reducible repeat (first | apply Kd.R_alloc | apply Kd.R_drewN | apply Kd.R_drew)); exact HO_186003.out))) (below_size (by repeat (first | (with_reducible first | exact HB.out | apply below_alloc | apply pw_below_drewN | apply below_drew1 | refine below_set ?_ GE185.out) | exact HB.out)))); have n4_ := Aside0.mk (blk_below (g := gb185) (o := .cells #[.string t163, .string t164, .int .i64 t165, u186003, .slice Ao14 t169.length co14, .string t172, .string t173, .string t174, .string t175, .bool t176, .slice Ao15 t177.length co15, .int .i64 t180, .string t181, .string t182, .string t183, .int .i64 t184] 27 (0, 0)) (by (with_reducible repeat (first | refine blk_drewN ?_ _ | refine blk_drew ?_ | refine blk_alloc ?_ _)); exact BK185.out) hb); have n5_ := Aside0.mk (below_step (by repeat (first | (with_reducible first | exact HB.out | apply below_alloc | apply pw_below_drewN | apply below_drew1 | refine below_set ?_ GE185.out) | exact HB.out)) hb); clear HO_186003; clear HO_186004; clear HO_186010; clear BK185; clear HB; have HO_186003 := n0_; have HO_186004 := n1_; have HO_186010 := n2_; have HO191 := n3_; have BK185 := n4_; have HB := n5_; clear n0_ n1_ n2_ n3_ n4_ n5_; clear hb ho26; obtain ⟨Ao27, co27, eo27⟩ := Kd.R_slice HO191.out; subst eo27) | ((with_reducible refine gate_callee (f := 13) rfl ?_); refine goesL_ (some 34) rfl rfl Try.func13 (by kernel_rfl) rfl #[.string (⟨#[97, 100, 100, 105, 116, 105, 118, 101]⟩ : ByteArray), .slice Ao27 y189.length co27] rfl (by (try simp only [List.map_toArray, List.map_cons, List.map_nil]); first | done | rfl | (simp only [List.length_drop, List.length_take]; rfl)) ?_; (with_reducible refine (fleuronlaw9_made.calls (⟨#[97, 100, 100, 105, 116, 105, 118, 101]⟩ : ByteArray) (fun k_ => some k_ = (.slice Ao27 y189.length co27 : Value).ownBlock) (.slice Ao27 y189.length co27) y189 t192 t193 t194 t195 t198 t201 t202 t203 t204 t205 t206 t209 t210 t211 t212 t213 w _ ?side1 ?side2 A24.out).mono ?_); (case side1 => repeat (first | (with_reducible first | exact HB.out | apply below_alloc | apply pw_below_drewN | apply below_drew1 | refine below_set ?_ GE185.out) | exact HB.out)); (case side2 => exact Kd.R_tight rfl HO191.out); rintro e w28 ⟨v196, v199, v207, rfl, ho0, ho1, ho2, hb, hkp⟩; refine ⟨_, rfl, ?_⟩; have n0_ := Aside0.mk (Kd.R_mono (ok' := fun k_ => some k_ ≠ (v196 : Value).ownBlock) (Kd.R_keptB (HO_186003.out) hkp (fun k_ hk_ hs_ => (hk_.2) hs_)) (fun k_ hk_ => fun e_ => Or.elim (ho0.1 k_ e_.symm) (fun hs_ => hk_.2.1 hs_) (fun hn_ => Nat.not_le.2 hk_.2.2 hn_))); have n1_ := Aside0.mk (Kd.R_mono (ok' := fun k_ => some k_ ≠ (v199 : Value).ownBlock) (Kd.R_keptB ((Kd.R_apart' HO_186004.out (Kd.R_typed HO191.out) (by decide))) hkp (fun k_ hk_ hs_ => (hk_.2) hs_)) (fun k_ hk_ => fun e_ => Or.elim (ho1.1 k_ e_.symm) (fun hs_ => hk_.2.1 hs_) (fun hn_ => Nat.not_le.2 hk_.2.2 hn_))); have n2_ := Aside0.mk (Kd.R_mono (ok' := fun k_ => some k_ ≠ (v207 : Value).ownBlock) (Kd.R_keptB ((Kd.R_apart' HO_186010.out (Kd.R_typed HO191.out) (by decide))) hkp (fun k_ hk_ hs_ => (hk_.2) hs_)) (fun k_ hk_ => fun e_ => Or.elim (ho2.1 k_ e_.symm) (fun hs_ => hk_.2.1 hs_) (fun hn_ => Nat.not_le.2 hk_.2.2 hn_))); have n3_ := Aside0.mk (blk_kept (by (with_reducible repeat (first | refine blk_drewN ?_ _ | refine blk_drew ?_ | refine blk_alloc ?_ _)); exact BK185.out) hkp (fun hs_ => (fun e_ => (Kd.R_ne HO191.out BK185.out (by decide)) e_) hs_)); have n4_ := Aside0.mk (Kd.R_mono (ok' := fun k_ => some k_ ≠ (u186003 : Value).ownBlock) ho0 (fun k_ hk_ => Or.elim hk_ (fun hs_ => fun e_ => (((HO_186003.out).1 k_ e_.symm).2) hs_) (fun hn_ => (Kd.fresh' (Kd.R_lt (by (with_reducible repeat (first | apply Kd.R_alloc | apply Kd.R_drewN | apply Kd.R_drew)); exact HO_186003.out)) k_ hn_)))); have n5_ := Aside0.mk (Kd.R_mono (ok' := fun k_ => some k_ ≠ (.slice Ao14 t169.length co14 : Value).ownBlock) ho1 (fun k_ hk_ => Or.elim hk_ (fun hs_ => fun e_ => ((((Kd.R_apart' HO_186004.out (Kd.R_typed HO191.out) (by decide))).1 k_ e_.symm).2) hs_) (fun hn_ => (Kd.fresh' (Kd.R_lt (by (with_reducible repeat (first | apply Kd.R_alloc | apply Kd.R_drewN | apply Kd.R_drew)); exact HO_186004.out)) k_ hn_)))); have n6_ := Aside0.mk (Kd.R_mono (ok' := fun k_ => some k_ ≠ (.slice Ao15 t177.length co15 : Value).ownBlock) ho2 (fun k_ hk_ => Or.elim hk_ (fun hs_ => fun e_ => ((((Kd.R_apart' HO_186010.out (Kd.R_typed HO191.out) (by decide))).1 k_ e_.symm).2) hs_) (fun hn_ => (Kd.fresh' (Kd.R_lt (by (with_reducible repeat (first | apply Kd.R_alloc | apply Kd.R_drewN | apply Kd.R_drew)); exact HO_186010.out)) k_ hn_)))); have n7_ := Aside0.mk (hb); clear HO_186003; clear HO_186004; clear HO_186010; clear BK185; clear HB; clear HO191; have HO_186003 := n0_; have HO_186004 := n1_; have HO_186010 := n2_; have BK185 := n3_; have HO197 := n4_; have HO200 := n5_; have HO208 := n6_; have HB := n7_; clear n0_ n1_ n2_ n3_ n4_ n5_ n6_ n7_; (try clear hb); (try clear hkp); (try clear ho0); (try clear ho1); (try clear ho2); have hcz29_0 : w28.cell? ⟨gb185, 0, none⟩ = some (.string t163) := (blk_cell BK185.out 0).trans rfl; have hcz29_1 : w28.cell? ⟨gb185, 1, none⟩ = some (.string t164) := (blk_cell BK185.out 1).trans rfl; have hcz29_2 : w28.cell? ⟨gb185, 2, none⟩ = some (.int .i64 t165) := (blk_cell BK185.out 2).trans rfl; have hcz29_3 : w28.cell? ⟨gb185, 3, none⟩ = some (u186003) := (blk_cell BK185.out 3).trans rfl; have hcz29_4 : w28.cell? ⟨gb185, 4, none⟩ = some (.slice Ao14 t169.length co14) := (blk_cell BK185.out 4).trans rfl; have hcz29_5 : w28.cell? ⟨gb185, 5, none⟩ = some (.string t172) := (blk_cell BK185.out 5).trans rfl; have hcz29_6 : w28.cell? ⟨gb185, 6, none⟩ = some (.string t173) := (blk_cell BK185.out 6).trans rfl; have hcz29_7 : w28.cell? ⟨gb185, 7, none⟩ = some (.string t174) := (blk_cell BK185.out 7).trans rfl; have hcz29_8 : w28.cell? ⟨gb185, 8, none⟩ = some (.string t175) := (blk_cell BK185.out 8).trans rfl; have hcz29_9 : w28.cell? ⟨gb185, 9, none⟩ = some (.bool t176) := (blk_cell BK185.out 9).trans rfl; have hcz29_10 : w28.cell? ⟨gb185, 10, none⟩ = some (.slice Ao15 t177.length co15) := (blk_cell BK185.out 10).trans rfl; have hcz29_11 : w28.cell? ⟨gb185, 11, none⟩ = some (.int .i64 t180) := (blk_cell BK185.out 11).trans rfl; have hcz29_12 : w28.cell? ⟨gb185, 12, none⟩ = some (.string t181) := (blk_cell BK185.out 12).trans rfl; have hcz29_13 : w28.cell? ⟨gb185, 13, none⟩ = some (.string t182) := (blk_cell BK185.out 13).trans rfl; have hcz29_14 : w28.cell? ⟨gb185, 14, none⟩ = some (.string t183) := (blk_cell BK185.out 14).trans rfl; have hcz29_15 : w28.cell? ⟨gb185, 15, none⟩ = some (.int .i64 t184) := (blk_cell BK185.out 15).trans rfl; have hfz29_0 := blk_frozen BK185.out 0; have hfz29_1 := blk_frozen BK185.out 1; have hfz29_2 := blk_frozen BK185.out 2; have hfz29_3 := blk_frozen BK185.out 3; have hfz29_4 := blk_frozen BK185.out 4; have hfz29_5 := blk_frozen BK185.out 5; have hfz29_6 := blk_frozen BK185.out 6; have hfz29_7 := blk_frozen BK185.out 7; have hfz29_8 := blk_frozen BK185.out 8; have hfz29_9 := blk_frozen BK185.out 9; have hfz29_10 := blk_frozen BK185.out 10; have hfz29_11 := blk_frozen BK185.out 11; have hfz29_12 := blk_frozen BK185.out 12; have hfz29_13 := blk_frozen BK185.out 13; have hfz29_14 := blk_frozen BK185.out 14; have hfz29_15 := blk_frozen BK185.out 15; obtain ⟨Ao30, co30, eo30⟩ := Kd.R_slice HO197.out; subst eo30; obtain ⟨Ao31, co31, eo31⟩ := Kd.R_slice HO200.out; subst eo31; obtain ⟨Ao32, co32, eo32⟩ := Kd.R_slice HO208.out; subst eo32) | ((with_reducible refine gate_dst (N := 38) rfl ?_); (try (refine gate_guard (by rfl) ?_; dsimp only)); refine Kd.R_lit (Kd.int .i64) _ 3 ?hg (N := 38) ?hd (xs := ([wrap64 (1000 * a0), a0] : List Int)) (inner := [.int .i64 (wrap64 (1000 * a0)), .int .i64 a0]) (ok := fun _ => True) (okp := fun _ => True) ?hr ?hp (fun _ hk => hk) trivial (Below.refl _ _) (Nat.le_refl _) (by simp) ?_; (case hd => rfl); (case hg => rfl); (case hr => first | (go_simp; done) | (go_simp; rfl)); (case hp => exact (Reps.one (show Kd.M (Kd.int .i64) _ _ _ (wrap64 (1000 * a0)) [.int .i64 (wrap64 (1000 * a0))] from rfl) (Reps.one (show Kd.M (Kd.int .i64) _ _ _ a0 [.int .i64 a0] from rfl) (Reps.none _ _)))); intro v215 w33 ho34 hb hg_ hnew_; clear hg_ hnew_; (first | rw [← Ny214.out] at ho34 | (simp only [Int.reduceToNat] at ho34; rw [← Ny214.out] at ho34)); have n0_ := Aside0.mk (Kd.R_below (by (with_reducible repeat (first | apply Kd.R_alloc | apply Kd.R_drewN | apply Kd.R_drew)); exact (Kd.R_mono (Kd.R_far (p := ⟨gb185, 15, none⟩) (Kd.R_far (p := ⟨gb185, 14, none⟩) (Kd.R_far (p := ⟨gb185, 13, none⟩) (Kd.R_far (p := ⟨gb185, 12, none⟩) (Kd.R_far (p := ⟨gb185, 11, none⟩) (Kd.R_far (p := ⟨gb185, 10, none⟩) (Kd.R_far (p := ⟨gb185, 9, none⟩) (Kd.R_far (p := ⟨gb185, 8, none⟩) (Kd.R_far (p := ⟨gb185, 7, none⟩) (Kd.R_far (p := ⟨gb185, 6, none⟩) (Kd.R_far (p := ⟨gb185, 5, none⟩) (Kd.R_far (p := ⟨gb185, 4, none⟩) (Kd.R_far (p := ⟨gb185, 3, none⟩) (Kd.R_far (p := ⟨gb185, 2, none⟩) (Kd.R_far (p := ⟨gb185, 1, none⟩) (Kd.R_far (p := ⟨gb185, 0, none⟩) (Kd.R_types HO_186003.out BK185.out (by decide)) (fun _ hk => hk.2) (.string t192)) (fun _ hk => hk.2) (.string t193)) (fun _ hk => hk.2) (.int .i64 t194)) (fun _ hk => hk.2) (.slice Ao30 t195.length co30)) (fun _ hk => hk.2) (.slice Ao31 t198.length co31)) (fun _ hk => hk.2) (.string t201)) (fun _ hk => hk.2) (.string t202)) (fun _ hk => hk.2) (.string t203)) (fun _ hk => hk.2) (.string t204)) (fun _ hk => hk.2) (.bool t205)) (fun _ hk => hk.2) (.slice Ao32 t206.length co32)) (fun _ hk => hk.2) (.int .i64 t209)) (fun _ hk => hk.2) (.string t210)) (fun _ hk => hk.2) (.string t211)) (fun _ hk => hk.2) (.string t212)) (fun _ hk => hk.2) (.int .i64 t213)) (fun _ h_ => h_.1))) hb); have n1_ := Aside0.mk (Kd.R_elder' (by (with_reducible repeat (first | apply Kd.R_alloc | apply Kd.R_drewN | apply Kd.R_drew)); exact (Kd.R_mono (Kd.R_far (p := ⟨gb185, 15, none⟩) (Kd.R_far (p := ⟨gb185, 14, none⟩) (Kd.R_far (p := ⟨gb185, 13, none⟩) (Kd.R_far (p := ⟨gb185, 12, none⟩) (Kd.R_far (p := ⟨gb185, 11, none⟩) (Kd.R_far (p := ⟨gb185, 10, none⟩) (Kd.R_far (p := ⟨gb185, 9, none⟩) (Kd.R_far (p := ⟨gb185, 8, none⟩) (Kd.R_far (p := ⟨gb185, 7, none⟩) (Kd.R_far (p := ⟨gb185, 6, none⟩) (Kd.R_far (p := ⟨gb185, 5, none⟩) (Kd.R_far (p := ⟨gb185, 4, none⟩) (Kd.R_far (p := ⟨gb185, 3, none⟩) (Kd.R_far (p := ⟨gb185, 2, none⟩) (Kd.R_far (p := ⟨gb185, 1, none⟩) (Kd.R_far (p := ⟨gb185, 0, none⟩) (Kd.R_types HO_186004.out BK185.out (by decide)) (fun _ hk => hk.2) (.string t192)) (fun _ hk => hk.2) (.string t193)) (fun _ hk => hk.2) (.int .i64 t194)) (fun _ hk => hk.2) (.slice Ao30 t195.length co30)) (fun _ hk => hk.2) (.slice Ao31 t198.length co31)) (fun _ hk => hk.2) (.string t201)) (fun _ hk => hk.2) (.string t202)) (fun _ hk => hk.2) (.string t203)) (fun _ hk => hk.2) (.string t204)) (fun _ hk => hk.2) (.bool t205)) (fun _ hk => hk.2) (.slice Ao32 t206.length co32)) (fun _ hk => hk.2) (.int .i64 t209)) (fun _ hk => hk.2) (.string t210)) (fun _ hk => hk.2) (.string t211)) (fun _ hk => hk.2) (.string t212)) (fun _ hk => hk.2) (.int .i64 t213)) (fun _ h_ => h_.1))) (Kd.R_base ho34) hb); have n2_ := Aside0.mk (Kd.R_below (by (with_reducible repeat (first | apply Kd.R_alloc | apply Kd.R_drewN | apply Kd.R_drew)); exact (Kd.R_mono (Kd.R_far (p := ⟨gb185, 15, none⟩) (Kd.R_far (p := ⟨gb185, 14, none⟩) (Kd.R_far (p := ⟨gb185, 13, none⟩) (Kd.R_far (p := ⟨gb185, 12, none⟩) (Kd.R_far (p := ⟨gb185, 11, none⟩) (Kd.R_far (p := ⟨gb185, 10, none⟩) (Kd.R_far (p := ⟨gb185, 9, none⟩) (Kd.R_far (p := ⟨gb185, 8, none⟩) (Kd.R_far (p := ⟨gb185, 7, none⟩) (Kd.R_far (p := ⟨gb185, 6, none⟩) (Kd.R_far (p := ⟨gb185, 5, none⟩) (Kd.R_far (p := ⟨gb185, 4, none⟩) (Kd.R_far (p := ⟨gb185, 3, none⟩) (Kd.R_far (p := ⟨gb185, 2, none⟩) (Kd.R_far (p := ⟨gb185, 1, none⟩) (Kd.R_far (p := ⟨gb185, 0, none⟩) (Kd.R_types HO_186010.out BK185.out (by decide)) (fun _ hk => hk.2) (.string t192)) (fun _ hk => hk.2) (.string t193)) (fun _ hk => hk.2) (.int .i64 t194)) (fun _ hk => hk.2) (.slice Ao30 t195.length co30)) (fun _ hk => hk.2) (.slice Ao31 t198.length co31)) (fun _ hk => hk.2) (.string t201)) (fun _ hk => hk.2) (.string t202)) (fun _ hk => hk.2) (.string t203)) (fun _ hk => hk.2) (.string t204)) (fun _ hk => hk.2) (.bool t205)) (fun _ hk => hk.2) (.slice Ao32 t206.length co32)) (fun _ hk => hk.2) (.int .i64 t209)) (fun _ hk => hk.2) (.string t210)) (fun _ hk => hk.2) (.string t211)) (fun _ hk => hk.2) (.string t212)) (fun _ hk => hk.2) (.int .i64 t213)) (fun _ h_ => h_.1))) hb); have n3_ := Aside0.mk (Kd.R_below (by (with_reducible repeat (first | apply Kd.R_alloc | apply Kd.R_drewN | apply Kd.R_drew)); exact (Kd.R_mono (Kd.R_far (p := ⟨gb185, 15, none⟩) (Kd.R_far (p := ⟨gb185, 14, none⟩) (Kd.R_far (p := ⟨gb185, 13, none⟩) (Kd.R_far (p := ⟨gb185, 12, none⟩) (Kd.R_far (p := ⟨gb185, 11, none⟩) (Kd.R_far (p := ⟨gb185, 10, none⟩) (Kd.R_far (p := ⟨gb185, 9, none⟩) (Kd.R_far (p := ⟨gb185, 8, none⟩) (Kd.R_far (p := ⟨gb185, 7, none⟩) (Kd.R_far (p := ⟨gb185, 6, none⟩) (Kd.R_far (p := ⟨gb185, 5, none⟩) (Kd.R_far (p := ⟨gb185, 4, none⟩) (Kd.R_far (p := ⟨gb185, 3, none⟩) (Kd.R_far (p := ⟨gb185, 2, none⟩) (Kd.R_far (p := ⟨gb185, 1, none⟩) (Kd.R_far (p := ⟨gb185, 0, none⟩) (Kd.R_types HO197.out BK185.out (by decide)) (fun _ hk => hk.2) (.string t192)) (fun _ hk => hk.2) (.string t193)) (fun _ hk => hk.2) (.int .i64 t194)) (fun _ hk => hk.2) (.slice Ao30 t195.length co30)) (fun _ hk => hk.2) (.slice Ao31 t198.length co31)) (fun _ hk => hk.2) (.string t201)) (fun _ hk => hk.2) (.string t202)) (fun _ hk => hk.2) (.string t203)) (fun _ hk => hk.2) (.string t204)) (fun _ hk => hk.2) (.bool t205)) (fun _ hk => hk.2) (.slice Ao32 t206.length co32)) (fun _ hk => hk.2) (.int .i64 t209)) (fun _ hk => hk.2) (.string t210)) (fun _ hk => hk.2) (.string t211)) (fun _ hk => hk.2) (.string t212)) (fun _ hk => hk.2) (.int .i64 t213)) (fun _ h_ => h_.1))) hb); have n4_ := Aside0.mk (Kd.R_elder' (by (with_reducible repeat (first | apply Kd.R_alloc | apply Kd.R_drewN | apply Kd.R_drew)); exact (Kd.R_mono (Kd.R_far (p := ⟨gb185, 15, none⟩) (Kd.R_far (p := ⟨gb185, 14, none⟩) (Kd.R_far (p := ⟨gb185, 13, none⟩) (Kd.R_far (p := ⟨gb185, 12, none⟩) (Kd.R_far (p := ⟨gb185, 11, none⟩) (Kd.R_far (p := ⟨gb185, 10, none⟩) (Kd.R_far (p := ⟨gb185, 9, none⟩) (Kd.R_far (p := ⟨gb185, 8, none⟩) (Kd.R_far (p := ⟨gb185, 7, none⟩) (Kd.R_far (p := ⟨gb185, 6, none⟩) (Kd.R_far (p := ⟨gb185, 5, none⟩) (Kd.R_far (p := ⟨gb185, 4, none⟩) (Kd.R_far (p := ⟨gb185, 3, none⟩) (Kd.R_far (p := ⟨gb185, 2, none⟩) (Kd.R_far (p := ⟨gb185, 1, none⟩) (Kd.R_far (p := ⟨gb185, 0, none⟩) (Kd.R_types HO200.out BK185.out (by decide)) (fun _ hk => hk.2) (.string t192)) (fun _ hk => hk.2) (.string t193)) (fun _ hk => hk.2) (.int .i64 t194)) (fun _ hk => hk.2) (.slice Ao30 t195.length co30)) (fun _ hk => hk.2) (.slice Ao31 t198.length co31)) (fun _ hk => hk.2) (.string t201)) (fun _ hk => hk.2) (.string t202)) (fun _ hk => hk.2) (.string t203)) (fun _ hk => hk.2) (.string t204)) (fun _ hk => hk.2) (.bool t205)) (fun _ hk => hk.2) (.slice Ao32 t206.length co32)) (fun _ hk => hk.2) (.int .i64 t209)) (fun _ hk => hk.2) (.string t210)) (fun _ hk => hk.2) (.string t211)) (fun _ hk => hk.2) (.string t212)) (fun _ hk => hk.2) (.int .i64 t213)) (fun _ h_ => h_.1))) (Kd.R_base ho34) hb); have n5_ := Aside0.mk (Kd.R_below (by (with_reducible repeat (first | apply Kd.R_alloc | apply Kd.R_drewN | apply Kd.R_drew)); exact (Kd.R_mono (Kd.R_far (p := ⟨gb185, 15, none⟩) (Kd.R_far (p := ⟨gb185, 14, none⟩) (Kd.R_far (p := ⟨gb185, 13, none⟩) (Kd.R_far (p := ⟨gb185, 12, none⟩) (Kd.R_far (p := ⟨gb185, 11, none⟩) (Kd.R_far (p := ⟨gb185, 10, none⟩) (Kd.R_far (p := ⟨gb185, 9, none⟩) (Kd.R_far (p := ⟨gb185, 8, none⟩) (Kd.R_far (p := ⟨gb185, 7, none⟩) (Kd.R_far (p := ⟨gb185, 6, none⟩) (Kd.R_far (p := ⟨gb185, 5, none⟩) (Kd.R_far (p := ⟨gb185, 4, none⟩) (Kd.R_far (p := ⟨gb185, 3, none⟩) (Kd.R_far (p := ⟨gb185, 2, none⟩) (Kd.R_far (p := ⟨gb185, 1, none⟩) (Kd.R_far (p := ⟨gb185, 0, none⟩) (Kd.R_types HO208.out BK185.out (by decide)) (fun _ hk => hk.2) (.string t192)) (fun _ hk => hk.2) (.string t193)) (fun _ hk => hk.2) (.int .i64 t194)) (fun _ hk => hk.2) (.slice Ao30 t195.length co30)) (fun _ hk => hk.2) (.slice Ao31 t198.length co31)) (fun _ hk => hk.2) (.string t201)) (fun _ hk => hk.2) (.string t202)) (fun _ hk => hk.2) (.string t203)) (fun _ hk => hk.2) (.string t204)) (fun _ hk => hk.2) (.bool t205)) (fun _ hk => hk.2) (.slice Ao32 t206.length co32)) (fun _ hk => hk.2) (.int .i64 t209)) (fun _ hk => hk.2) (.string t210)) (fun _ hk => hk.2) (.string t211)) (fun _ hk => hk.2) (.string t212)) (fun _ hk => hk.2) (.int .i64 t213)) (fun _ h_ => h_.1))) hb); have n6_ := Aside0.mk (Kd.R_lower (Kd.R_new' (Kd.R_new' ho34 (Kd.R_lt (by (with_reducible repeat (first | apply Kd.R_alloc | apply Kd.R_drewN | apply Kd.R_drew)); exact (Kd.R_mono (Kd.R_far (p := ⟨gb185, 15, none⟩) (Kd.R_far (p := ⟨gb185, 14, none⟩) (Kd.R_far (p := ⟨gb185, 13, none⟩) (Kd.R_far (p := ⟨gb185, 12, none⟩) (Kd.R_far (p := ⟨gb185, 11, none⟩) (Kd.R_far (p := ⟨gb185, 10, none⟩) (Kd.R_far (p := ⟨gb185, 9, none⟩) (Kd.R_far (p := ⟨gb185, 8, none⟩) (Kd.R_far (p := ⟨gb185, 7, none⟩) (Kd.R_far (p := ⟨gb185, 6, none⟩) (Kd.R_far (p := ⟨gb185, 5, none⟩) (Kd.R_far (p := ⟨gb185, 4, none⟩) (Kd.R_far (p := ⟨gb185, 3, none⟩) (Kd.R_far (p := ⟨gb185, 2, none⟩) (Kd.R_far (p := ⟨gb185, 1, none⟩) (Kd.R_far (p := ⟨gb185, 0, none⟩) (Kd.R_types HO_186004.out BK185.out (by decide)) (fun _ hk => hk.2) (.string t192)) (fun _ hk => hk.2) (.string t193)) (fun _ hk => hk.2) (.int .i64 t194)) (fun _ hk => hk.2) (.slice Ao30 t195.length co30)) (fun _ hk => hk.2) (.slice Ao31 t198.length co31)) (fun _ hk => hk.2) (.string t201)) (fun _ hk => hk.2) (.string t202)) (fun _ hk => hk.2) (.string t203)) (fun _ hk => hk.2) (.string t204)) (fun _ hk => hk.2) (.bool t205)) (fun _ hk => hk.2) (.slice Ao32 t206.length co32)) (fun _ hk => hk.2) (.int .i64 t209)) (fun _ hk => hk.2) (.string t210)) (fun _ hk => hk.2) (.string t211)) (fun _ hk => hk.2) (.string t212)) (fun _ hk => hk.2) (.int .i64 t213)) (fun _ h_ => h_.1))))) (Kd.R_lt (by (with_reducible repeat (first | apply Kd.R_alloc | apply Kd.R_drewN | apply Kd.R_drew)); exact (Kd.R_mono (Kd.R_far (p := ⟨gb185, 15, none⟩) (Kd.R_far (p := ⟨gb185, 14, none⟩) (Kd.R_far (p := ⟨gb185, 13, none⟩) (Kd.R_far (p := ⟨gb185, 12, none⟩) (Kd.R_far (p := ⟨gb185, 11, none⟩) (Kd.R_far (p := ⟨gb185, 10, none⟩) (Kd.R_far (p := ⟨gb185, 9, none⟩) (Kd.R_far (p := ⟨gb185, 8, none⟩) (Kd.R_far (p := ⟨gb185, 7, none⟩) (Kd.R_far (p := ⟨gb185, 6, none⟩) (Kd.R_far (p := ⟨gb185, 5, none⟩) (Kd.R_far (p := ⟨gb185, 4, none⟩) (Kd.R_far (p := ⟨gb185, 3, none⟩) (Kd.R_far (p := ⟨gb185, 2, none⟩) (Kd.R_far (p := ⟨gb185, 1, none⟩) (Kd.R_far (p := ⟨gb185, 0, none⟩) (Kd.R_types HO200.out BK185.out (by decide)) (fun _ hk => hk.2) (.string t192)) (fun _ hk => hk.2) (.string t193)) (fun _ hk => hk.2) (.int .i64 t194)) (fun _ hk => hk.2) (.slice Ao30 t195.length co30)) (fun _ hk => hk.2) (.slice Ao31 t198.length co31)) (fun _ hk => hk.2) (.string t201)) (fun _ hk => hk.2) (.string t202)) (fun _ hk => hk.2) (.string t203)) (fun _ hk => hk.2) (.string t204)) (fun _ hk => hk.2) (.bool t205)) (fun _ hk => hk.2) (.slice Ao32 t206.length co32)) (fun _ hk => hk.2) (.int .i64 t209)) (fun _ hk => hk.2) (.string t210)) (fun _ hk => hk.2) (.string t211)) (fun _ hk => hk.2) (.string t212)) (fun _ hk => hk.2) (.int .i64 t213)) (fun _ h_ => h_.1))))) (below_size (by repeat (first | (with_reducible first | exact HB.out | apply below_alloc | apply pw_below_drewN | apply below_drew1 | refine below_set ?_ GE185.out) | exact HB.out)))); have n7_ := Aside0.mk (blk_below (g := gb185) (o := .cells #[.string t192, .string t193, .int .i64 t194, .slice Ao30 t195.length co30, .slice Ao31 t198.length co31, .string t201, .string t202, .string t203, .string t204, .bool t205, .slice Ao32 t206.length co32, .int .i64 t209, .string t210, .string t211, .string t212, .int .i64 t213] 27 (0, 0)) (by (with_reducible repeat (first | refine blk_drewN ?_ _ | refine blk_drew ?_ | refine blk_alloc ?_ _)); refine blk_put (cs := #[.string t192, .string t193, .int .i64 t194, .slice Ao30 t195.length co30, .slice Ao31 t198.length co31, .string t201, .string t202, .string t203, .string t204, .bool t205, .slice Ao32 t206.length co32, .int .i64 t209, .string t210, .string t211, .string t212, .int .i64 t184]) ?_ 15 _ rfl; (with_reducible repeat (first | refine blk_drewN ?_ _ | refine blk_drew ?_ | refine blk_alloc ?_ _)); refine blk_put (cs := #[.string t192, .string t193, .int .i64 t194, .slice Ao30 t195.length co30, .slice Ao31 t198.length co31, .string t201, .string t202, .string t203, .string t204, .bool t205, .slice Ao32 t206.length co32, .int .i64 t209, .string t210, .string t211, .string t183, .int .i64 t184]) ?_ 14 _ rfl; (with_reducible repeat (first | refine blk_drewN ?_ _ | refine blk_drew ?_ | refine blk_alloc ?_ _)); refine blk_put (cs := #[.string t192, .string t193, .int .i64 t194, .slice Ao30 t195.length co30, .slice Ao31 t198.length co31, .string t201, .string t202, .string t203, .string t204, .bool t205, .slice Ao32 t206.length co32, .int .i64 t209, .string t210, .string t182, .string t183, .int .i64 t184]) ?_ 13 _ rfl; (with_reducible repeat (first | refine blk_drewN ?_ _ | refine blk_drew ?_ | refine blk_alloc ?_ _)); refine blk_put (cs := #[.string t192, .string t193, .int .i64 t194, .slice Ao30 t195.length co30, .slice Ao31 t198.length co31, .string t201, .string t202, .string t203, .string t204, .bool t205, .slice Ao32 t206.length co32, .int .i64 t209, .string t181, .string t182, .string t183, .int .i64 t184]) ?_ 12 _ rfl; (with_reducible repeat (first | refine blk_drewN ?_ _ | refine blk_drew ?_ | refine blk_alloc ?_ _)); refine blk_put (cs := #[.string t192, .string t193, .int .i64 t194, .slice Ao30 t195.length co30, .slice Ao31 t198.length co31, .string t201, .string t202, .string t203, .string t204, .bool t205, .slice Ao32 t206.length co32, .int .i64 t180, .string t181, .string t182, .string t183, .int .i64 t184]) ?_ 11 _ rfl; (with_reducible repeat (first | refine blk_drewN ?_ _ | refine blk_drew ?_ | refine blk_alloc ?_ _)); refine blk_put (cs := #[.string t192, .string t193, .int .i64 t194, .slice Ao30 t195.length co30, .slice Ao31 t198.length co31, .string t201, .string t202, .string t203, .string t204, .bool t205, .slice Ao15 t177.length co15, .int .i64 t180, .string t181, .string t182, .string t183, .int .i64 t184]) ?_ 10 _ rfl; (with_reducible repeat (first | refine blk_drewN ?_ _ | refine blk_drew ?_ | refine blk_alloc ?_ _)); refine blk_put (cs := #[.string t192, .string t193, .int .i64 t194, .slice Ao30 t195.length co30, .slice Ao31 t198.length co31, .string t201, .string t202, .string t203, .string t204, .bool t176, .slice Ao15 t177.length co15, .int .i64 t180, .string t181, .string t182, .string t183, .int .i64 t184]) ?_ 9 _ rfl; (with_reducible repeat (first | refine blk_drewN ?_ _ | refine blk_drew ?_ | refine blk_alloc ?_ _)); refine blk_put (cs := #[.string t192, .string t193, .int .i64 t194, .slice Ao30 t195.length co30, .slice Ao31 t198.length co31, .string t201, .string t202, .string t203, .string t175, .bool t176, .slice Ao15 t177.length co15, .int .i64 t180, .string t181, .string t182, .string t183, .int .i64 t184]) ?_ 8 _ rfl; (with_reducible repeat (first | refine blk_drewN ?_ _ | refine blk_drew ?_ | refine blk_alloc ?_ _)); refine blk_put (cs := #[.string t192, .string t193, .int .i64 t194, .slice Ao30 t195.length co30, .slice Ao31 t198.length co31, .string t201, .string t202, .string t174, .string t175, .bool t176, .slice Ao15 t177.length co15, .int .i64 t180, .string t181, .string t182, .string t183, .int .i64 t184]) ?_ 7 _ rfl; (with_reducible repeat (first | refine blk_drewN ?_ _ | refine blk_drew ?_ | refine blk_alloc ?_ _)); refine blk_put (cs := #[.string t192, .string t193, .int .i64 t194, .slice Ao30 t195.length co30, .slice Ao31 t198.length co31, .string t201, .string t173, .string t174, .string t175, .bool t176, .slice Ao15 t177.length co15, .int .i64 t180, .string t181, .string t182, .string t183, .int .i64 t184]) ?_ 6 _ rfl; (with_reducible repeat (first | refine blk_drewN ?_ _ | refine blk_drew ?_ | refine blk_alloc ?_ _)); refine blk_put (cs := #[.string t192, .string t193, .int .i64 t194, .slice Ao30 t195.length co30, .slice Ao31 t198.length co31, .string t172, .string t173, .string t174, .string t175, .bool t176, .slice Ao15 t177.length co15, .int .i64 t180, .string t181, .string t182, .string t183, .int .i64 t184]) ?_ 5 _ rfl; (with_reducible repeat (first | refine blk_drewN ?_ _ | refine blk_drew ?_ | refine blk_alloc ?_ _)); refine blk_put (cs := #[.string t192, .string t193, .int .i64 t194, .slice Ao30 t195.length co30, .slice Ao14 t169.length co14, .string t172, .string t173, .string t174, .string t175, .bool t176, .slice Ao15 t177.length co15, .int .i64 t180, .string t181, .string t182, .string t183, .int .i64 t184]) ?_ 4 _ rfl; (with_reducible repeat (first | refine blk_drewN ?_ _ | refine blk_drew ?_ | refine blk_alloc ?_ _)); refine blk_put (cs := #[.string t192, .string t193, .int .i64 t194, u186003, .slice Ao14 t169.length co14, .string t172, .string t173, .string t174, .string t175, .bool t176, .slice Ao15 t177.length co15, .int .i64 t180, .string t181, .string t182, .string t183, .int .i64 t184]) ?_ 3 _ rfl; (with_reducible repeat (first | refine blk_drewN ?_ _ | refine blk_drew ?_ | refine blk_alloc ?_ _)); refine blk_put (cs := #[.string t192, .string t193, .int .i64 t165, u186003, .slice Ao14 t169.length co14, .string t172, .string t173, .string t174, .string t175, .bool t176, .slice Ao15 t177.length co15, .int .i64 t180, .string t181, .string t182, .string t183, .int .i64 t184]) ?_ 2 _ rfl; (with_reducible repeat (first | refine blk_drewN ?_ _ | refine blk_drew ?_ | refine blk_alloc ?_ _)); refine blk_put (cs := #[.string t192, .string t164, .int .i64 t165, u186003, .slice Ao14 t169.length co14, .string t172, .string t173, .string t174, .string t175, .bool t176, .slice Ao15 t177.length co15, .int .i64 t180, .string t181, .string t182, .string t183, .int .i64 t184]) ?_ 1 _ rfl; (with_reducible repeat (first | refine blk_drewN ?_ _ | refine blk_drew ?_ | refine blk_alloc ?_ _)); refine blk_put (cs := #[.string t163, .string t164, .int .i64 t165, u186003, .slice Ao14 t169.length co14, .string t172, .string t173, .string t174, .string t175, .bool t176, .slice Ao15 t177.length co15, .int .i64 t180, .string t181, .string t182, .string t183, .int .i64 t184]) ?_ 0 _ rfl; (with_reducible repeat (first | refine blk_drewN ?_ _ | refine blk_drew ?_ | refine blk_alloc ?_ _)); exact BK185.out) hb); have n8_ := Aside0.mk (below_step (by repeat (first | (with_reducible first | exact HB.out | apply below_alloc | apply pw_below_drewN | apply below_drew1 | refine below_set ?_ GE185.out) | exact HB.out)) hb); clear HO_186003; clear HO_186004; clear HO_186010; clear HO197; clear HO200; clear HO208; clear BK185; clear HB; have HO_186003 := n0_; have HO_186004 := n1_; have HO_186010 := n2_; have HO197 := n3_; have HO200 := n4_; have HO208 := n5_; have HO216 := n6_; have BK185 := n7_; have HB := n8_; clear n0_ n1_ n2_ n3_ n4_ n5_ n6_ n7_ n8_; clear hb ho34; obtain ⟨Ao35, co35, eo35⟩ := Kd.R_slice HO216.out; subst eo35; have hcz36_0 : w33.cell? ⟨gb185, 0, none⟩ = some (.string t192) := (blk_cell BK185.out 0).trans rfl; have hcz36_1 : w33.cell? ⟨gb185, 1, none⟩ = some (.string t193) := (blk_cell BK185.out 1).trans rfl; have hcz36_2 : w33.cell? ⟨gb185, 2, none⟩ = some (.int .i64 t194) := (blk_cell BK185.out 2).trans rfl; have hcz36_3 : w33.cell? ⟨gb185, 3, none⟩ = some (.slice Ao30 t195.length co30) := (blk_cell BK185.out 3).trans rfl; have hcz36_4 : w33.cell? ⟨gb185, 4, none⟩ = some (.slice Ao31 t198.length co31) := (blk_cell BK185.out 4).trans rfl; have hcz36_5 : w33.cell? ⟨gb185, 5, none⟩ = some (.string t201) := (blk_cell BK185.out 5).trans rfl; have hcz36_6 : w33.cell? ⟨gb185, 6, none⟩ = some (.string t202) := (blk_cell BK185.out 6).trans rfl; have hcz36_7 : w33.cell? ⟨gb185, 7, none⟩ = some (.string t203) := (blk_cell BK185.out 7).trans rfl; have hcz36_8 : w33.cell? ⟨gb185, 8, none⟩ = some (.string t204) := (blk_cell BK185.out 8).trans rfl; have hcz36_9 : w33.cell? ⟨gb185, 9, none⟩ = some (.bool t205) := (blk_cell BK185.out 9).trans rfl; have hcz36_10 : w33.cell? ⟨gb185, 10, none⟩ = some (.slice Ao32 t206.length co32) := (blk_cell BK185.out 10).trans rfl; have hcz36_11 : w33.cell? ⟨gb185, 11, none⟩ = some (.int .i64 t209) := (blk_cell BK185.out 11).trans rfl; have hcz36_12 : w33.cell? ⟨gb185, 12, none⟩ = some (.string t210) := (blk_cell BK185.out 12).trans rfl; have hcz36_13 : w33.cell? ⟨gb185, 13, none⟩ = some (.string t211) := (blk_cell BK185.out 13).trans rfl; have hcz36_14 : w33.cell? ⟨gb185, 14, none⟩ = some (.string t212) := (blk_cell BK185.out 14).trans rfl; have hcz36_15 : w33.cell? ⟨gb185, 15, none⟩ = some (.int .i64 t213) := (blk_cell BK185.out 15).trans rfl; have hfz36_0 := blk_frozen BK185.out 0; have hfz36_1 := blk_frozen BK185.out 1; have hfz36_2 := blk_frozen BK185.out 2; have hfz36_3 := blk_frozen BK185.out 3; have hfz36_4 := blk_frozen BK185.out 4; have hfz36_5 := blk_frozen BK185.out 5; have hfz36_6 := blk_frozen BK185.out 6; have hfz36_7 := blk_frozen BK185.out 7; have hfz36_8 := blk_frozen BK185.out 8; have hfz36_9 := blk_frozen BK185.out 9; have hfz36_10 := blk_frozen BK185.out 10; have hfz36_11 := blk_frozen BK185.out 11; have hfz36_12 := blk_frozen BK185.out 12; have hfz36_13 := blk_frozen BK185.out 13; have hfz36_14 := blk_frozen BK185.out 14; have hfz36_15 := blk_frozen BK185.out 15))
                  go_meet
                  case rel => exact ⟨_, (wrap64 ((wrap64 ((wrap64 (1000 * a0)) * (wrap64 (60 - a0)))) + (wrap64 (a0 * a0)))), (t192), (t193), (t194), (t195), (y214), (t201), (t202), (t203), (t204), (t205), (t206), (t209), (t210), (t211), (t212), (t213), (.slice Ao30 t195.length co30), (.slice Ao35 y214.length co35), (.slice Ao32 t206.length co32), (by first | rfl | (simp; done) | (simp [*]; done)), H', ⟨by have := HJ3.out; have := HK2.out; first | omega | exact Nat.le_refl _⟩, ⟨by (with_reducible repeat (first | apply Kd.R_alloc | apply Kd.R_drewN | apply Kd.R_drew)); exact Kd.R_mono (Kd.R_far (p := ⟨gb185, 4, none⟩) (Kd.R_types HO197.out BK185.out (by decide)) (fun _ hk => hk.2) (.slice Ao35 y214.length co35)) (fun _ hk => by first | exact trivial | simp [hk])⟩, ⟨by (with_reducible repeat (first | apply Kd.R_alloc | apply Kd.R_drewN | apply Kd.R_drew)); exact Kd.R_mono (Kd.R_far (p := ⟨gb185, 4, none⟩) (Kd.R_types HO216.out BK185.out (by decide)) (fun _ hk => hk.2) (.slice Ao35 y214.length co35)) (fun _ hk => by first | exact trivial | simp [hk])⟩, ⟨by (with_reducible repeat (first | apply Kd.R_alloc | apply Kd.R_drewN | apply Kd.R_drew)); exact Kd.R_mono (Kd.R_far (p := ⟨gb185, 4, none⟩) (Kd.R_types HO208.out BK185.out (by decide)) (fun _ hk => hk.2) (.slice Ao35 y214.length co35)) (fun _ hk => by first | exact trivial | simp [hk])⟩, ⟨by (with_reducible repeat (first | refine blk_drewN ?_ _ | refine blk_drew ?_ | refine blk_alloc ?_ _)); refine blk_put (cs := #[.string t192, .string t193, .int .i64 t194, .slice Ao30 t195.length co30, .slice Ao31 t198.length co31, .string t201, .string t202, .string t203, .string t204, .bool t205, .slice Ao32 t206.length co32, .int .i64 t209, .string t210, .string t211, .string t212, .int .i64 t213]) ?_ 4 _ rfl; (with_reducible repeat (first | refine blk_drewN ?_ _ | refine blk_drew ?_ | refine blk_alloc ?_ _)); exact BK185.out⟩, ⟨by repeat (first | (with_reducible first | exact HB.out | apply below_alloc | apply pw_below_drewN | apply below_drew1 | refine below_set ?_ GE185.out) | exact HB.out)⟩⟩
                · replace c23 := Bool.eq_false_iff.mpr c23
                  subst c23
                  have H1 : (fleuronlaw9_SystemSizes.j2 k2 a0 a1 false (wrap64 (60 * a0)) t163 t164 t165 x186003_2 t169 t172 t173 t174 t175 t176 t177 t180 t181 t182 t183 t184) = some r := by rw [if_neg (show ¬ (false = true) by decide)] at H; exact H
                  clear H
                  have H := H1
                  clear H1
                  have H' := Aside0.mk H
                  clear H
                  go_wp2
                  go_meet
                  case rel => exact ⟨_, (wrap64 (60 * a0)), (t163), (t164), (t165), (x186003_2), (t169), (t172), (t173), (t174), (t175), (t176), (t177), (t180), (t181), (t182), (t183), (t184), (u186003), (.slice Ao14 t169.length co14), (.slice Ao15 t177.length co15), (by first | rfl | (simp; done) | (simp [*]; done)), H', ⟨by have := HJ3.out; have := HK2.out; first | omega | exact Nat.le_refl _⟩, ⟨by (with_reducible repeat (first | apply Kd.R_alloc | apply Kd.R_drewN | apply Kd.R_drew)); exact HO_186003.out⟩, ⟨by (with_reducible repeat (first | apply Kd.R_alloc | apply Kd.R_drewN | apply Kd.R_drew)); exact HO_186004.out⟩, ⟨by (with_reducible repeat (first | apply Kd.R_alloc | apply Kd.R_drewN | apply Kd.R_drew)); exact HO_186010.out⟩, ⟨by (with_reducible repeat (first | refine blk_drewN ?_ _ | refine blk_drew ?_ | refine blk_alloc ?_ _)); exact BK185.out⟩, ⟨by repeat (first | (with_reducible first | exact HB.out | apply below_alloc | apply pw_below_drewN | apply below_drew1 | refine below_set ?_ GE185.out) | exact HB.out)⟩⟩
              case rest =>
                clear HC22
                try clear c1
                try clear c2
                try clear p2
                try clear c4
                try clear c5
                try clear c5b0
                try clear c6
                try clear p6
                try clear c10
                try clear c13
                try clear c16
                try clear c16b0
                try clear c17
                try clear c23
                try clear hcz12_0
                try clear hcz12_1
                try clear hcz12_10
                try clear hcz12_11
                try clear hcz12_12
                try clear hcz12_13
                try clear hcz12_14
                try clear hcz12_15
                try clear hcz12_2
                try clear hcz12_3
                try clear hcz12_4
                try clear hcz12_5
                try clear hcz12_6
                try clear hcz12_7
                try clear hcz12_8
                try clear hcz12_9
                try clear hcz18_0
                try clear hcz18_1
                try clear hcz18_10
                try clear hcz18_11
                try clear hcz18_12
                try clear hcz18_13
                try clear hcz18_14
                try clear hcz18_15
                try clear hcz18_2
                try clear hcz18_3
                try clear hcz18_4
                try clear hcz18_5
                try clear hcz18_6
                try clear hcz18_7
                try clear hcz18_8
                try clear hcz18_9
                try clear hcz21_0
                try clear hcz21_1
                try clear hcz21_10
                try clear hcz21_11
                try clear hcz21_12
                try clear hcz21_13
                try clear hcz21_14
                try clear hcz21_15
                try clear hcz21_2
                try clear hcz21_3
                try clear hcz21_4
                try clear hcz21_5
                try clear hcz21_6
                try clear hcz21_7
                try clear hcz21_8
                try clear hcz21_9
                try clear hcz29_0
                try clear hcz29_1
                try clear hcz29_10
                try clear hcz29_11
                try clear hcz29_12
                try clear hcz29_13
                try clear hcz29_14
                try clear hcz29_15
                try clear hcz29_2
                try clear hcz29_3
                try clear hcz29_4
                try clear hcz29_5
                try clear hcz29_6
                try clear hcz29_7
                try clear hcz29_8
                try clear hcz29_9
                try clear hcz36_0
                try clear hcz36_1
                try clear hcz36_10
                try clear hcz36_11
                try clear hcz36_12
                try clear hcz36_13
                try clear hcz36_14
                try clear hcz36_15
                try clear hcz36_2
                try clear hcz36_3
                try clear hcz36_4
                try clear hcz36_5
                try clear hcz36_6
                try clear hcz36_7
                try clear hcz36_8
                try clear hcz36_9
                try clear hfz12_0
                try clear hfz12_1
                try clear hfz12_10
                try clear hfz12_11
                try clear hfz12_12
                try clear hfz12_13
                try clear hfz12_14
                try clear hfz12_15
                try clear hfz12_2
                try clear hfz12_3
                try clear hfz12_4
                try clear hfz12_5
                try clear hfz12_6
                try clear hfz12_7
                try clear hfz12_8
                try clear hfz12_9
                try clear hfz18_0
                try clear hfz18_1
                try clear hfz18_10
                try clear hfz18_11
                try clear hfz18_12
                try clear hfz18_13
                try clear hfz18_14
                try clear hfz18_15
                try clear hfz18_2
                try clear hfz18_3
                try clear hfz18_4
                try clear hfz18_5
                try clear hfz18_6
                try clear hfz18_7
                try clear hfz18_8
                try clear hfz18_9
                try clear hfz21_0
                try clear hfz21_1
                try clear hfz21_10
                try clear hfz21_11
                try clear hfz21_12
                try clear hfz21_13
                try clear hfz21_14
                try clear hfz21_15
                try clear hfz21_2
                try clear hfz21_3
                try clear hfz21_4
                try clear hfz21_5
                try clear hfz21_6
                try clear hfz21_7
                try clear hfz21_8
                try clear hfz21_9
                try clear hfz29_0
                try clear hfz29_1
                try clear hfz29_10
                try clear hfz29_11
                try clear hfz29_12
                try clear hfz29_13
                try clear hfz29_14
                try clear hfz29_15
                try clear hfz29_2
                try clear hfz29_3
                try clear hfz29_4
                try clear hfz29_5
                try clear hfz29_6
                try clear hfz29_7
                try clear hfz29_8
                try clear hfz29_9
                try clear hfz36_0
                try clear hfz36_1
                try clear hfz36_10
                try clear hfz36_11
                try clear hfz36_12
                try clear hfz36_13
                try clear hfz36_14
                try clear hfz36_15
                try clear hfz36_2
                try clear hfz36_3
                try clear hfz36_4
                try clear hfz36_5
                try clear hfz36_6
                try clear hfz36_7
                try clear hfz36_8
                try clear hfz36_9
                try clear p2
                obtain ⟨kq, x9_21, x186000_21, x186001_21, x186002_21, x186003_21, x186004_21, x186005_21, x186006_21, x186007_21, x186008_21, x186009_21, x186010_21, x186011_21, x186012_21, x186013_21, x186014_21, x186015_21, u186003, u186004, u186010, rfl, HA, HJ21, HO_186003, HO_186004, HO_186010, BK185, HB⟩ := hcut
                cases kq with
                | zero => exact absurd HA.out (by simp [fleuronlaw9_SystemSizes.j2])
                | succ kj21 =>
                  have H := HA.out
                  clear HA
                  simp only [fleuronlaw9_SystemSizes.j2] at H
                  by_cases c37 : a1 = true
                  · subst c37
                    have H1 : (if a2 = true then ((system_Signs.f kj21 x186000_21 x186001_21 x186002_21 x186003_21 x186004_21 x186005_21 x186006_21 x186007_21 x186008_21 x186009_21 x186010_21 x186011_21 x186012_21 x186013_21 x186014_21 x186015_21 (wrap64 (x9_21 + a0))).bind fun bt217 => (if (bt217.2 == (!true)) = true then ((some (([0, 60] : List Int) : List Int)).bind fun y219 => ((fleuronlaw9_map2.f bt217.2).bind fun t222 => (if 0 ≤ t222 then (if t222 < (y219.length : Int) then (if (bt217.1.size : Int) = (rd y219 t222) then ((fleuronlaw9_awake.f).bind fun t224 => (some t224)) else (some false)) else (none)) else (none)))) else (some false))) else ((system_Signs.f kj21 x186000_21 x186001_21 x186002_21 x186003_21 x186004_21 x186005_21 x186006_21 x186007_21 x186008_21 x186009_21 x186010_21 x186011_21 x186012_21 x186013_21 x186014_21 x186015_21 (wrap64 ((wrap64 (60 * a0)) + 1))).bind fun bt225 => (if (bt225.2 == (!true)) = true then ((some (([0, 60] : List Int) : List Int)).bind fun y227 => ((fleuronlaw9_map2.f bt225.2).bind fun t230 => (if 0 ≤ t230 then (if t230 < (y227.length : Int) then (if (bt225.1.size : Int) = (rd y227 t230) then ((fleuronlaw9_awake.f).bind fun t232 => (some t232)) else (some false)) else (none)) else (none)))) else (some false)))) = some r := by rw [if_pos rfl] at H; exact H
                    clear H
                    have H := H1
                    clear H1
                    by_cases c38 : a2 = true
                    · subst c38
                      have H1 : ((system_Signs.f kj21 x186000_21 x186001_21 x186002_21 x186003_21 x186004_21 x186005_21 x186006_21 x186007_21 x186008_21 x186009_21 x186010_21 x186011_21 x186012_21 x186013_21 x186014_21 x186015_21 (wrap64 (x9_21 + a0))).bind fun bt217 => (if (bt217.2 == (!true)) = true then ((some (([0, 60] : List Int) : List Int)).bind fun y219 => ((fleuronlaw9_map2.f bt217.2).bind fun t222 => (if 0 ≤ t222 then (if t222 < (y219.length : Int) then (if (bt217.1.size : Int) = (rd y219 t222) then ((fleuronlaw9_awake.f).bind fun t224 => (some t224)) else (some false)) else (none)) else (none)))) else (some false))) = some r := by rw [if_pos rfl] at H; exact H
                      clear H
                      have H := H1
                      clear H1
                      replace H := Option.bind_eq_some_iff.mp H
                      obtain ⟨⟨t217, t218⟩, A390, H⟩ := H
                      replace H : (if (t218 == (!true)) = true then ((some (([0, 60] : List Int) : List Int)).bind fun y219 => ((fleuronlaw9_map2.f t218).bind fun t222 => (if 0 ≤ t222 then (if t222 < (y219.length : Int) then (if (t217.size : Int) = (rd y219 t222) then ((fleuronlaw9_awake.f).bind fun t224 => (some t224)) else (some false)) else (none)) else (none)))) else (some false)) = some r := H
                      have A39 := Aside0.mk A390
                      clear A390
                      by_cases c40 : (t218 == (!true)) = true
                      · rw [if_pos c40] at H
                        have c40b0 : (t218 == (!true)) = true := c40
                        have E218 := Aside0.mk (show t218 = false by simpa using c40)
                        have F218 := E218.out
                        (try (have c40b1 : decide (t218 = (!true)) = true := by simpa using c40))
                        (try (have c40b2 : (t218 == (!true)) = true := by simpa using c40))
                        clear c40
                        obtain ⟨y219, hy219⟩ : ∃ y_ : List Int, y_ = (([0, 60] : List Int)) := ⟨_, rfl⟩
                        replace H : ((fleuronlaw9_map2.f t218).bind fun t222 => (if 0 ≤ t222 then (if t222 < (y219.length : Int) then (if (t217.size : Int) = (rd y219 t222) then ((fleuronlaw9_awake.f).bind fun t224 => (some t224)) else (some false)) else (none)) else (none))) = some r := by first | (rw [hy219]; with_reducible exact H) | (have H2_ := (Option.bind_some _ _).symm.trans H; rw [hy219]; with_reducible exact H2_) | (have H2_ := (Option.bind_some _ _).symm.trans H; with_reducible exact H2_) | with_reducible exact H | (rw [hy219]; exact H) | exact H
                        have Ny219 := Aside0.mk hy219
                        clear hy219
                        replace H := Option.bind_eq_some_iff.mp H
                        obtain ⟨t222, A410, H⟩ := H
                        replace H : (if 0 ≤ t222 then (if t222 < (y219.length : Int) then (if (t217.size : Int) = (rd y219 t222) then ((fleuronlaw9_awake.f).bind fun t224 => (some t224)) else (some false)) else (none)) else (none)) = some r := H
                        have A41 := Aside0.mk A410
                        clear A410
                        by_cases c42 : 0 ≤ t222
                        · rw [if_pos c42] at H
                          have c42b0 : decide (0 ≤ t222) = true := decide_eq_true c42
                          clear c42
                          by_cases c43 : t222 < (y219.length : Int)
                          · rw [if_pos c43] at H
                            have c43b0 : decide (t222 < (y219.length : Int)) = true := decide_eq_true c43
                            clear c43
                            by_cases c44 : (t217.size : Int) = (rd y219 t222)
                            · rw [if_pos c44] at H
                              have c44b0 : ((t217.size : Int) == (rd y219 t222)) = true := beq_iff_eq.mpr c44
                              have c44b1 : ((t217.size : Int) != (rd y219 t222)) = false := bne_eq_false_iff_eq.mpr c44
                              clear c44
                              replace H := Option.bind_eq_some_iff.mp H
                              obtain ⟨t224, A450, H⟩ := H
                              replace H : (some t224) = some r := H
                              have A45 := Aside0.mk A450
                              clear A450
                              obtain rfl := Option.some.inj H
                              have hcz46_0 : wc.cell? ⟨gb185, 0, none⟩ = some (.string x186000_21) := (blk_cell BK185.out 0).trans rfl
                              have hcz46_1 : wc.cell? ⟨gb185, 1, none⟩ = some (.string x186001_21) := (blk_cell BK185.out 1).trans rfl
                              have hcz46_2 : wc.cell? ⟨gb185, 2, none⟩ = some (.int .i64 x186002_21) := (blk_cell BK185.out 2).trans rfl
                              have hcz46_3 : wc.cell? ⟨gb185, 3, none⟩ = some (u186003) := (blk_cell BK185.out 3).trans rfl
                              have hcz46_4 : wc.cell? ⟨gb185, 4, none⟩ = some (u186004) := (blk_cell BK185.out 4).trans rfl
                              have hcz46_5 : wc.cell? ⟨gb185, 5, none⟩ = some (.string x186005_21) := (blk_cell BK185.out 5).trans rfl
                              have hcz46_6 : wc.cell? ⟨gb185, 6, none⟩ = some (.string x186006_21) := (blk_cell BK185.out 6).trans rfl
                              have hcz46_7 : wc.cell? ⟨gb185, 7, none⟩ = some (.string x186007_21) := (blk_cell BK185.out 7).trans rfl
                              have hcz46_8 : wc.cell? ⟨gb185, 8, none⟩ = some (.string x186008_21) := (blk_cell BK185.out 8).trans rfl
                              have hcz46_9 : wc.cell? ⟨gb185, 9, none⟩ = some (.bool x186009_21) := (blk_cell BK185.out 9).trans rfl
                              have hcz46_10 : wc.cell? ⟨gb185, 10, none⟩ = some (u186010) := (blk_cell BK185.out 10).trans rfl
                              have hcz46_11 : wc.cell? ⟨gb185, 11, none⟩ = some (.int .i64 x186011_21) := (blk_cell BK185.out 11).trans rfl
                              have hcz46_12 : wc.cell? ⟨gb185, 12, none⟩ = some (.string x186012_21) := (blk_cell BK185.out 12).trans rfl
                              have hcz46_13 : wc.cell? ⟨gb185, 13, none⟩ = some (.string x186013_21) := (blk_cell BK185.out 13).trans rfl
                              have hcz46_14 : wc.cell? ⟨gb185, 14, none⟩ = some (.string x186014_21) := (blk_cell BK185.out 14).trans rfl
                              have hcz46_15 : wc.cell? ⟨gb185, 15, none⟩ = some (.int .i64 x186015_21) := (blk_cell BK185.out 15).trans rfl
                              have hfz46_0 := blk_frozen BK185.out 0
                              have hfz46_1 := blk_frozen BK185.out 1
                              have hfz46_2 := blk_frozen BK185.out 2
                              have hfz46_3 := blk_frozen BK185.out 3
                              have hfz46_4 := blk_frozen BK185.out 4
                              have hfz46_5 := blk_frozen BK185.out 5
                              have hfz46_6 := blk_frozen BK185.out 6
                              have hfz46_7 := blk_frozen BK185.out 7
                              have hfz46_8 := blk_frozen BK185.out 8
                              have hfz46_9 := blk_frozen BK185.out 9
                              have hfz46_10 := blk_frozen BK185.out 10
                              have hfz46_11 := blk_frozen BK185.out 11
                              have hfz46_12 := blk_frozen BK185.out 12
                              have hfz46_13 := blk_frozen BK185.out 13
                              have hfz46_14 := blk_frozen BK185.out 14
                              have hfz46_15 := blk_frozen BK185.out 15
                              obtain ⟨Ao47, co47, eo47⟩ := Kd.R_slice HO_186003.out
                              subst eo47
                              obtain ⟨Ao48, co48, eo48⟩ := Kd.R_slice HO_186004.out
                              subst eo48
                              obtain ⟨Ao49, co49, eo49⟩ := Kd.R_slice HO_186010.out
                              subst eo49
                              go_wp2_with (first | ((with_reducible refine gate_callee (f := 11) rfl ?_); refine goesL_ (some 61) rfl rfl Try.func11 (by kernel_rfl) rfl #[.agg #[.string x186000_21, .string x186001_21, .int .i64 x186002_21, .slice Ao47 x186003_21.length co47, .slice Ao48 x186004_21.length co48, .string x186005_21, .string x186006_21, .string x186007_21, .string x186008_21, .bool x186009_21, .slice Ao49 x186010_21.length co49, .int .i64 x186011_21, .string x186012_21, .string x186013_21, .string x186014_21, .int .i64 x186015_21], .int .i64 (wrap64 (x9_21 + a0))] rfl (by (try simp only [List.map_toArray, List.map_cons, List.map_nil]); first | done | rfl | (simp only [List.length_drop, List.length_take]; rfl)) ?_; (with_reducible refine (system_Signs.calls kj21 x186000_21 x186001_21 x186002_21 _ _ x186003_21 _ _ x186004_21 x186005_21 x186006_21 x186007_21 x186008_21 x186009_21 _ _ x186010_21 x186011_21 x186012_21 x186013_21 x186014_21 x186015_21 (wrap64 (x9_21 + a0)) t217 t218 _ ?side1 ?side2 ?side3 ?side4 ?side5 ?side6 A39.out).mono ?_); (case side1 => repeat (first | exact (Kd.R_reads' HO_186003.out).2.2 | (with_reducible refine Kd.C_alloc ?_ _) | (with_reducible refine Kd.C_drewN ?_ _) | (with_reducible refine Kd.C_drew ?_))); (case side2 => exact (Kd.R_reads' HO_186003.out).2.1); (case side3 => repeat (first | exact (Kd.R_reads' HO_186004.out).2.2 | (with_reducible refine Kd.C_alloc ?_ _) | (with_reducible refine Kd.C_drewN ?_ _) | (with_reducible refine Kd.C_drew ?_))); (case side4 => exact (Kd.R_reads' HO_186004.out).2.1); (case side5 => repeat (first | exact (Kd.R_reads' HO_186010.out).2.2 | (with_reducible refine Kd.C_alloc ?_ _) | (with_reducible refine Kd.C_drewN ?_ _) | (with_reducible refine Kd.C_drew ?_))); (case side6 => exact (Kd.R_reads' HO_186010.out).2.1); rintro e w50 ⟨rfl, hb⟩; refine ⟨_, rfl, ?_⟩; have n0_ := Aside0.mk (Kd.R_below (by (with_reducible repeat (first | apply Kd.R_alloc | apply Kd.R_drewN | apply Kd.R_drew)); exact HO_186003.out) hb); have n1_ := Aside0.mk (Kd.R_below (by (with_reducible repeat (first | apply Kd.R_alloc | apply Kd.R_drewN | apply Kd.R_drew)); exact HO_186004.out) hb); have n2_ := Aside0.mk (Kd.R_below (by (with_reducible repeat (first | apply Kd.R_alloc | apply Kd.R_drewN | apply Kd.R_drew)); exact HO_186010.out) hb); have n3_ := Aside0.mk (blk_below (g := gb185) (o := .cells #[.string x186000_21, .string x186001_21, .int .i64 x186002_21, .slice Ao47 x186003_21.length co47, .slice Ao48 x186004_21.length co48, .string x186005_21, .string x186006_21, .string x186007_21, .string x186008_21, .bool x186009_21, .slice Ao49 x186010_21.length co49, .int .i64 x186011_21, .string x186012_21, .string x186013_21, .string x186014_21, .int .i64 x186015_21] 27 (0, 0)) (by (with_reducible repeat (first | refine blk_drewN ?_ _ | refine blk_drew ?_ | refine blk_alloc ?_ _)); exact BK185.out) hb); have n4_ := Aside0.mk (below_step (by repeat (first | (with_reducible first | exact HB.out | apply below_alloc | apply pw_below_drewN | apply below_drew1 | refine below_set ?_ GE185.out) | exact HB.out)) hb); clear HO_186003; clear HO_186004; clear HO_186010; clear BK185; clear HB; have HO_186003 := n0_; have HO_186004 := n1_; have HO_186010 := n2_; have BK185 := n3_; have HB := n4_; clear n0_ n1_ n2_ n3_ n4_; (try clear hb); (try clear hb2); (try clear hk); (try clear hi)) | ((with_reducible refine gate_dst (N := 71) rfl ?_); (try (refine gate_guard (by rfl) ?_; dsimp only)); refine Kd.R_lit (Kd.int .i64) _ 3 ?hg (N := 71) ?hd (xs := ([0, 60] : List Int)) (inner := [.int .i64 0, .int .i64 60]) (ok := fun _ => True) (okp := fun _ => True) ?hr ?hp (fun _ hk => hk) trivial (Below.refl _ _) (Nat.le_refl _) (by simp) ?_; (case hd => rfl); (case hg => rfl); (case hr => first | (go_simp; done) | (go_simp; rfl)); (case hp => exact (Reps.one (show Kd.M (Kd.int .i64) _ _ _ 0 [.int .i64 0] from rfl) (Reps.one (show Kd.M (Kd.int .i64) _ _ _ 60 [.int .i64 60] from rfl) (Reps.none _ _)))); intro v220 w51 ho52 hb hg_ hnew_; clear hg_ hnew_; (first | rw [← Ny219.out] at ho52 | (simp only [Int.reduceToNat] at ho52; rw [← Ny219.out] at ho52)); have n0_ := Aside0.mk (Kd.R_below (by (with_reducible repeat (first | apply Kd.R_alloc | apply Kd.R_drewN | apply Kd.R_drew)); exact HO_186003.out) hb); have n1_ := Aside0.mk (Kd.R_elder' (by (with_reducible repeat (first | apply Kd.R_alloc | apply Kd.R_drewN | apply Kd.R_drew)); exact HO_186004.out) (Kd.R_base ho52) hb); have n2_ := Aside0.mk (Kd.R_below (by (with_reducible repeat (first | apply Kd.R_alloc | apply Kd.R_drewN | apply Kd.R_drew)); exact HO_186010.out) hb); have n3_ := Aside0.mk (Kd.R_lower (Kd.R_new' ho52 (Kd.R_lt (by (with_reducible repeat (first | apply Kd.R_alloc | apply Kd.R_drewN | apply Kd.R_drew)); exact HO_186004.out))) (below_size (by repeat (first | (with_reducible first | exact HB.out | apply below_alloc | apply pw_below_drewN | apply below_drew1 | refine below_set ?_ GE185.out) | exact HB.out)))); have n4_ := Aside0.mk (blk_below (g := gb185) (o := .cells #[.string x186000_21, .string x186001_21, .int .i64 x186002_21, .slice Ao47 x186003_21.length co47, .slice Ao48 x186004_21.length co48, .string x186005_21, .string x186006_21, .string x186007_21, .string x186008_21, .bool x186009_21, .slice Ao49 x186010_21.length co49, .int .i64 x186011_21, .string x186012_21, .string x186013_21, .string x186014_21, .int .i64 x186015_21] 27 (0, 0)) (by (with_reducible repeat (first | refine blk_drewN ?_ _ | refine blk_drew ?_ | refine blk_alloc ?_ _)); exact BK185.out) hb); have n5_ := Aside0.mk (below_step (by repeat (first | (with_reducible first | exact HB.out | apply below_alloc | apply pw_below_drewN | apply below_drew1 | refine below_set ?_ GE185.out) | exact HB.out)) hb); clear HO_186003; clear HO_186004; clear HO_186010; clear BK185; clear HB; have HO_186003 := n0_; have HO_186004 := n1_; have HO_186010 := n2_; have HO221 := n3_; have BK185 := n4_; have HB := n5_; clear n0_ n1_ n2_ n3_ n4_ n5_; clear hb ho52) | (go_at_call 14; (with_reducible refine (fleuronlaw9_map2.calls false t222 _ (by have h_ := A41.out; rw [E218.out] at h_; exact h_)).mono ?_); rintro e w' ⟨rfl, ⟨nd, rfl⟩⟩; obtain ⟨Ao53, co53, eo53⟩ := Kd.R_slice HO221.out; subst eo53; have p223 : 0 ≤ (t222 : Int) := of_decide_eq_true (by first | (with_reducible assumption) | assumption); have q223 : t222 < (y219.length : Int) := of_decide_eq_true (by first | (with_reducible assumption) | assumption); obtain ⟨ad223, e223, hx223_0⟩ := Kd.at_int (Kd.R_reads' HO221.out).2.2 t222 p223 q223; cases e223; replace p223 := eq_true p223; replace q223 := eq_true q223) | (go_at_call 10; (with_reducible refine (fleuronlaw9_awake.calls  t224 _ A45.out ht_.out).mono ?_); rintro e w54 ⟨rfl, hb⟩; have n0_ := Aside0.mk (Kd.R_below (by (with_reducible repeat (first | apply Kd.R_alloc | apply Kd.R_drewN | apply Kd.R_drew)); exact HO_186003.out) hb); have n1_ := Aside0.mk (Kd.R_below (by (with_reducible repeat (first | apply Kd.R_alloc | apply Kd.R_drewN | apply Kd.R_drew)); exact HO_186004.out) hb); have n2_ := Aside0.mk (Kd.R_below (by (with_reducible repeat (first | apply Kd.R_alloc | apply Kd.R_drewN | apply Kd.R_drew)); exact HO_186010.out) hb); have n3_ := Aside0.mk (Kd.R_below (by (with_reducible repeat (first | apply Kd.R_alloc | apply Kd.R_drewN | apply Kd.R_drew)); exact HO221.out) hb); have n4_ := Aside0.mk (blk_below (g := gb185) (o := .cells #[.string x186000_21, .string x186001_21, .int .i64 x186002_21, .slice Ao47 x186003_21.length co47, .slice Ao48 x186004_21.length co48, .string x186005_21, .string x186006_21, .string x186007_21, .string x186008_21, .bool x186009_21, .slice Ao49 x186010_21.length co49, .int .i64 x186011_21, .string x186012_21, .string x186013_21, .string x186014_21, .int .i64 x186015_21] 27 (0, 0)) (by (with_reducible repeat (first | refine blk_drewN ?_ _ | refine blk_drew ?_ | refine blk_alloc ?_ _)); exact BK185.out) hb); have n5_ := Aside0.mk (below_step (by repeat (first | (with_reducible first | exact HB.out | apply below_alloc | apply pw_below_drewN | apply below_drew1 | refine below_set ?_ GE185.out) | exact HB.out)) hb); clear HO_186003; clear HO_186004; clear HO_186010; clear HO221; clear BK185; clear HB; have HO_186003 := n0_; have HO_186004 := n1_; have HO_186010 := n2_; have HO221 := n3_; have BK185 := n4_; have HB := n5_; clear n0_ n1_ n2_ n3_ n4_ n5_; (try clear hb); (try clear hb2); (try clear hk); (try clear hi)))
                              go_ret
                              exact ⟨by first | rfl | (simp [errW_none, errW_some] <;> rfl) | (simp [*, errW_none, errW_some] <;> rfl), by repeat (first | (with_reducible first | exact HB.out | apply below_alloc | apply pw_below_drewN | apply below_drew1 | refine below_set ?_ GE185.out) | exact HB.out)⟩
                            · rw [if_neg c44] at H
                              have c44b0 : ((t217.size : Int) == (rd y219 t222)) = false := beq_eq_false_iff_ne.mpr c44
                              have c44b1 : ((t217.size : Int) != (rd y219 t222)) = true := bne_iff_ne.mpr c44
                              exact absurd ((Option.some.inj H).trans ht_.out) (by decide)
                          · rw [if_neg c43] at H
                            exact absurd H (by simp)
                        · rw [if_neg c42] at H
                          exact absurd H (by simp)
                      · rw [if_neg c40] at H
                        have c40b0 : (t218 == (!true)) = false := by simpa using c40
                        (try (have c40b1 : decide (t218 = (!true)) = false := by simpa using c40))
                        (try (have c40b2 : (t218 == (!true)) = false := by simpa using c40))
                        (try (have c40b3 : ¬ (t218 = (!true)) := by simpa using c40))
                        clear c40
                        exact absurd ((Option.some.inj H).trans ht_.out) (by decide)
                    · replace c38 := Bool.eq_false_iff.mpr c38
                      subst c38
                      have H1 : ((system_Signs.f kj21 x186000_21 x186001_21 x186002_21 x186003_21 x186004_21 x186005_21 x186006_21 x186007_21 x186008_21 x186009_21 x186010_21 x186011_21 x186012_21 x186013_21 x186014_21 x186015_21 (wrap64 ((wrap64 (60 * a0)) + 1))).bind fun bt225 => (if (bt225.2 == (!true)) = true then ((some (([0, 60] : List Int) : List Int)).bind fun y227 => ((fleuronlaw9_map2.f bt225.2).bind fun t230 => (if 0 ≤ t230 then (if t230 < (y227.length : Int) then (if (bt225.1.size : Int) = (rd y227 t230) then ((fleuronlaw9_awake.f).bind fun t232 => (some t232)) else (some false)) else (none)) else (none)))) else (some false))) = some r := by rw [if_neg (show ¬ (false = true) by decide)] at H; exact H
                      clear H
                      have H := H1
                      clear H1
                      replace H := Option.bind_eq_some_iff.mp H
                      obtain ⟨⟨t225, t226⟩, A550, H⟩ := H
                      replace H : (if (t226 == (!true)) = true then ((some (([0, 60] : List Int) : List Int)).bind fun y227 => ((fleuronlaw9_map2.f t226).bind fun t230 => (if 0 ≤ t230 then (if t230 < (y227.length : Int) then (if (t225.size : Int) = (rd y227 t230) then ((fleuronlaw9_awake.f).bind fun t232 => (some t232)) else (some false)) else (none)) else (none)))) else (some false)) = some r := H
                      have A55 := Aside0.mk A550
                      clear A550
                      by_cases c56 : (t226 == (!true)) = true
                      · rw [if_pos c56] at H
                        have c56b0 : (t226 == (!true)) = true := c56
                        have E226 := Aside0.mk (show t226 = false by simpa using c56)
                        have F226 := E226.out
                        (try (have c56b1 : decide (t226 = (!true)) = true := by simpa using c56))
                        (try (have c56b2 : (t226 == (!true)) = true := by simpa using c56))
                        clear c56
                        obtain ⟨y227, hy227⟩ : ∃ y_ : List Int, y_ = (([0, 60] : List Int)) := ⟨_, rfl⟩
                        replace H : ((fleuronlaw9_map2.f t226).bind fun t230 => (if 0 ≤ t230 then (if t230 < (y227.length : Int) then (if (t225.size : Int) = (rd y227 t230) then ((fleuronlaw9_awake.f).bind fun t232 => (some t232)) else (some false)) else (none)) else (none))) = some r := by first | (rw [hy227]; with_reducible exact H) | (have H2_ := (Option.bind_some _ _).symm.trans H; rw [hy227]; with_reducible exact H2_) | (have H2_ := (Option.bind_some _ _).symm.trans H; with_reducible exact H2_) | with_reducible exact H | (rw [hy227]; exact H) | exact H
                        have Ny227 := Aside0.mk hy227
                        clear hy227
                        replace H := Option.bind_eq_some_iff.mp H
                        obtain ⟨t230, A570, H⟩ := H
                        replace H : (if 0 ≤ t230 then (if t230 < (y227.length : Int) then (if (t225.size : Int) = (rd y227 t230) then ((fleuronlaw9_awake.f).bind fun t232 => (some t232)) else (some false)) else (none)) else (none)) = some r := H
                        have A57 := Aside0.mk A570
                        clear A570
                        by_cases c58 : 0 ≤ t230
                        · rw [if_pos c58] at H
                          have c58b0 : decide (0 ≤ t230) = true := decide_eq_true c58
                          clear c58
                          by_cases c59 : t230 < (y227.length : Int)
                          · rw [if_pos c59] at H
                            have c59b0 : decide (t230 < (y227.length : Int)) = true := decide_eq_true c59
                            clear c59
                            by_cases c60 : (t225.size : Int) = (rd y227 t230)
                            · rw [if_pos c60] at H
                              have c60b0 : ((t225.size : Int) == (rd y227 t230)) = true := beq_iff_eq.mpr c60
                              have c60b1 : ((t225.size : Int) != (rd y227 t230)) = false := bne_eq_false_iff_eq.mpr c60
                              clear c60
                              replace H := Option.bind_eq_some_iff.mp H
                              obtain ⟨t232, A610, H⟩ := H
                              replace H : (some t232) = some r := H
                              have A61 := Aside0.mk A610
                              clear A610
                              obtain rfl := Option.some.inj H
                              have hcz62_0 : wc.cell? ⟨gb185, 0, none⟩ = some (.string x186000_21) := (blk_cell BK185.out 0).trans rfl
                              have hcz62_1 : wc.cell? ⟨gb185, 1, none⟩ = some (.string x186001_21) := (blk_cell BK185.out 1).trans rfl
                              have hcz62_2 : wc.cell? ⟨gb185, 2, none⟩ = some (.int .i64 x186002_21) := (blk_cell BK185.out 2).trans rfl
                              have hcz62_3 : wc.cell? ⟨gb185, 3, none⟩ = some (u186003) := (blk_cell BK185.out 3).trans rfl
                              have hcz62_4 : wc.cell? ⟨gb185, 4, none⟩ = some (u186004) := (blk_cell BK185.out 4).trans rfl
                              have hcz62_5 : wc.cell? ⟨gb185, 5, none⟩ = some (.string x186005_21) := (blk_cell BK185.out 5).trans rfl
                              have hcz62_6 : wc.cell? ⟨gb185, 6, none⟩ = some (.string x186006_21) := (blk_cell BK185.out 6).trans rfl
                              have hcz62_7 : wc.cell? ⟨gb185, 7, none⟩ = some (.string x186007_21) := (blk_cell BK185.out 7).trans rfl
                              have hcz62_8 : wc.cell? ⟨gb185, 8, none⟩ = some (.string x186008_21) := (blk_cell BK185.out 8).trans rfl
                              have hcz62_9 : wc.cell? ⟨gb185, 9, none⟩ = some (.bool x186009_21) := (blk_cell BK185.out 9).trans rfl
                              have hcz62_10 : wc.cell? ⟨gb185, 10, none⟩ = some (u186010) := (blk_cell BK185.out 10).trans rfl
                              have hcz62_11 : wc.cell? ⟨gb185, 11, none⟩ = some (.int .i64 x186011_21) := (blk_cell BK185.out 11).trans rfl
                              have hcz62_12 : wc.cell? ⟨gb185, 12, none⟩ = some (.string x186012_21) := (blk_cell BK185.out 12).trans rfl
                              have hcz62_13 : wc.cell? ⟨gb185, 13, none⟩ = some (.string x186013_21) := (blk_cell BK185.out 13).trans rfl
                              have hcz62_14 : wc.cell? ⟨gb185, 14, none⟩ = some (.string x186014_21) := (blk_cell BK185.out 14).trans rfl
                              have hcz62_15 : wc.cell? ⟨gb185, 15, none⟩ = some (.int .i64 x186015_21) := (blk_cell BK185.out 15).trans rfl
                              have hfz62_0 := blk_frozen BK185.out 0
                              have hfz62_1 := blk_frozen BK185.out 1
                              have hfz62_2 := blk_frozen BK185.out 2
                              have hfz62_3 := blk_frozen BK185.out 3
                              have hfz62_4 := blk_frozen BK185.out 4
                              have hfz62_5 := blk_frozen BK185.out 5
                              have hfz62_6 := blk_frozen BK185.out 6
                              have hfz62_7 := blk_frozen BK185.out 7
                              have hfz62_8 := blk_frozen BK185.out 8
                              have hfz62_9 := blk_frozen BK185.out 9
                              have hfz62_10 := blk_frozen BK185.out 10
                              have hfz62_11 := blk_frozen BK185.out 11
                              have hfz62_12 := blk_frozen BK185.out 12
                              have hfz62_13 := blk_frozen BK185.out 13
                              have hfz62_14 := blk_frozen BK185.out 14
                              have hfz62_15 := blk_frozen BK185.out 15
                              obtain ⟨Ao63, co63, eo63⟩ := Kd.R_slice HO_186003.out
                              subst eo63
                              obtain ⟨Ao64, co64, eo64⟩ := Kd.R_slice HO_186004.out
                              subst eo64
                              obtain ⟨Ao65, co65, eo65⟩ := Kd.R_slice HO_186010.out
                              subst eo65
                              go_wp2_with (first | ((with_reducible refine gate_callee (f := 11) rfl ?_); refine goesL_ (some 61) rfl rfl Try.func11 (by kernel_rfl) rfl #[.agg #[.string x186000_21, .string x186001_21, .int .i64 x186002_21, .slice Ao63 x186003_21.length co63, .slice Ao64 x186004_21.length co64, .string x186005_21, .string x186006_21, .string x186007_21, .string x186008_21, .bool x186009_21, .slice Ao65 x186010_21.length co65, .int .i64 x186011_21, .string x186012_21, .string x186013_21, .string x186014_21, .int .i64 x186015_21], .int .i64 (wrap64 ((wrap64 (60 * a0)) + 1))] rfl (by (try simp only [List.map_toArray, List.map_cons, List.map_nil]); first | done | rfl | (simp only [List.length_drop, List.length_take]; rfl)) ?_; (with_reducible refine (system_Signs.calls kj21 x186000_21 x186001_21 x186002_21 _ _ x186003_21 _ _ x186004_21 x186005_21 x186006_21 x186007_21 x186008_21 x186009_21 _ _ x186010_21 x186011_21 x186012_21 x186013_21 x186014_21 x186015_21 (wrap64 ((wrap64 (60 * a0)) + 1)) t225 t226 _ ?side1 ?side2 ?side3 ?side4 ?side5 ?side6 A55.out).mono ?_); (case side1 => repeat (first | exact (Kd.R_reads' HO_186003.out).2.2 | (with_reducible refine Kd.C_alloc ?_ _) | (with_reducible refine Kd.C_drewN ?_ _) | (with_reducible refine Kd.C_drew ?_))); (case side2 => exact (Kd.R_reads' HO_186003.out).2.1); (case side3 => repeat (first | exact (Kd.R_reads' HO_186004.out).2.2 | (with_reducible refine Kd.C_alloc ?_ _) | (with_reducible refine Kd.C_drewN ?_ _) | (with_reducible refine Kd.C_drew ?_))); (case side4 => exact (Kd.R_reads' HO_186004.out).2.1); (case side5 => repeat (first | exact (Kd.R_reads' HO_186010.out).2.2 | (with_reducible refine Kd.C_alloc ?_ _) | (with_reducible refine Kd.C_drewN ?_ _) | (with_reducible refine Kd.C_drew ?_))); (case side6 => exact (Kd.R_reads' HO_186010.out).2.1); rintro e w66 ⟨rfl, hb⟩; refine ⟨_, rfl, ?_⟩; have n0_ := Aside0.mk (Kd.R_below (by (with_reducible repeat (first | apply Kd.R_alloc | apply Kd.R_drewN | apply Kd.R_drew)); exact HO_186003.out) hb); have n1_ := Aside0.mk (Kd.R_below (by (with_reducible repeat (first | apply Kd.R_alloc | apply Kd.R_drewN | apply Kd.R_drew)); exact HO_186004.out) hb); have n2_ := Aside0.mk (Kd.R_below (by (with_reducible repeat (first | apply Kd.R_alloc | apply Kd.R_drewN | apply Kd.R_drew)); exact HO_186010.out) hb); have n3_ := Aside0.mk (blk_below (g := gb185) (o := .cells #[.string x186000_21, .string x186001_21, .int .i64 x186002_21, .slice Ao63 x186003_21.length co63, .slice Ao64 x186004_21.length co64, .string x186005_21, .string x186006_21, .string x186007_21, .string x186008_21, .bool x186009_21, .slice Ao65 x186010_21.length co65, .int .i64 x186011_21, .string x186012_21, .string x186013_21, .string x186014_21, .int .i64 x186015_21] 27 (0, 0)) (by (with_reducible repeat (first | refine blk_drewN ?_ _ | refine blk_drew ?_ | refine blk_alloc ?_ _)); exact BK185.out) hb); have n4_ := Aside0.mk (below_step (by repeat (first | (with_reducible first | exact HB.out | apply below_alloc | apply pw_below_drewN | apply below_drew1 | refine below_set ?_ GE185.out) | exact HB.out)) hb); clear HO_186003; clear HO_186004; clear HO_186010; clear BK185; clear HB; have HO_186003 := n0_; have HO_186004 := n1_; have HO_186010 := n2_; have BK185 := n3_; have HB := n4_; clear n0_ n1_ n2_ n3_ n4_; (try clear hb); (try clear hb2); (try clear hk); (try clear hi)) | ((with_reducible refine gate_dst (N := 71) rfl ?_); (try (refine gate_guard (by rfl) ?_; dsimp only)); refine Kd.R_lit (Kd.int .i64) _ 3 ?hg (N := 71) ?hd (xs := ([0, 60] : List Int)) (inner := [.int .i64 0, .int .i64 60]) (ok := fun _ => True) (okp := fun _ => True) ?hr ?hp (fun _ hk => hk) trivial (Below.refl _ _) (Nat.le_refl _) (by simp) ?_; (case hd => rfl); (case hg => rfl); (case hr => first | (go_simp; done) | (go_simp; rfl)); (case hp => exact (Reps.one (show Kd.M (Kd.int .i64) _ _ _ 0 [.int .i64 0] from rfl) (Reps.one (show Kd.M (Kd.int .i64) _ _ _ 60 [.int .i64 60] from rfl) (Reps.none _ _)))); intro v228 w67 ho68 hb hg_ hnew_; clear hg_ hnew_; (first | rw [← Ny227.out] at ho68 | (simp only [Int.reduceToNat] at ho68; rw [← Ny227.out] at ho68)); have n0_ := Aside0.mk (Kd.R_below (by (with_reducible repeat (first | apply Kd.R_alloc | apply Kd.R_drewN | apply Kd.R_drew)); exact HO_186003.out) hb); have n1_ := Aside0.mk (Kd.R_elder' (by (with_reducible repeat (first | apply Kd.R_alloc | apply Kd.R_drewN | apply Kd.R_drew)); exact HO_186004.out) (Kd.R_base ho68) hb); have n2_ := Aside0.mk (Kd.R_below (by (with_reducible repeat (first | apply Kd.R_alloc | apply Kd.R_drewN | apply Kd.R_drew)); exact HO_186010.out) hb); have n3_ := Aside0.mk (Kd.R_lower (Kd.R_new' ho68 (Kd.R_lt (by (with_reducible repeat (first | apply Kd.R_alloc | apply Kd.R_drewN | apply Kd.R_drew)); exact HO_186004.out))) (below_size (by repeat (first | (with_reducible first | exact HB.out | apply below_alloc | apply pw_below_drewN | apply below_drew1 | refine below_set ?_ GE185.out) | exact HB.out)))); have n4_ := Aside0.mk (blk_below (g := gb185) (o := .cells #[.string x186000_21, .string x186001_21, .int .i64 x186002_21, .slice Ao63 x186003_21.length co63, .slice Ao64 x186004_21.length co64, .string x186005_21, .string x186006_21, .string x186007_21, .string x186008_21, .bool x186009_21, .slice Ao65 x186010_21.length co65, .int .i64 x186011_21, .string x186012_21, .string x186013_21, .string x186014_21, .int .i64 x186015_21] 27 (0, 0)) (by (with_reducible repeat (first | refine blk_drewN ?_ _ | refine blk_drew ?_ | refine blk_alloc ?_ _)); exact BK185.out) hb); have n5_ := Aside0.mk (below_step (by repeat (first | (with_reducible first | exact HB.out | apply below_alloc | apply pw_below_drewN | apply below_drew1 | refine below_set ?_ GE185.out) | exact HB.out)) hb); clear HO_186003; clear HO_186004; clear HO_186010; clear BK185; clear HB; have HO_186003 := n0_; have HO_186004 := n1_; have HO_186010 := n2_; have HO229 := n3_; have BK185 := n4_; have HB := n5_; clear n0_ n1_ n2_ n3_ n4_ n5_; clear hb ho68) | (go_at_call 14; (with_reducible refine (fleuronlaw9_map2.calls false t230 _ (by have h_ := A57.out; rw [E226.out] at h_; exact h_)).mono ?_); rintro e w' ⟨rfl, ⟨nd, rfl⟩⟩; obtain ⟨Ao69, co69, eo69⟩ := Kd.R_slice HO229.out; subst eo69; have p231 : 0 ≤ (t230 : Int) := of_decide_eq_true (by first | (with_reducible assumption) | assumption); have q231 : t230 < (y227.length : Int) := of_decide_eq_true (by first | (with_reducible assumption) | assumption); obtain ⟨ad231, e231, hx231_0⟩ := Kd.at_int (Kd.R_reads' HO229.out).2.2 t230 p231 q231; cases e231; replace p231 := eq_true p231; replace q231 := eq_true q231) | (go_at_call 10; (with_reducible refine (fleuronlaw9_awake.calls  t232 _ A61.out ht_.out).mono ?_); rintro e w70 ⟨rfl, hb⟩; have n0_ := Aside0.mk (Kd.R_below (by (with_reducible repeat (first | apply Kd.R_alloc | apply Kd.R_drewN | apply Kd.R_drew)); exact HO_186003.out) hb); have n1_ := Aside0.mk (Kd.R_below (by (with_reducible repeat (first | apply Kd.R_alloc | apply Kd.R_drewN | apply Kd.R_drew)); exact HO_186004.out) hb); have n2_ := Aside0.mk (Kd.R_below (by (with_reducible repeat (first | apply Kd.R_alloc | apply Kd.R_drewN | apply Kd.R_drew)); exact HO_186010.out) hb); have n3_ := Aside0.mk (Kd.R_below (by (with_reducible repeat (first | apply Kd.R_alloc | apply Kd.R_drewN | apply Kd.R_drew)); exact HO229.out) hb); have n4_ := Aside0.mk (blk_below (g := gb185) (o := .cells #[.string x186000_21, .string x186001_21, .int .i64 x186002_21, .slice Ao63 x186003_21.length co63, .slice Ao64 x186004_21.length co64, .string x186005_21, .string x186006_21, .string x186007_21, .string x186008_21, .bool x186009_21, .slice Ao65 x186010_21.length co65, .int .i64 x186011_21, .string x186012_21, .string x186013_21, .string x186014_21, .int .i64 x186015_21] 27 (0, 0)) (by (with_reducible repeat (first | refine blk_drewN ?_ _ | refine blk_drew ?_ | refine blk_alloc ?_ _)); exact BK185.out) hb); have n5_ := Aside0.mk (below_step (by repeat (first | (with_reducible first | exact HB.out | apply below_alloc | apply pw_below_drewN | apply below_drew1 | refine below_set ?_ GE185.out) | exact HB.out)) hb); clear HO_186003; clear HO_186004; clear HO_186010; clear HO229; clear BK185; clear HB; have HO_186003 := n0_; have HO_186004 := n1_; have HO_186010 := n2_; have HO229 := n3_; have BK185 := n4_; have HB := n5_; clear n0_ n1_ n2_ n3_ n4_ n5_; (try clear hb); (try clear hb2); (try clear hk); (try clear hi)))
                              go_ret
                              exact ⟨by first | rfl | (simp [errW_none, errW_some] <;> rfl) | (simp [*, errW_none, errW_some] <;> rfl), by repeat (first | (with_reducible first | exact HB.out | apply below_alloc | apply pw_below_drewN | apply below_drew1 | refine below_set ?_ GE185.out) | exact HB.out)⟩
                            · rw [if_neg c60] at H
                              have c60b0 : ((t225.size : Int) == (rd y227 t230)) = false := beq_eq_false_iff_ne.mpr c60
                              have c60b1 : ((t225.size : Int) != (rd y227 t230)) = true := bne_iff_ne.mpr c60
                              exact absurd ((Option.some.inj H).trans ht_.out) (by decide)
                          · rw [if_neg c59] at H
                            exact absurd H (by simp)
                        · rw [if_neg c58] at H
                          exact absurd H (by simp)
                      · rw [if_neg c56] at H
                        have c56b0 : (t226 == (!true)) = false := by simpa using c56
                        (try (have c56b1 : decide (t226 = (!true)) = false := by simpa using c56))
                        (try (have c56b2 : (t226 == (!true)) = false := by simpa using c56))
                        (try (have c56b3 : ¬ (t226 = (!true)) := by simpa using c56))
                        clear c56
                        exact absurd ((Option.some.inj H).trans ht_.out) (by decide)
                  · replace c37 := Bool.eq_false_iff.mpr c37
                    subst c37
                    have H1 : ((system_Signs.f kj21 x186000_21 x186001_21 x186002_21 x186003_21 x186004_21 x186005_21 x186006_21 x186007_21 x186008_21 x186009_21 x186010_21 x186011_21 x186012_21 x186013_21 x186014_21 x186015_21 x9_21).bind fun bt233 => (if (bt233.2 == (!false)) = true then ((some (([0, 60] : List Int) : List Int)).bind fun y235 => ((fleuronlaw9_map2.f bt233.2).bind fun t238 => (if 0 ≤ t238 then (if t238 < (y235.length : Int) then (if (bt233.1.size : Int) = (rd y235 t238) then ((fleuronlaw9_awake.f).bind fun t240 => (some t240)) else (some false)) else (none)) else (none)))) else (some false))) = some r := by rw [if_neg (show ¬ (false = true) by decide)] at H; exact H
                    clear H
                    have H := H1
                    clear H1
                    replace H := Option.bind_eq_some_iff.mp H
                    obtain ⟨⟨t233, t234⟩, A710, H⟩ := H
                    replace H : (if (t234 == (!false)) = true then ((some (([0, 60] : List Int) : List Int)).bind fun y235 => ((fleuronlaw9_map2.f t234).bind fun t238 => (if 0 ≤ t238 then (if t238 < (y235.length : Int) then (if (t233.size : Int) = (rd y235 t238) then ((fleuronlaw9_awake.f).bind fun t240 => (some t240)) else (some false)) else (none)) else (none)))) else (some false)) = some r := H
                    have A71 := Aside0.mk A710
                    clear A710
                    by_cases c72 : (t234 == (!false)) = true
                    · rw [if_pos c72] at H
                      have c72b0 : (t234 == (!false)) = true := c72
                      have E234 := Aside0.mk (show t234 = true by simpa using c72)
                      have F234 := E234.out
                      (try (have c72b1 : decide (t234 = (!false)) = true := by simpa using c72))
                      (try (have c72b2 : (t234 == (!false)) = true := by simpa using c72))
                      clear c72
                      obtain ⟨y235, hy235⟩ : ∃ y_ : List Int, y_ = (([0, 60] : List Int)) := ⟨_, rfl⟩
                      replace H : ((fleuronlaw9_map2.f t234).bind fun t238 => (if 0 ≤ t238 then (if t238 < (y235.length : Int) then (if (t233.size : Int) = (rd y235 t238) then ((fleuronlaw9_awake.f).bind fun t240 => (some t240)) else (some false)) else (none)) else (none))) = some r := by first | (rw [hy235]; with_reducible exact H) | (have H2_ := (Option.bind_some _ _).symm.trans H; rw [hy235]; with_reducible exact H2_) | (have H2_ := (Option.bind_some _ _).symm.trans H; with_reducible exact H2_) | with_reducible exact H | (rw [hy235]; exact H) | exact H
                      have Ny235 := Aside0.mk hy235
                      clear hy235
                      replace H := Option.bind_eq_some_iff.mp H
                      obtain ⟨t238, A730, H⟩ := H
                      replace H : (if 0 ≤ t238 then (if t238 < (y235.length : Int) then (if (t233.size : Int) = (rd y235 t238) then ((fleuronlaw9_awake.f).bind fun t240 => (some t240)) else (some false)) else (none)) else (none)) = some r := H
                      have A73 := Aside0.mk A730
                      clear A730
                      by_cases c74 : 0 ≤ t238
                      · rw [if_pos c74] at H
                        have c74b0 : decide (0 ≤ t238) = true := decide_eq_true c74
                        clear c74
                        by_cases c75 : t238 < (y235.length : Int)
                        · rw [if_pos c75] at H
                          have c75b0 : decide (t238 < (y235.length : Int)) = true := decide_eq_true c75
                          clear c75
                          by_cases c76 : (t233.size : Int) = (rd y235 t238)
                          · rw [if_pos c76] at H
                            have c76b0 : ((t233.size : Int) == (rd y235 t238)) = true := beq_iff_eq.mpr c76
                            have c76b1 : ((t233.size : Int) != (rd y235 t238)) = false := bne_eq_false_iff_eq.mpr c76
                            clear c76
                            replace H := Option.bind_eq_some_iff.mp H
                            obtain ⟨t240, A770, H⟩ := H
                            replace H : (some t240) = some r := H
                            have A77 := Aside0.mk A770
                            clear A770
                            obtain rfl := Option.some.inj H
                            have hcz78_0 : wc.cell? ⟨gb185, 0, none⟩ = some (.string x186000_21) := (blk_cell BK185.out 0).trans rfl
                            have hcz78_1 : wc.cell? ⟨gb185, 1, none⟩ = some (.string x186001_21) := (blk_cell BK185.out 1).trans rfl
                            have hcz78_2 : wc.cell? ⟨gb185, 2, none⟩ = some (.int .i64 x186002_21) := (blk_cell BK185.out 2).trans rfl
                            have hcz78_3 : wc.cell? ⟨gb185, 3, none⟩ = some (u186003) := (blk_cell BK185.out 3).trans rfl
                            have hcz78_4 : wc.cell? ⟨gb185, 4, none⟩ = some (u186004) := (blk_cell BK185.out 4).trans rfl
                            have hcz78_5 : wc.cell? ⟨gb185, 5, none⟩ = some (.string x186005_21) := (blk_cell BK185.out 5).trans rfl
                            have hcz78_6 : wc.cell? ⟨gb185, 6, none⟩ = some (.string x186006_21) := (blk_cell BK185.out 6).trans rfl
                            have hcz78_7 : wc.cell? ⟨gb185, 7, none⟩ = some (.string x186007_21) := (blk_cell BK185.out 7).trans rfl
                            have hcz78_8 : wc.cell? ⟨gb185, 8, none⟩ = some (.string x186008_21) := (blk_cell BK185.out 8).trans rfl
                            have hcz78_9 : wc.cell? ⟨gb185, 9, none⟩ = some (.bool x186009_21) := (blk_cell BK185.out 9).trans rfl
                            have hcz78_10 : wc.cell? ⟨gb185, 10, none⟩ = some (u186010) := (blk_cell BK185.out 10).trans rfl
                            have hcz78_11 : wc.cell? ⟨gb185, 11, none⟩ = some (.int .i64 x186011_21) := (blk_cell BK185.out 11).trans rfl
                            have hcz78_12 : wc.cell? ⟨gb185, 12, none⟩ = some (.string x186012_21) := (blk_cell BK185.out 12).trans rfl
                            have hcz78_13 : wc.cell? ⟨gb185, 13, none⟩ = some (.string x186013_21) := (blk_cell BK185.out 13).trans rfl
                            have hcz78_14 : wc.cell? ⟨gb185, 14, none⟩ = some (.string x186014_21) := (blk_cell BK185.out 14).trans rfl
                            have hcz78_15 : wc.cell? ⟨gb185, 15, none⟩ = some (.int .i64 x186015_21) := (blk_cell BK185.out 15).trans rfl
                            have hfz78_0 := blk_frozen BK185.out 0
                            have hfz78_1 := blk_frozen BK185.out 1
                            have hfz78_2 := blk_frozen BK185.out 2
                            have hfz78_3 := blk_frozen BK185.out 3
                            have hfz78_4 := blk_frozen BK185.out 4
                            have hfz78_5 := blk_frozen BK185.out 5
                            have hfz78_6 := blk_frozen BK185.out 6
                            have hfz78_7 := blk_frozen BK185.out 7
                            have hfz78_8 := blk_frozen BK185.out 8
                            have hfz78_9 := blk_frozen BK185.out 9
                            have hfz78_10 := blk_frozen BK185.out 10
                            have hfz78_11 := blk_frozen BK185.out 11
                            have hfz78_12 := blk_frozen BK185.out 12
                            have hfz78_13 := blk_frozen BK185.out 13
                            have hfz78_14 := blk_frozen BK185.out 14
                            have hfz78_15 := blk_frozen BK185.out 15
                            obtain ⟨Ao79, co79, eo79⟩ := Kd.R_slice HO_186003.out
                            subst eo79
                            obtain ⟨Ao80, co80, eo80⟩ := Kd.R_slice HO_186004.out
                            subst eo80
                            obtain ⟨Ao81, co81, eo81⟩ := Kd.R_slice HO_186010.out
                            subst eo81
                            go_wp2_with (first | ((with_reducible refine gate_callee (f := 11) rfl ?_); refine goesL_ (some 61) rfl rfl Try.func11 (by kernel_rfl) rfl #[.agg #[.string x186000_21, .string x186001_21, .int .i64 x186002_21, .slice Ao79 x186003_21.length co79, .slice Ao80 x186004_21.length co80, .string x186005_21, .string x186006_21, .string x186007_21, .string x186008_21, .bool x186009_21, .slice Ao81 x186010_21.length co81, .int .i64 x186011_21, .string x186012_21, .string x186013_21, .string x186014_21, .int .i64 x186015_21], .int .i64 x9_21] rfl (by (try simp only [List.map_toArray, List.map_cons, List.map_nil]); first | done | rfl | (simp only [List.length_drop, List.length_take]; rfl)) ?_; (with_reducible refine (system_Signs.calls kj21 x186000_21 x186001_21 x186002_21 _ _ x186003_21 _ _ x186004_21 x186005_21 x186006_21 x186007_21 x186008_21 x186009_21 _ _ x186010_21 x186011_21 x186012_21 x186013_21 x186014_21 x186015_21 x9_21 t233 t234 _ ?side1 ?side2 ?side3 ?side4 ?side5 ?side6 A71.out).mono ?_); (case side1 => repeat (first | exact (Kd.R_reads' HO_186003.out).2.2 | (with_reducible refine Kd.C_alloc ?_ _) | (with_reducible refine Kd.C_drewN ?_ _) | (with_reducible refine Kd.C_drew ?_))); (case side2 => exact (Kd.R_reads' HO_186003.out).2.1); (case side3 => repeat (first | exact (Kd.R_reads' HO_186004.out).2.2 | (with_reducible refine Kd.C_alloc ?_ _) | (with_reducible refine Kd.C_drewN ?_ _) | (with_reducible refine Kd.C_drew ?_))); (case side4 => exact (Kd.R_reads' HO_186004.out).2.1); (case side5 => repeat (first | exact (Kd.R_reads' HO_186010.out).2.2 | (with_reducible refine Kd.C_alloc ?_ _) | (with_reducible refine Kd.C_drewN ?_ _) | (with_reducible refine Kd.C_drew ?_))); (case side6 => exact (Kd.R_reads' HO_186010.out).2.1); rintro e w82 ⟨rfl, hb⟩; refine ⟨_, rfl, ?_⟩; have n0_ := Aside0.mk (Kd.R_below (by (with_reducible repeat (first | apply Kd.R_alloc | apply Kd.R_drewN | apply Kd.R_drew)); exact HO_186003.out) hb); have n1_ := Aside0.mk (Kd.R_below (by (with_reducible repeat (first | apply Kd.R_alloc | apply Kd.R_drewN | apply Kd.R_drew)); exact HO_186004.out) hb); have n2_ := Aside0.mk (Kd.R_below (by (with_reducible repeat (first | apply Kd.R_alloc | apply Kd.R_drewN | apply Kd.R_drew)); exact HO_186010.out) hb); have n3_ := Aside0.mk (blk_below (g := gb185) (o := .cells #[.string x186000_21, .string x186001_21, .int .i64 x186002_21, .slice Ao79 x186003_21.length co79, .slice Ao80 x186004_21.length co80, .string x186005_21, .string x186006_21, .string x186007_21, .string x186008_21, .bool x186009_21, .slice Ao81 x186010_21.length co81, .int .i64 x186011_21, .string x186012_21, .string x186013_21, .string x186014_21, .int .i64 x186015_21] 27 (0, 0)) (by (with_reducible repeat (first | refine blk_drewN ?_ _ | refine blk_drew ?_ | refine blk_alloc ?_ _)); exact BK185.out) hb); have n4_ := Aside0.mk (below_step (by repeat (first | (with_reducible first | exact HB.out | apply below_alloc | apply pw_below_drewN | apply below_drew1 | refine below_set ?_ GE185.out) | exact HB.out)) hb); clear HO_186003; clear HO_186004; clear HO_186010; clear BK185; clear HB; have HO_186003 := n0_; have HO_186004 := n1_; have HO_186010 := n2_; have BK185 := n3_; have HB := n4_; clear n0_ n1_ n2_ n3_ n4_; (try clear hb); (try clear hb2); (try clear hk); (try clear hi)) | ((with_reducible refine gate_dst (N := 71) rfl ?_); (try (refine gate_guard (by rfl) ?_; dsimp only)); refine Kd.R_lit (Kd.int .i64) _ 3 ?hg (N := 71) ?hd (xs := ([0, 60] : List Int)) (inner := [.int .i64 0, .int .i64 60]) (ok := fun _ => True) (okp := fun _ => True) ?hr ?hp (fun _ hk => hk) trivial (Below.refl _ _) (Nat.le_refl _) (by simp) ?_; (case hd => rfl); (case hg => rfl); (case hr => first | (go_simp; done) | (go_simp; rfl)); (case hp => exact (Reps.one (show Kd.M (Kd.int .i64) _ _ _ 0 [.int .i64 0] from rfl) (Reps.one (show Kd.M (Kd.int .i64) _ _ _ 60 [.int .i64 60] from rfl) (Reps.none _ _)))); intro v236 w83 ho84 hb hg_ hnew_; clear hg_ hnew_; (first | rw [← Ny235.out] at ho84 | (simp only [Int.reduceToNat] at ho84; rw [← Ny235.out] at ho84)); have n0_ := Aside0.mk (Kd.R_below (by (with_reducible repeat (first | apply Kd.R_alloc | apply Kd.R_drewN | apply Kd.R_drew)); exact HO_186003.out) hb); have n1_ := Aside0.mk (Kd.R_elder' (by (with_reducible repeat (first | apply Kd.R_alloc | apply Kd.R_drewN | apply Kd.R_drew)); exact HO_186004.out) (Kd.R_base ho84) hb); have n2_ := Aside0.mk (Kd.R_below (by (with_reducible repeat (first | apply Kd.R_alloc | apply Kd.R_drewN | apply Kd.R_drew)); exact HO_186010.out) hb); have n3_ := Aside0.mk (Kd.R_lower (Kd.R_new' ho84 (Kd.R_lt (by (with_reducible repeat (first | apply Kd.R_alloc | apply Kd.R_drewN | apply Kd.R_drew)); exact HO_186004.out))) (below_size (by repeat (first | (with_reducible first | exact HB.out | apply below_alloc | apply pw_below_drewN | apply below_drew1 | refine below_set ?_ GE185.out) | exact HB.out)))); have n4_ := Aside0.mk (blk_below (g := gb185) (o := .cells #[.string x186000_21, .string x186001_21, .int .i64 x186002_21, .slice Ao79 x186003_21.length co79, .slice Ao80 x186004_21.length co80, .string x186005_21, .string x186006_21, .string x186007_21, .string x186008_21, .bool x186009_21, .slice Ao81 x186010_21.length co81, .int .i64 x186011_21, .string x186012_21, .string x186013_21, .string x186014_21, .int .i64 x186015_21] 27 (0, 0)) (by (with_reducible repeat (first | refine blk_drewN ?_ _ | refine blk_drew ?_ | refine blk_alloc ?_ _)); exact BK185.out) hb); have n5_ := Aside0.mk (below_step (by repeat (first | (with_reducible first | exact HB.out | apply below_alloc | apply pw_below_drewN | apply below_drew1 | refine below_set ?_ GE185.out) | exact HB.out)) hb); clear HO_186003; clear HO_186004; clear HO_186010; clear BK185; clear HB; have HO_186003 := n0_; have HO_186004 := n1_; have HO_186010 := n2_; have HO237 := n3_; have BK185 := n4_; have HB := n5_; clear n0_ n1_ n2_ n3_ n4_ n5_; clear hb ho84) | (go_at_call 14; (with_reducible refine (fleuronlaw9_map2.calls true t238 _ (by have h_ := A73.out; rw [E234.out] at h_; exact h_)).mono ?_); rintro e w' ⟨rfl, ⟨nd, rfl⟩⟩; obtain ⟨Ao85, co85, eo85⟩ := Kd.R_slice HO237.out; subst eo85; have p239 : 0 ≤ (t238 : Int) := of_decide_eq_true (by first | (with_reducible assumption) | assumption); have q239 : t238 < (y235.length : Int) := of_decide_eq_true (by first | (with_reducible assumption) | assumption); obtain ⟨ad239, e239, hx239_0⟩ := Kd.at_int (Kd.R_reads' HO237.out).2.2 t238 p239 q239; cases e239; replace p239 := eq_true p239; replace q239 := eq_true q239) | (go_at_call 10; (with_reducible refine (fleuronlaw9_awake.calls  t240 _ A77.out ht_.out).mono ?_); rintro e w86 ⟨rfl, hb⟩; have n0_ := Aside0.mk (Kd.R_below (by (with_reducible repeat (first | apply Kd.R_alloc | apply Kd.R_drewN | apply Kd.R_drew)); exact HO_186003.out) hb); have n1_ := Aside0.mk (Kd.R_below (by (with_reducible repeat (first | apply Kd.R_alloc | apply Kd.R_drewN | apply Kd.R_drew)); exact HO_186004.out) hb); have n2_ := Aside0.mk (Kd.R_below (by (with_reducible repeat (first | apply Kd.R_alloc | apply Kd.R_drewN | apply Kd.R_drew)); exact HO_186010.out) hb); have n3_ := Aside0.mk (Kd.R_below (by (with_reducible repeat (first | apply Kd.R_alloc | apply Kd.R_drewN | apply Kd.R_drew)); exact HO237.out) hb); have n4_ := Aside0.mk (blk_below (g := gb185) (o := .cells #[.string x186000_21, .string x186001_21, .int .i64 x186002_21, .slice Ao79 x186003_21.length co79, .slice Ao80 x186004_21.length co80, .string x186005_21, .string x186006_21, .string x186007_21, .string x186008_21, .bool x186009_21, .slice Ao81 x186010_21.length co81, .int .i64 x186011_21, .string x186012_21, .string x186013_21, .string x186014_21, .int .i64 x186015_21] 27 (0, 0)) (by (with_reducible repeat (first | refine blk_drewN ?_ _ | refine blk_drew ?_ | refine blk_alloc ?_ _)); exact BK185.out) hb); have n5_ := Aside0.mk (below_step (by repeat (first | (with_reducible first | exact HB.out | apply below_alloc | apply pw_below_drewN | apply below_drew1 | refine below_set ?_ GE185.out) | exact HB.out)) hb); clear HO_186003; clear HO_186004; clear HO_186010; clear HO237; clear BK185; clear HB; have HO_186003 := n0_; have HO_186004 := n1_; have HO_186010 := n2_; have HO237 := n3_; have BK185 := n4_; have HB := n5_; clear n0_ n1_ n2_ n3_ n4_ n5_; (try clear hb); (try clear hb2); (try clear hk); (try clear hi)))
                            go_ret
                            exact ⟨by first | rfl | (simp [errW_none, errW_some] <;> rfl) | (simp [*, errW_none, errW_some] <;> rfl), by repeat (first | (with_reducible first | exact HB.out | apply below_alloc | apply pw_below_drewN | apply below_drew1 | refine below_set ?_ GE185.out) | exact HB.out)⟩
                          · rw [if_neg c76] at H
                            have c76b0 : ((t233.size : Int) == (rd y235 t238)) = false := beq_eq_false_iff_ne.mpr c76
                            have c76b1 : ((t233.size : Int) != (rd y235 t238)) = true := bne_iff_ne.mpr c76
                            exact absurd ((Option.some.inj H).trans ht_.out) (by decide)
                        · rw [if_neg c75] at H
                          exact absurd H (by simp)
                      · rw [if_neg c74] at H
                        exact absurd H (by simp)
                    · rw [if_neg c72] at H
                      have c72b0 : (t234 == (!false)) = false := by simpa using c72
                      (try (have c72b1 : decide (t234 = (!false)) = false := by simpa using c72))
                      (try (have c72b2 : (t234 == (!false)) = false := by simpa using c72))
                      (try (have c72b3 : ¬ (t234 = (!false)) := by simpa using c72))
                      clear c72
                      exact absurd ((Option.some.inj H).trans ht_.out) (by decide)

/-- THE ONE PURE STATEMENT of fleuronlaw9_SystemSizes: yours. -/
def fleuronlaw9_SystemSizes.Pure : Prop := ∀ (a0 : Int) (a1 : Bool) (a2 : Bool), (Lit.int .i64 a0).wf = true → ∃ k, fleuronlaw9_SystemSizes.f k a0 a1 a2 = some true
theorem fleuronlaw9_SystemSizes.walk (P : fleuronlaw9_SystemSizes.Pure) (a0 : Int) (a1 : Bool) (a2 : Bool) (w : World) (w0 : (Lit.int .i64 a0).wf = true) :
    Calls Try.prog 4 #[.int .i64 a0, .bool a1, .bool a2] w fun e w' => e = .returned (.bool true) ∧ Below w.heap.size w w' := by
  obtain ⟨k, h⟩ := P a0 a1 a2 w0
  refine (fleuronlaw9_SystemSizes.calls k a0 a1 a2 true w h rfl).mono ?_
  rintro e w' ⟨rfl, hd⟩
  exact ⟨rfl, hd⟩

end Go.Proofs.Ytalegejfellbdaa.Print
