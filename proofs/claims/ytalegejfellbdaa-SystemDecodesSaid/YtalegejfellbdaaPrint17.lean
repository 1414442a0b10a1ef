/- Written by a program of this session out of the translation, with contracts given by hand beside. -/
import Derived.Test.YtalegejfellbdaaPrint0
import Derived.Test.YtalegejfellbdaaPrint11
import Derived.Test.YtalegejfellbdaaPrint12
import Derived.Test.YtalegejfellbdaaPrint15
namespace Go.Proofs.Ytalegejfellbdaa.Print
open Go.RowKit Go.Proofs.YtalegejfellbdaaW.PrintWords Go.Proofs.YtalegejfellbdaaW.PrintLast Go.Proofs.YtalegejfellbdaaW.PrintMore
attribute [local go_sem] max2_int min2_int max_two min_two max_three min_three max_four min_four   -- for this text's walks alone
set_option linter.unusedVariables false
set_option linter.unusedSimpArgs false

/-! ### fleuronlaw9_SystemDecodes: function 5 -/
mutual
def fleuronlaw9_SystemDecodes.j0 : Nat → Int → Int → Bool → Bool → Option (Bool)
  | 0, _, _, _, _ => none
  | k + 1, x0, x1, x2, x34 => if x34 = true then ((fleuronlaw9_awake.f).bind fun t241 => (some t241)) else ((fleuronlaw9_made.f (⟨#[110, 117, 109, 101, 114, 105, 99]⟩ : ByteArray) ([] : List ByteArray)).bind fun bt242 => (if x2 = true then (fleuronlaw9_SystemDecodes.j1 k x0 x1 x2 bt242.1 (⟨#[97, 108, 112, 104, 97, 98, 101, 116, 105, 99]⟩ : ByteArray) bt242.2.2.1 bt242.2.2.2.1 bt242.2.2.2.2.1 bt242.2.2.2.2.2.1 bt242.2.2.2.2.2.2.1 bt242.2.2.2.2.2.2.2.1 bt242.2.2.2.2.2.2.2.2.1 bt242.2.2.2.2.2.2.2.2.2.1 bt242.2.2.2.2.2.2.2.2.2.2.1 bt242.2.2.2.2.2.2.2.2.2.2.2.1 bt242.2.2.2.2.2.2.2.2.2.2.2.2.1 bt242.2.2.2.2.2.2.2.2.2.2.2.2.2.1 bt242.2.2.2.2.2.2.2.2.2.2.2.2.2.2.1 bt242.2.2.2.2.2.2.2.2.2.2.2.2.2.2.2) else (fleuronlaw9_SystemDecodes.j1 k x0 x1 x2 bt242.1 bt242.2.1 bt242.2.2.1 bt242.2.2.2.1 bt242.2.2.2.2.1 bt242.2.2.2.2.2.1 bt242.2.2.2.2.2.2.1 bt242.2.2.2.2.2.2.2.1 bt242.2.2.2.2.2.2.2.2.1 bt242.2.2.2.2.2.2.2.2.2.1 bt242.2.2.2.2.2.2.2.2.2.2.1 bt242.2.2.2.2.2.2.2.2.2.2.2.1 bt242.2.2.2.2.2.2.2.2.2.2.2.2.1 bt242.2.2.2.2.2.2.2.2.2.2.2.2.2.1 bt242.2.2.2.2.2.2.2.2.2.2.2.2.2.2.1 bt242.2.2.2.2.2.2.2.2.2.2.2.2.2.2.2)))
def fleuronlaw9_SystemDecodes.j1 : Nat → Int → Int → Bool → ByteArray → ByteArray → Int → List ByteArray → List Int → ByteArray → ByteArray → ByteArray → ByteArray → Bool → List (S41) → Int → ByteArray → ByteArray → ByteArray → Int → Option (Bool)
  | 0, _, _, _, _, _, _, _, _, _, _, _, _, _, _, _, _, _, _, _ => none
  | k + 1, x0, x1, x2, x265000, x265001, x265002, x265003, x265004, x265005, x265006, x265007, x265008, x265009, x265010, x265011, x265012, x265013, x265014, x265015 => fleuronlaw9_SystemDecodes.l0 k x0 x1 x2 0 x265000 x265001 x265002 x265003 x265004 x265005 x265006 x265007 x265008 x265009 x265010 x265011 x265012 x265013 x265014 x265015
def fleuronlaw9_SystemDecodes.l0 : Nat → Int → Int → Bool → Int → ByteArray → ByteArray → Int → List ByteArray → List Int → ByteArray → ByteArray → ByteArray → ByteArray → Bool → List (S41) → Int → ByteArray → ByteArray → ByteArray → Int → Option (Bool)
  | 0, _, _, _, _, _, _, _, _, _, _, _, _, _, _, _, _, _, _, _, _ => none
  | k + 1, x0, x1, x2, x8, x265000, x265001, x265002, x265003, x265004, x265005, x265006, x265007, x265008, x265009, x265010, x265011, x265012, x265013, x265014, x265015 => if x8 < x1 then (if x265003.length < 8796093022208 then (fleuronlaw9_SystemDecodes.l0 k x0 x1 x2 (wrap64 (x8 + 1)) x265000 x265001 x265002 (x265003 ++ [strOfNums (([(wrap64 (97 + x8)) % 256] : List Int))]) x265004 x265005 x265006 x265007 x265008 x265009 x265010 x265011 x265012 x265013 x265014 x265015) else (none)) else ((system_Signs.f k x265000 x265001 x265002 x265003 x265004 x265005 x265006 x265007 x265008 x265009 x265010 x265011 x265012 x265013 x265014 x265015 x0).bind fun bt271 => (if bt271.2 = true then (if (bt271.1.size : Int) = 0 then (fleuronlaw9_SystemDecodes.j3 k x0 x1 x2 bt271.1 true) else (if x2 = true then (fleuronlaw9_SystemDecodes.j3 k x0 x1 x2 bt271.1 false) else (if x0 > 0 then (if 0 < (bt271.1.size : Int) then (fleuronlaw9_SystemDecodes.j3 k x0 x1 x2 bt271.1 ((bt bt271.1 0) == 97)) else (none)) else (fleuronlaw9_SystemDecodes.j3 k x0 x1 x2 bt271.1 false)))) else (fleuronlaw9_SystemDecodes.j3 k x0 x1 x2 bt271.1 true)))
def fleuronlaw9_SystemDecodes.j3 : Nat → Int → Int → Bool → ByteArray → Bool → Option (Bool)
  | 0, _, _, _, _, _ => none
  | k + 1, x0, x1, x2, x9, x79 => if x79 = true then (some false) else (fleuronlaw9_SystemDecodes.l1 k x0 x1 x2 x9 0 0)
def fleuronlaw9_SystemDecodes.l1 : Nat → Int → Int → Bool → ByteArray → Int → Int → Option (Bool)
  | 0, _, _, _, _, _, _ => none
  | k + 1, x0, x1, x2, x9, x11, x12 => if x12 < (x9.size : Int) then (if 0 ≤ x12 then (if (wrap64 ((wrap64 (bt x9 x12)) - 97)) < 0 then (fleuronlaw9_SystemDecodes.j5 k x0 x1 x2 x9 x11 x12 (wrap64 ((wrap64 (bt x9 x12)) - 97)) true) else (fleuronlaw9_SystemDecodes.j5 k x0 x1 x2 x9 x11 x12 (wrap64 ((wrap64 (bt x9 x12)) - 97)) (decide ((wrap64 ((wrap64 (bt x9 x12)) - 97)) ≥ x1)))) else (none)) else (if x11 = x0 then ((fleuronlaw9_awake.f).bind fun t273 => (some t273)) else (some false))
def fleuronlaw9_SystemDecodes.j5 : Nat → Int → Int → Bool → ByteArray → Int → Int → Int → Bool → Option (Bool)
  | 0, _, _, _, _, _, _, _, _ => none
  | k + 1, x0, x1, x2, x9, x11, x12, x13, x97 => if x97 = true then (some false) else (if x2 = true then (fleuronlaw9_SystemDecodes.l1 k x0 x1 x2 x9 (wrap64 ((wrap64 (x11 * x1)) + (wrap64 (x13 + 1)))) (wrap64 (x12 + 1))) else (fleuronlaw9_SystemDecodes.l1 k x0 x1 x2 x9 (wrap64 ((wrap64 (x11 * x1)) + x13)) (wrap64 (x12 + 1))))
end
def fleuronlaw9_SystemDecodes.f (k : Nat) (a0 : Int) (a1 : Int) (a2 : Bool) : Option (Bool) := if a1 < 2 then (fleuronlaw9_SystemDecodes.j0 k a0 a1 a2 true) else (if a1 > 26 then (fleuronlaw9_SystemDecodes.j0 k a0 a1 a2 true) else (if a0 < 0 then (fleuronlaw9_SystemDecodes.j0 k a0 a1 a2 true) else (if a0 > 2147483648 then (fleuronlaw9_SystemDecodes.j0 k a0 a1 a2 true) else (if a2 = true then (fleuronlaw9_SystemDecodes.j0 k a0 a1 a2 (a0 == 0)) else (fleuronlaw9_SystemDecodes.j0 k a0 a1 a2 false)))))
theorem fleuronlaw9_SystemDecodes.mono_l : ∀ k, (∀ y0 y1 y2 y3, LeO (fleuronlaw9_SystemDecodes.j0 k y0 y1 y2 y3) (fleuronlaw9_SystemDecodes.j0 (k + 1) y0 y1 y2 y3)) ∧ (∀ y0 y1 y2 y3 y4 y5 y6 y7 y8 y9 y10 y11 y12 y13 y14 y15 y16 y17 y18, LeO (fleuronlaw9_SystemDecodes.j1 k y0 y1 y2 y3 y4 y5 y6 y7 y8 y9 y10 y11 y12 y13 y14 y15 y16 y17 y18) (fleuronlaw9_SystemDecodes.j1 (k + 1) y0 y1 y2 y3 y4 y5 y6 y7 y8 y9 y10 y11 y12 y13 y14 y15 y16 y17 y18)) ∧ (∀ y0 y1 y2 y3 y4 y5 y6 y7 y8 y9 y10 y11 y12 y13 y14 y15 y16 y17 y18 y19, LeO (fleuronlaw9_SystemDecodes.l0 k y0 y1 y2 y3 y4 y5 y6 y7 y8 y9 y10 y11 y12 y13 y14 y15 y16 y17 y18 y19) (fleuronlaw9_SystemDecodes.l0 (k + 1) y0 y1 y2 y3 y4 y5 y6 y7 y8 y9 y10 y11 y12 y13 y14 y15 y16 y17 y18 y19)) ∧ (∀ y0 y1 y2 y3 y4, LeO (fleuronlaw9_SystemDecodes.j3 k y0 y1 y2 y3 y4) (fleuronlaw9_SystemDecodes.j3 (k + 1) y0 y1 y2 y3 y4)) ∧ (∀ y0 y1 y2 y3 y4 y5, LeO (fleuronlaw9_SystemDecodes.l1 k y0 y1 y2 y3 y4 y5) (fleuronlaw9_SystemDecodes.l1 (k + 1) y0 y1 y2 y3 y4 y5)) ∧ (∀ y0 y1 y2 y3 y4 y5 y6 y7, LeO (fleuronlaw9_SystemDecodes.j5 k y0 y1 y2 y3 y4 y5 y6 y7) (fleuronlaw9_SystemDecodes.j5 (k + 1) y0 y1 y2 y3 y4 y5 y6 y7))
  | 0 => ⟨fun _ _ _ _ r h => by simp [fleuronlaw9_SystemDecodes.j0] at h, fun _ _ _ _ _ _ _ _ _ _ _ _ _ _ _ _ _ _ _ r h => by simp [fleuronlaw9_SystemDecodes.j1] at h, fun _ _ _ _ _ _ _ _ _ _ _ _ _ _ _ _ _ _ _ _ r h => by simp [fleuronlaw9_SystemDecodes.l0] at h, fun _ _ _ _ _ r h => by simp [fleuronlaw9_SystemDecodes.j3] at h, fun _ _ _ _ _ _ r h => by simp [fleuronlaw9_SystemDecodes.l1] at h, fun _ _ _ _ _ _ _ _ r h => by simp [fleuronlaw9_SystemDecodes.j5] at h⟩
  | k + 1 => by
    obtain ⟨ih0, ih1, ih2, ih3, ih4, ih5⟩ := fleuronlaw9_SystemDecodes.mono_l k
    refine ⟨?_, ?_, ?_, ?_, ?_, ?_⟩
    · intro y0 y1 y2 y3
      unfold fleuronlaw9_SystemDecodes.j0
      repeat' first
      | (with_reducible exact ih0 _ _ _ _)
      | (with_reducible exact ih1 _ _ _ _ _ _ _ _ _ _ _ _ _ _ _ _ _ _ _)
      | (with_reducible exact ih2 _ _ _ _ _ _ _ _ _ _ _ _ _ _ _ _ _ _ _ _)
      | (with_reducible exact ih3 _ _ _ _ _)
      | (with_reducible exact ih4 _ _ _ _ _ _)
      | (with_reducible exact ih5 _ _ _ _ _ _ _ _)
      | (with_reducible exact system_Signs.mono _ _ _ _ _ _ _ _ _ _ _ _ _ _ _ _ _ _)
      | (with_reducible exact LeO.refl _)
      | (with_reducible exact LeO.none _)
      | (with_reducible refine LeO.ite ?_ ?_)
      | (with_reducible refine LeO.bind ?_ (fun _ => ?_))
      | exact ih0 _ _ _ _
      | exact ih1 _ _ _ _ _ _ _ _ _ _ _ _ _ _ _ _ _ _ _
      | exact ih2 _ _ _ _ _ _ _ _ _ _ _ _ _ _ _ _ _ _ _ _
      | exact ih3 _ _ _ _ _
      | exact ih4 _ _ _ _ _ _
      | exact ih5 _ _ _ _ _ _ _ _
      | exact system_Signs.mono _ _ _ _ _ _ _ _ _ _ _ _ _ _ _ _ _ _
      | exact LeO.none _
      | refine LeO.ite ?_ ?_
      | refine LeO.bind ?_ (fun _ => ?_)
    · intro y0 y1 y2 y3 y4 y5 y6 y7 y8 y9 y10 y11 y12 y13 y14 y15 y16 y17 y18
      unfold fleuronlaw9_SystemDecodes.j1
      repeat' first
      | (with_reducible exact ih0 _ _ _ _)
      | (with_reducible exact ih1 _ _ _ _ _ _ _ _ _ _ _ _ _ _ _ _ _ _ _)
      | (with_reducible exact ih2 _ _ _ _ _ _ _ _ _ _ _ _ _ _ _ _ _ _ _ _)
      | (with_reducible exact ih3 _ _ _ _ _)
      | (with_reducible exact ih4 _ _ _ _ _ _)
      | (with_reducible exact ih5 _ _ _ _ _ _ _ _)
      | (with_reducible exact system_Signs.mono _ _ _ _ _ _ _ _ _ _ _ _ _ _ _ _ _ _)
      | (with_reducible exact LeO.refl _)
      | (with_reducible exact LeO.none _)
      | (with_reducible refine LeO.ite ?_ ?_)
      | (with_reducible refine LeO.bind ?_ (fun _ => ?_))
      | exact ih0 _ _ _ _
      | exact ih1 _ _ _ _ _ _ _ _ _ _ _ _ _ _ _ _ _ _ _
      | exact ih2 _ _ _ _ _ _ _ _ _ _ _ _ _ _ _ _ _ _ _ _
      | exact ih3 _ _ _ _ _
      | exact ih4 _ _ _ _ _ _
      | exact ih5 _ _ _ _ _ _ _ _
      | exact system_Signs.mono _ _ _ _ _ _ _ _ _ _ _ _ _ _ _ _ _ _
      | exact LeO.none _
      | refine LeO.ite ?_ ?_
      | refine LeO.bind ?_ (fun _ => ?_)
    · intro y0 y1 y2 y3 y4 y5 y6 y7 y8 y9 y10 y11 y12 y13 y14 y15 y16 y17 y18 y19
      unfold fleuronlaw9_SystemDecodes.l0
      repeat' first
      | (with_reducible exact ih0 _ _ _ _)
      | (with_reducible exact ih1 _ _ _ _ _ _ _ _ _ _ _ _ _ _ _ _ _ _ _)
      | (with_reducible exact ih2 _ _ _ _ _ _ _ _ _ _ _ _ _ _ _ _ _ _ _ _)
      | (with_reducible exact ih3 _ _ _ _ _)
      | (with_reducible exact ih4 _ _ _ _ _ _)
      | (with_reducible exact ih5 _ _ _ _ _ _ _ _)
      | (with_reducible exact system_Signs.mono _ _ _ _ _ _ _ _ _ _ _ _ _ _ _ _ _ _)
      | (with_reducible exact LeO.refl _)
      | (with_reducible exact LeO.none _)
      | (with_reducible refine LeO.ite ?_ ?_)
      | (with_reducible refine LeO.bind ?_ (fun _ => ?_))
      | exact ih0 _ _ _ _
      | exact ih1 _ _ _ _ _ _ _ _ _ _ _ _ _ _ _ _ _ _ _
      | exact ih2 _ _ _ _ _ _ _ _ _ _ _ _ _ _ _ _ _ _ _ _
      | exact ih3 _ _ _ _ _
      | exact ih4 _ _ _ _ _ _
      | exact ih5 _ _ _ _ _ _ _ _
      | exact system_Signs.mono _ _ _ _ _ _ _ _ _ _ _ _ _ _ _ _ _ _
      | exact LeO.none _
      | refine LeO.ite ?_ ?_
      | refine LeO.bind ?_ (fun _ => ?_)
    · intro y0 y1 y2 y3 y4
      unfold fleuronlaw9_SystemDecodes.j3
      repeat' first
      | (with_reducible exact ih0 _ _ _ _)
      | (with_reducible exact ih1 _ _ _ _ _ _ _ _ _ _ _ _ _ _ _ _ _ _ _)
      | (with_reducible exact ih2 _ _ _ _ _ _ _ _ _ _ _ _ _ _ _ _ _ _ _ _)
      | (with_reducible exact ih3 _ _ _ _ _)
      | (with_reducible exact ih4 _ _ _ _ _ _)
      | (with_reducible exact ih5 _ _ _ _ _ _ _ _)
      | (with_reducible exact system_Signs.mono _ _ _ _ _ _ _ _ _ _ _ _ _ _ _ _ _ _)
      | (with_reducible exact LeO.refl _)
      | (with_reducible exact LeO.none _)
      | (with_reducible refine LeO.ite ?_ ?_)
      | (with_reducible refine LeO.bind ?_ (fun _ => ?_))
      | exact ih0 _ _ _ _
      | exact ih1 _ _ _ _ _ _ _ _ _ _ _ _ _ _ _ _ _ _ _
      | exact ih2 _ _ _ _ _ _ _ _ _ _ _ _ _ _ _ _ _ _ _ _
      | exact ih3 _ _ _ _ _
      | exact ih4 _ _ _ _ _ _
      | exact ih5 _ _ _ _ _ _ _ _
      | exact system_Signs.mono _ _ _ _ _ _ _ _ _ _ _ _ _ _ _ _ _ _
      | exact LeO.none _
      | refine LeO.ite ?_ ?_
      | refine LeO.bind ?_ (fun _ => ?_)
    · intro y0 y1 y2 y3 y4 y5
      unfold fleuronlaw9_SystemDecodes.l1
      repeat' first
      | (with_reducible exact ih0 _ _ _ _)
      | (with_reducible exact ih1 _ _ _ _ _ _ _ _ _ _ _ _ _ _ _ _ _ _ _)
      | (with_reducible exact ih2 _ _ _ _ _ _ _ _ _ _ _ _ _ _ _ _ _ _ _ _)
      | (with_reducible exact ih3 _ _ _ _ _)
      | (with_reducible exact ih4 _ _ _ _ _ _)
      | (with_reducible exact ih5 _ _ _ _ _ _ _ _)
      | (with_reducible exact system_Signs.mono _ _ _ _ _ _ _ _ _ _ _ _ _ _ _ _ _ _)
      | (with_reducible exact LeO.refl _)
      | (with_reducible exact LeO.none _)
      | (with_reducible refine LeO.ite ?_ ?_)
      | (with_reducible refine LeO.bind ?_ (fun _ => ?_))
      | exact ih0 _ _ _ _
      | exact ih1 _ _ _ _ _ _ _ _ _ _ _ _ _ _ _ _ _ _ _
      | exact ih2 _ _ _ _ _ _ _ _ _ _ _ _ _ _ _ _ _ _ _ _
      | exact ih3 _ _ _ _ _
      | exact ih4 _ _ _ _ _ _
      | exact ih5 _ _ _ _ _ _ _ _
      | exact system_Signs.mono _ _ _ _ _ _ _ _ _ _ _ _ _ _ _ _ _ _
      | exact LeO.none _
      | refine LeO.ite ?_ ?_
      | refine LeO.bind ?_ (fun _ => ?_)
    · intro y0 y1 y2 y3 y4 y5 y6 y7
      unfold fleuronlaw9_SystemDecodes.j5
      repeat' first
      | (with_reducible exact ih0 _ _ _ _)
      | (with_reducible exact ih1 _ _ _ _ _ _ _ _ _ _ _ _ _ _ _ _ _ _ _)
      | (with_reducible exact ih2 _ _ _ _ _ _ _ _ _ _ _ _ _ _ _ _ _ _ _ _)
      | (with_reducible exact ih3 _ _ _ _ _)
      | (with_reducible exact ih4 _ _ _ _ _ _)
      | (with_reducible exact ih5 _ _ _ _ _ _ _ _)
      | (with_reducible exact system_Signs.mono _ _ _ _ _ _ _ _ _ _ _ _ _ _ _ _ _ _)
      | (with_reducible exact LeO.refl _)
      | (with_reducible exact LeO.none _)
      | (with_reducible refine LeO.ite ?_ ?_)
      | (with_reducible refine LeO.bind ?_ (fun _ => ?_))
      | exact ih0 _ _ _ _
      | exact ih1 _ _ _ _ _ _ _ _ _ _ _ _ _ _ _ _ _ _ _
      | exact ih2 _ _ _ _ _ _ _ _ _ _ _ _ _ _ _ _ _ _ _ _
      | exact ih3 _ _ _ _ _
      | exact ih4 _ _ _ _ _ _
      | exact ih5 _ _ _ _ _ _ _ _
      | exact system_Signs.mono _ _ _ _ _ _ _ _ _ _ _ _ _ _ _ _ _ _
      | exact LeO.none _
      | refine LeO.ite ?_ ?_
      | refine LeO.bind ?_ (fun _ => ?_)
theorem fleuronlaw9_SystemDecodes.mono : ∀ a0 a1 a2 k, LeO (fleuronlaw9_SystemDecodes.f k a0 a1 a2) (fleuronlaw9_SystemDecodes.f (k + 1) a0 a1 a2) := by
  intro a0 a1 a2 k
  obtain ⟨ih0, ih1, ih2, ih3, ih4, ih5⟩ := fleuronlaw9_SystemDecodes.mono_l k
  unfold fleuronlaw9_SystemDecodes.f
  repeat' first
      | (with_reducible exact ih0 _ _ _ _)
      | (with_reducible exact ih1 _ _ _ _ _ _ _ _ _ _ _ _ _ _ _ _ _ _ _)
      | (with_reducible exact ih2 _ _ _ _ _ _ _ _ _ _ _ _ _ _ _ _ _ _ _ _)
      | (with_reducible exact ih3 _ _ _ _ _)
      | (with_reducible exact ih4 _ _ _ _ _ _)
      | (with_reducible exact ih5 _ _ _ _ _ _ _ _)
      | (with_reducible exact system_Signs.mono _ _ _ _ _ _ _ _ _ _ _ _ _ _ _ _ _ _)
      | (with_reducible exact LeO.refl _)
      | (with_reducible exact LeO.none _)
      | (with_reducible refine LeO.ite ?_ ?_)
      | (with_reducible refine LeO.bind ?_ (fun _ => ?_))
      | exact ih0 _ _ _ _
      | exact ih1 _ _ _ _ _ _ _ _ _ _ _ _ _ _ _ _ _ _ _
      | exact ih2 _ _ _ _ _ _ _ _ _ _ _ _ _ _ _ _ _ _ _ _
      | exact ih3 _ _ _ _ _
      | exact ih4 _ _ _ _ _ _
      | exact ih5 _ _ _ _ _ _ _ _
      | exact system_Signs.mono _ _ _ _ _ _ _ _ _ _ _ _ _ _ _ _ _ _
      | exact LeO.none _
      | refine LeO.ite ?_ ?_
      | refine LeO.bind ?_ (fun _ => ?_)
set_option maxHeartbeats 8000000 in
set_option maxRecDepth 100000 in
theorem fleuronlaw9_SystemDecodes.calls (k : Nat) (a0 : Int) (a1 : Int) (a2 : Bool) (r : Bool) (w : World) (h : fleuronlaw9_SystemDecodes.f k a0 a1 a2 = some r) (ht0_ : r = true) :
    Calls Try.prog 5 #[.int .i64 a0, .int .i64 a1, .bool a2] w fun e w' => e = .returned (.bool r) ∧ Below w.heap.size w w' := by
  have hu27 := Try.underlying27
  have HB := Aside0.mk (Below.refl w.heap.size w)
  have H : (if a1 < 2 then (fleuronlaw9_SystemDecodes.j0 k a0 a1 a2 true) else (if a1 > 26 then (fleuronlaw9_SystemDecodes.j0 k a0 a1 a2 true) else (if a0 < 0 then (fleuronlaw9_SystemDecodes.j0 k a0 a1 a2 true) else (if a0 > 2147483648 then (fleuronlaw9_SystemDecodes.j0 k a0 a1 a2 true) else (if a2 = true then (fleuronlaw9_SystemDecodes.j0 k a0 a1 a2 (a0 == 0)) else (fleuronlaw9_SystemDecodes.j0 k a0 a1 a2 false)))))) = some r := h
  clear h
  have ht_ := Aside0.mk ht0_
  clear ht0_
  have HC4 := Aside0.mk H
  clear H
  go_enter Try.func5, Try.ntmps5
  go_upto_region 1 with (fail)
  go_cut [34] (fun v34 wc => ∃ (kq : Nat) (x34_3 : Bool), v34 = .bool x34_3 ∧ Aside0 (fleuronlaw9_SystemDecodes.j0 kq a0 a1 a2 x34_3 = some r) ∧ Aside0 (kq ≤ k) ∧ Aside0 (Below w.heap.size w wc))
  case first =>
    have H := HC4.out
    clear HC4
    by_cases c5 : a1 < 2
    · rw [if_pos c5] at H
      have c5b0 : decide (a1 < 2) = true := decide_eq_true c5
      clear c5
      (first | rw [c5b0] | (simp only [i64_w, i32_w]; rw [c5b0]) | skip)
      have H' := Aside0.mk H
      clear H
      go_wp2
      go_meet
      case rel => exact ⟨_, (true), (by first | rfl | (simp; done) | (simp [*]; done)), H', ⟨by first | omega | exact Nat.le_refl _⟩, ⟨by repeat (first | (with_reducible first | exact HB.out | apply below_alloc | apply pw_below_drewN | apply below_drew1) | exact HB.out)⟩⟩
    · rw [if_neg c5] at H
      have c5b0 : decide (a1 < 2) = false := decide_eq_false c5
      clear c5
      (first | rw [c5b0] | (simp only [i64_w, i32_w]; rw [c5b0]) | skip)
      by_cases c6 : a1 > 26
      · rw [if_pos c6] at H
        have c6b0 : decide (26 < a1) = true := decide_eq_true c6
        clear c6
        have H' := Aside0.mk H
        clear H
        go_wp2
        go_meet
        case rel => exact ⟨_, (true), (by first | rfl | (simp; done) | (simp [*]; done)), H', ⟨by first | omega | exact Nat.le_refl _⟩, ⟨by repeat (first | (with_reducible first | exact HB.out | apply below_alloc | apply pw_below_drewN | apply below_drew1) | exact HB.out)⟩⟩
      · rw [if_neg c6] at H
        have c6b0 : decide (26 < a1) = false := decide_eq_false c6
        clear c6
        by_cases c7 : a0 < 0
        · rw [if_pos c7] at H
          have c7b0 : decide (a0 < 0) = true := decide_eq_true c7
          clear c7
          have H' := Aside0.mk H
          clear H
          go_wp2
          go_meet
          case rel => exact ⟨_, (true), (by first | rfl | (simp; done) | (simp [*]; done)), H', ⟨by first | omega | exact Nat.le_refl _⟩, ⟨by repeat (first | (with_reducible first | exact HB.out | apply below_alloc | apply pw_below_drewN | apply below_drew1) | exact HB.out)⟩⟩
        · rw [if_neg c7] at H
          have c7b0 : decide (a0 < 0) = false := decide_eq_false c7
          clear c7
          by_cases c8 : a0 > 2147483648
          · rw [if_pos c8] at H
            have c8b0 : decide (2147483648 < a0) = true := decide_eq_true c8
            clear c8
            have H' := Aside0.mk H
            clear H
            go_wp2
            go_meet
            case rel => exact ⟨_, (true), (by first | rfl | (simp; done) | (simp [*]; done)), H', ⟨by first | omega | exact Nat.le_refl _⟩, ⟨by repeat (first | (with_reducible first | exact HB.out | apply below_alloc | apply pw_below_drewN | apply below_drew1) | exact HB.out)⟩⟩
          · rw [if_neg c8] at H
            have c8b0 : decide (2147483648 < a0) = false := decide_eq_false c8
            clear c8
            by_cases c9 : a2 = true
            · subst c9
              have H1 : (fleuronlaw9_SystemDecodes.j0 k a0 a1 true (a0 == 0)) = some r := by rw [if_pos rfl] at H; exact H
              clear H
              have H := H1
              clear H1
              have H' := Aside0.mk H
              clear H
              go_wp2
              go_meet
              case rel => exact ⟨_, ((a0 == 0)), (by first | rfl | (simp; done) | (simp [*]; done)), H', ⟨by first | omega | exact Nat.le_refl _⟩, ⟨by repeat (first | (with_reducible first | exact HB.out | apply below_alloc | apply pw_below_drewN | apply below_drew1) | exact HB.out)⟩⟩
            · replace c9 := Bool.eq_false_iff.mpr c9
              subst c9
              have H1 : (fleuronlaw9_SystemDecodes.j0 k a0 a1 false false) = some r := by rw [if_neg (show ¬ (false = true) by decide)] at H; exact H
              clear H
              have H := H1
              clear H1
              have H' := Aside0.mk H
              clear H
              go_wp2
              go_meet
              case rel => exact ⟨_, (false), (by first | rfl | (simp; done) | (simp [*]; done)), H', ⟨by first | omega | exact Nat.le_refl _⟩, ⟨by repeat (first | (with_reducible first | exact HB.out | apply below_alloc | apply pw_below_drewN | apply below_drew1) | exact HB.out)⟩⟩
  case rest =>
    clear HC4
    try clear p2
    try clear c5
    try clear c5b0
    try clear c6
    try clear c6b0
    try clear c7
    try clear c7b0
    try clear c8
    try clear c8b0
    try clear c9
    obtain ⟨kq, x34_3, rfl, HA, HJ3, HB⟩ := hcut
    cases kq with
    | zero => exact absurd HA.out (by simp [fleuronlaw9_SystemDecodes.j0])
    | succ kj3 =>
      have H := HA.out
      clear HA
      simp only [fleuronlaw9_SystemDecodes.j0] at H
      by_cases c10 : x34_3 = true
      · subst c10
        have H1 : ((fleuronlaw9_awake.f).bind fun t241 => (some t241)) = some r := by rw [if_pos rfl] at H; exact H
        clear H
        have H := H1
        clear H1
        replace H := Option.bind_eq_some_iff.mp H
        obtain ⟨t241, A110, H⟩ := H
        replace H : (some t241) = some r := H
        have A11 := Aside0.mk A110
        clear A110
        obtain rfl := Option.some.inj H
        go_wp2_with (first | ((with_reducible refine gate_callee (f := 10) rfl ?_); refine goesL_ (some 35) rfl rfl Try.func10 (by kernel_rfl) rfl #[] rfl (by (try simp only [List.map_toArray, List.map_cons, List.map_nil]); first | done | rfl | (simp only [List.length_drop, List.length_take]; rfl)) ?_; (with_reducible refine (fleuronlaw9_awake.calls  t241 _ A11.out ht_.out).mono ?_); rintro e w12 ⟨rfl, hb⟩; refine ⟨_, rfl, ?_⟩; have n0_ := Aside0.mk (below_step (by repeat (first | (with_reducible first | exact HB.out | apply below_alloc | apply pw_below_drewN | apply below_drew1) | exact HB.out)) hb); clear HB; have HB := n0_; clear n0_; (try clear hb); (try clear hb2); (try clear hk); (try clear hi)))
        go_ret
        exact ⟨by first | rfl | (simp [errW_none, errW_some] <;> rfl) | (simp [*, errW_none, errW_some] <;> rfl), by repeat (first | (with_reducible first | exact HB.out | apply below_alloc | apply pw_below_drewN | apply below_drew1) | exact HB.out)⟩
      · replace c10 := Bool.eq_false_iff.mpr c10
        subst c10
        have H1 : ((fleuronlaw9_made.f (⟨#[110, 117, 109, 101, 114, 105, 99]⟩ : ByteArray) ([] : List ByteArray)).bind fun bt242 => (if a2 = true then (fleuronlaw9_SystemDecodes.j1 kj3 a0 a1 a2 bt242.1 (⟨#[97, 108, 112, 104, 97, 98, 101, 116, 105, 99]⟩ : ByteArray) bt242.2.2.1 bt242.2.2.2.1 bt242.2.2.2.2.1 bt242.2.2.2.2.2.1 bt242.2.2.2.2.2.2.1 bt242.2.2.2.2.2.2.2.1 bt242.2.2.2.2.2.2.2.2.1 bt242.2.2.2.2.2.2.2.2.2.1 bt242.2.2.2.2.2.2.2.2.2.2.1 bt242.2.2.2.2.2.2.2.2.2.2.2.1 bt242.2.2.2.2.2.2.2.2.2.2.2.2.1 bt242.2.2.2.2.2.2.2.2.2.2.2.2.2.1 bt242.2.2.2.2.2.2.2.2.2.2.2.2.2.2.1 bt242.2.2.2.2.2.2.2.2.2.2.2.2.2.2.2) else (fleuronlaw9_SystemDecodes.j1 kj3 a0 a1 a2 bt242.1 bt242.2.1 bt242.2.2.1 bt242.2.2.2.1 bt242.2.2.2.2.1 bt242.2.2.2.2.2.1 bt242.2.2.2.2.2.2.1 bt242.2.2.2.2.2.2.2.1 bt242.2.2.2.2.2.2.2.2.1 bt242.2.2.2.2.2.2.2.2.2.1 bt242.2.2.2.2.2.2.2.2.2.2.1 bt242.2.2.2.2.2.2.2.2.2.2.2.1 bt242.2.2.2.2.2.2.2.2.2.2.2.2.1 bt242.2.2.2.2.2.2.2.2.2.2.2.2.2.1 bt242.2.2.2.2.2.2.2.2.2.2.2.2.2.2.1 bt242.2.2.2.2.2.2.2.2.2.2.2.2.2.2.2))) = some r := by rw [if_neg (show ¬ (false = true) by decide)] at H; exact H
        clear H
        have H := H1
        clear H1
        replace H := Option.bind_eq_some_iff.mp H
        obtain ⟨⟨t242, t243, t244, t245, t248, t251, t252, t253, t254, t255, t256, t259, t260, t261, t262, t263⟩, A130, H⟩ := H
        replace H : (if a2 = true then (fleuronlaw9_SystemDecodes.j1 kj3 a0 a1 a2 t242 (⟨#[97, 108, 112, 104, 97, 98, 101, 116, 105, 99]⟩ : ByteArray) t244 t245 t248 t251 t252 t253 t254 t255 t256 t259 t260 t261 t262 t263) else (fleuronlaw9_SystemDecodes.j1 kj3 a0 a1 a2 t242 t243 t244 t245 t248 t251 t252 t253 t254 t255 t256 t259 t260 t261 t262 t263)) = some r := H
        have A13 := Aside0.mk A130
        clear A130
        have HC14 := Aside0.mk H
        clear H
        go_upto_if 37 with (first | ((with_reducible refine gate_callee (f := 13) rfl ?_); refine goesL_ (some 36) rfl rfl Try.func13 (by kernel_rfl) rfl #[.string (⟨#[110, 117, 109, 101, 114, 105, 99]⟩ : ByteArray), .slice none 0 0] rfl (by (try simp only [List.map_toArray, List.map_cons, List.map_nil]); first | done | rfl | (simp only [List.length_drop, List.length_take]; rfl)) ?_; (refine (fleuronlaw9_made.calls (⟨#[110, 117, 109, 101, 114, 105, 99]⟩ : ByteArray) (fun k_ => some k_ = (.slice none 0 0 : Value).ownBlock) (.slice none 0 0) ([] : List ByteArray) t242 t243 t244 t245 t248 t251 t252 t253 t254 t255 t256 t259 t260 t261 t262 t263 w _ ?side1 ?side2 A13.out).mono ?_); (case side1 => repeat (first | (with_reducible first | exact HB.out | apply below_alloc | apply pw_below_drewN | apply below_drew1) | exact HB.out)); (case side2 => exact Kd.R_nil _ _ _ _ _); rintro e w15 ⟨v246, v249, v257, rfl, ho0, ho1, ho2, hb, hkp⟩; refine ⟨_, rfl, ?_⟩; have n0_ := Aside0.mk (Kd.R_mono (ok' := fun k_ => True) ho0 (fun k_ hk_ => trivial)); have n1_ := Aside0.mk (Kd.R_mono (ok' := fun k_ => True) ho1 (fun k_ hk_ => trivial)); have n2_ := Aside0.mk (Kd.R_mono (ok' := fun k_ => True) ho2 (fun k_ hk_ => trivial)); have n3_ := Aside0.mk (hb); clear HB; have HO247 := n0_; have HO250 := n1_; have HO258 := n2_; have HB := n3_; clear n0_ n1_ n2_ n3_; (try clear hb); (try clear hkp); (try clear ho0); (try clear ho1); (try clear ho2)) | ((with_reducible refine gate_dst (N := 7) rfl ?_); (try (refine gate_guard (by rfl) ?_; dsimp only)); refine box_event ?hg (N := 7) ?hd (cs := #[.string (⟨#[]⟩ : ByteArray), .string (⟨#[]⟩ : ByteArray), .int .i64 0, .slice none 0 0, .slice none 0 0, .string (⟨#[]⟩ : ByteArray), .string (⟨#[]⟩ : ByteArray), .string (⟨#[]⟩ : ByteArray), .string (⟨#[]⟩ : ByteArray), .bool false, .slice none 0 0, .int .i64 0, .string (⟨#[]⟩ : ByteArray), .string (⟨#[]⟩ : ByteArray), .string (⟨#[]⟩ : ByteArray), .int .i64 0]) (t := 27) ?hr ?_; (case hd => rfl); (case hg => rfl); (case hr => first | (go_simp; done) | (go_simp; rfl)); intro gb264 hg w16 hbox hb; have n0_ := Aside0.mk (Kd.R_below (by (with_reducible repeat (first | apply Kd.R_alloc | apply Kd.R_drewN | apply Kd.R_drew)); exact HO247.out) hb); have n1_ := Aside0.mk (Kd.R_below (by (with_reducible repeat (first | apply Kd.R_alloc | apply Kd.R_drewN | apply Kd.R_drew)); exact HO250.out) hb); have n2_ := Aside0.mk (Kd.R_below (by (with_reducible repeat (first | apply Kd.R_alloc | apply Kd.R_drewN | apply Kd.R_drew)); exact HO258.out) hb); have n3_ := Aside0.mk (below_step (by repeat (first | (with_reducible first | exact HB.out | apply below_alloc | apply pw_below_drewN | apply below_drew1) | exact HB.out)) hb); have n4_ := Aside0.mk (hbox); have n5_ := Aside0.mk ((by rw [hg]; exact (below_size (by repeat (first | (with_reducible first | exact HB.out | apply below_alloc | apply pw_below_drewN | apply below_drew1) | exact HB.out))) : w.heap.size ≤ gb264)); have n6_ := Aside0.mk ((by rw [hg]; exact (below_size (by repeat (first | (with_reducible first | exact HB.out | apply below_alloc | apply pw_below_drewN | apply below_drew1) | exact HB.out))) : w.heap.size ≤ gb264)); clear HO247; clear HO250; clear HO258; clear HB; have HO247 := n0_; have HO250 := n1_; have HO258 := n2_; have HB := n3_; have BK264 := n4_; have GW264 := n5_; have GE264 := n6_; clear n0_ n1_ n2_ n3_ n4_ n5_ n6_; clear hb hbox hg; have hcz17_0 : w16.cell? ⟨gb264, 0, none⟩ = some (.string (⟨#[]⟩ : ByteArray)) := (blk_cell BK264.out 0).trans rfl; have hcz17_1 : w16.cell? ⟨gb264, 1, none⟩ = some (.string (⟨#[]⟩ : ByteArray)) := (blk_cell BK264.out 1).trans rfl; have hcz17_2 : w16.cell? ⟨gb264, 2, none⟩ = some (.int .i64 0) := (blk_cell BK264.out 2).trans rfl; have hcz17_3 : w16.cell? ⟨gb264, 3, none⟩ = some (.slice none 0 0) := (blk_cell BK264.out 3).trans rfl; have hcz17_4 : w16.cell? ⟨gb264, 4, none⟩ = some (.slice none 0 0) := (blk_cell BK264.out 4).trans rfl; have hcz17_5 : w16.cell? ⟨gb264, 5, none⟩ = some (.string (⟨#[]⟩ : ByteArray)) := (blk_cell BK264.out 5).trans rfl; have hcz17_6 : w16.cell? ⟨gb264, 6, none⟩ = some (.string (⟨#[]⟩ : ByteArray)) := (blk_cell BK264.out 6).trans rfl; have hcz17_7 : w16.cell? ⟨gb264, 7, none⟩ = some (.string (⟨#[]⟩ : ByteArray)) := (blk_cell BK264.out 7).trans rfl; have hcz17_8 : w16.cell? ⟨gb264, 8, none⟩ = some (.string (⟨#[]⟩ : ByteArray)) := (blk_cell BK264.out 8).trans rfl; have hcz17_9 : w16.cell? ⟨gb264, 9, none⟩ = some (.bool false) := (blk_cell BK264.out 9).trans rfl; have hcz17_10 : w16.cell? ⟨gb264, 10, none⟩ = some (.slice none 0 0) := (blk_cell BK264.out 10).trans rfl; have hcz17_11 : w16.cell? ⟨gb264, 11, none⟩ = some (.int .i64 0) := (blk_cell BK264.out 11).trans rfl; have hcz17_12 : w16.cell? ⟨gb264, 12, none⟩ = some (.string (⟨#[]⟩ : ByteArray)) := (blk_cell BK264.out 12).trans rfl; have hcz17_13 : w16.cell? ⟨gb264, 13, none⟩ = some (.string (⟨#[]⟩ : ByteArray)) := (blk_cell BK264.out 13).trans rfl; have hcz17_14 : w16.cell? ⟨gb264, 14, none⟩ = some (.string (⟨#[]⟩ : ByteArray)) := (blk_cell BK264.out 14).trans rfl; have hcz17_15 : w16.cell? ⟨gb264, 15, none⟩ = some (.int .i64 0) := (blk_cell BK264.out 15).trans rfl; have hfz17_0 := blk_frozen BK264.out 0; have hfz17_1 := blk_frozen BK264.out 1; have hfz17_2 := blk_frozen BK264.out 2; have hfz17_3 := blk_frozen BK264.out 3; have hfz17_4 := blk_frozen BK264.out 4; have hfz17_5 := blk_frozen BK264.out 5; have hfz17_6 := blk_frozen BK264.out 6; have hfz17_7 := blk_frozen BK264.out 7; have hfz17_8 := blk_frozen BK264.out 8; have hfz17_9 := blk_frozen BK264.out 9; have hfz17_10 := blk_frozen BK264.out 10; have hfz17_11 := blk_frozen BK264.out 11; have hfz17_12 := blk_frozen BK264.out 12; have hfz17_13 := blk_frozen BK264.out 13; have hfz17_14 := blk_frozen BK264.out 14; have hfz17_15 := blk_frozen BK264.out 15; obtain ⟨Ao18, co18, eo18⟩ := Kd.R_slice HO247.out; subst eo18; obtain ⟨Ao19, co19, eo19⟩ := Kd.R_slice HO250.out; subst eo19; obtain ⟨Ao20, co20, eo20⟩ := Kd.R_slice HO258.out; subst eo20))
        (try simp only [Act.put, List.setIfInBounds_toArray, List.set_cons_zero, List.set_cons_succ])
        go_cut [] (fun wc => ∃ (kq : Nat) (x265001_13 : ByteArray), Aside0 (fleuronlaw9_SystemDecodes.j1 kq a0 a1 a2 t242 x265001_13 t244 t245 t248 t251 t252 t253 t254 t255 t256 t259 t260 t261 t262 t263 = some r) ∧ Aside0 (kq ≤ kj3) ∧ Aside0 (Kd.R Kd.string 9 wc w.heap.size (fun _ => True) (.slice Ao18 t245.length co18) t245) ∧ Aside0 (Kd.R (Kd.int .i64) 3 wc w.heap.size (fun _ => True) (.slice Ao19 t248.length co19) t248) ∧ Aside0 (Kd.R k41 41 wc w.heap.size (fun _ => True) (.slice Ao20 t256.length co20) t256) ∧ Aside0 (wc.heap[gb264]? = some (.cells #[.string t242, .string x265001_13, .int .i64 t244, (.slice Ao18 t245.length co18), (.slice Ao19 t248.length co19), .string t251, .string t252, .string t253, .string t254, .bool t255, (.slice Ao20 t256.length co20), .int .i64 t259, .string t260, .string t261, .string t262, .int .i64 t263] 27 (0, 0))) ∧ Aside0 (Below w.heap.size w wc))
        case first =>
          have H := HC14.out
          clear HC14
          by_cases c21 : a2 = true
          · subst c21
            have H1 : (fleuronlaw9_SystemDecodes.j1 kj3 a0 a1 true t242 (⟨#[97, 108, 112, 104, 97, 98, 101, 116, 105, 99]⟩ : ByteArray) t244 t245 t248 t251 t252 t253 t254 t255 t256 t259 t260 t261 t262 t263) = some r := by rw [if_pos rfl] at H; exact H
            clear H
            have H := H1
            clear H1
            have H' := Aside0.mk H
            clear H
            have hcz22_0 : w16.cell? ⟨gb264, 0, none⟩ = some (.string (⟨#[]⟩ : ByteArray)) := (blk_cell BK264.out 0).trans rfl
            have hcz22_1 : w16.cell? ⟨gb264, 1, none⟩ = some (.string (⟨#[]⟩ : ByteArray)) := (blk_cell BK264.out 1).trans rfl
            have hcz22_2 : w16.cell? ⟨gb264, 2, none⟩ = some (.int .i64 0) := (blk_cell BK264.out 2).trans rfl
            have hcz22_3 : w16.cell? ⟨gb264, 3, none⟩ = some (.slice none 0 0) := (blk_cell BK264.out 3).trans rfl
            have hcz22_4 : w16.cell? ⟨gb264, 4, none⟩ = some (.slice none 0 0) := (blk_cell BK264.out 4).trans rfl
            have hcz22_5 : w16.cell? ⟨gb264, 5, none⟩ = some (.string (⟨#[]⟩ : ByteArray)) := (blk_cell BK264.out 5).trans rfl
            have hcz22_6 : w16.cell? ⟨gb264, 6, none⟩ = some (.string (⟨#[]⟩ : ByteArray)) := (blk_cell BK264.out 6).trans rfl
            have hcz22_7 : w16.cell? ⟨gb264, 7, none⟩ = some (.string (⟨#[]⟩ : ByteArray)) := (blk_cell BK264.out 7).trans rfl
            have hcz22_8 : w16.cell? ⟨gb264, 8, none⟩ = some (.string (⟨#[]⟩ : ByteArray)) := (blk_cell BK264.out 8).trans rfl
            have hcz22_9 : w16.cell? ⟨gb264, 9, none⟩ = some (.bool false) := (blk_cell BK264.out 9).trans rfl
            have hcz22_10 : w16.cell? ⟨gb264, 10, none⟩ = some (.slice none 0 0) := (blk_cell BK264.out 10).trans rfl
            have hcz22_11 : w16.cell? ⟨gb264, 11, none⟩ = some (.int .i64 0) := (blk_cell BK264.out 11).trans rfl
            have hcz22_12 : w16.cell? ⟨gb264, 12, none⟩ = some (.string (⟨#[]⟩ : ByteArray)) := (blk_cell BK264.out 12).trans rfl
            have hcz22_13 : w16.cell? ⟨gb264, 13, none⟩ = some (.string (⟨#[]⟩ : ByteArray)) := (blk_cell BK264.out 13).trans rfl
            have hcz22_14 : w16.cell? ⟨gb264, 14, none⟩ = some (.string (⟨#[]⟩ : ByteArray)) := (blk_cell BK264.out 14).trans rfl
            have hcz22_15 : w16.cell? ⟨gb264, 15, none⟩ = some (.int .i64 0) := (blk_cell BK264.out 15).trans rfl
            have hfz22_0 := blk_frozen BK264.out 0
            have hfz22_1 := blk_frozen BK264.out 1
            have hfz22_2 := blk_frozen BK264.out 2
            have hfz22_3 := blk_frozen BK264.out 3
            have hfz22_4 := blk_frozen BK264.out 4
            have hfz22_5 := blk_frozen BK264.out 5
            have hfz22_6 := blk_frozen BK264.out 6
            have hfz22_7 := blk_frozen BK264.out 7
            have hfz22_8 := blk_frozen BK264.out 8
            have hfz22_9 := blk_frozen BK264.out 9
            have hfz22_10 := blk_frozen BK264.out 10
            have hfz22_11 := blk_frozen BK264.out 11
            have hfz22_12 := blk_frozen BK264.out 12
            have hfz22_13 := blk_frozen BK264.out 13
            have hfz22_14 := blk_frozen BK264.out 14
            have hfz22_15 := blk_frozen BK264.out 15
            go_wp2
            go_meet
            case rel => exact ⟨_, ((⟨#[97, 108, 112, 104, 97, 98, 101, 116, 105, 99]⟩ : ByteArray)), H', ⟨by have := HJ3.out; first | omega | exact Nat.le_refl _⟩, ⟨by (with_reducible repeat (first | apply Kd.R_alloc | apply Kd.R_drewN | apply Kd.R_drew)); exact Kd.R_mono (Kd.R_far (p := ⟨gb264, 1, none⟩) (Kd.R_far (p := ⟨gb264, 15, none⟩) (Kd.R_far (p := ⟨gb264, 14, none⟩) (Kd.R_far (p := ⟨gb264, 13, none⟩) (Kd.R_far (p := ⟨gb264, 12, none⟩) (Kd.R_far (p := ⟨gb264, 11, none⟩) (Kd.R_far (p := ⟨gb264, 10, none⟩) (Kd.R_far (p := ⟨gb264, 9, none⟩) (Kd.R_far (p := ⟨gb264, 8, none⟩) (Kd.R_far (p := ⟨gb264, 7, none⟩) (Kd.R_far (p := ⟨gb264, 6, none⟩) (Kd.R_far (p := ⟨gb264, 5, none⟩) (Kd.R_far (p := ⟨gb264, 4, none⟩) (Kd.R_far (p := ⟨gb264, 3, none⟩) (Kd.R_far (p := ⟨gb264, 2, none⟩) (Kd.R_far (p := ⟨gb264, 1, none⟩) (Kd.R_far (p := ⟨gb264, 0, none⟩) (Kd.R_types HO247.out BK264.out (by decide)) (fun _ hk => hk.2) (.string t242)) (fun _ hk => hk.2) (.string t243)) (fun _ hk => hk.2) (.int .i64 t244)) (fun _ hk => hk.2) (.slice Ao18 t245.length co18)) (fun _ hk => hk.2) (.slice Ao19 t248.length co19)) (fun _ hk => hk.2) (.string t251)) (fun _ hk => hk.2) (.string t252)) (fun _ hk => hk.2) (.string t253)) (fun _ hk => hk.2) (.string t254)) (fun _ hk => hk.2) (.bool t255)) (fun _ hk => hk.2) (.slice Ao20 t256.length co20)) (fun _ hk => hk.2) (.int .i64 t259)) (fun _ hk => hk.2) (.string t260)) (fun _ hk => hk.2) (.string t261)) (fun _ hk => hk.2) (.string t262)) (fun _ hk => hk.2) (.int .i64 t263)) (fun _ hk => hk.2) (.string (⟨#[97, 108, 112, 104, 97, 98, 101, 116, 105, 99]⟩ : ByteArray))) (fun _ hk => by first | exact trivial | simp [hk])⟩, ⟨by (with_reducible repeat (first | apply Kd.R_alloc | apply Kd.R_drewN | apply Kd.R_drew)); exact Kd.R_mono (Kd.R_far (p := ⟨gb264, 1, none⟩) (Kd.R_far (p := ⟨gb264, 15, none⟩) (Kd.R_far (p := ⟨gb264, 14, none⟩) (Kd.R_far (p := ⟨gb264, 13, none⟩) (Kd.R_far (p := ⟨gb264, 12, none⟩) (Kd.R_far (p := ⟨gb264, 11, none⟩) (Kd.R_far (p := ⟨gb264, 10, none⟩) (Kd.R_far (p := ⟨gb264, 9, none⟩) (Kd.R_far (p := ⟨gb264, 8, none⟩) (Kd.R_far (p := ⟨gb264, 7, none⟩) (Kd.R_far (p := ⟨gb264, 6, none⟩) (Kd.R_far (p := ⟨gb264, 5, none⟩) (Kd.R_far (p := ⟨gb264, 4, none⟩) (Kd.R_far (p := ⟨gb264, 3, none⟩) (Kd.R_far (p := ⟨gb264, 2, none⟩) (Kd.R_far (p := ⟨gb264, 1, none⟩) (Kd.R_far (p := ⟨gb264, 0, none⟩) (Kd.R_types HO250.out BK264.out (by decide)) (fun _ hk => hk.2) (.string t242)) (fun _ hk => hk.2) (.string t243)) (fun _ hk => hk.2) (.int .i64 t244)) (fun _ hk => hk.2) (.slice Ao18 t245.length co18)) (fun _ hk => hk.2) (.slice Ao19 t248.length co19)) (fun _ hk => hk.2) (.string t251)) (fun _ hk => hk.2) (.string t252)) (fun _ hk => hk.2) (.string t253)) (fun _ hk => hk.2) (.string t254)) (fun _ hk => hk.2) (.bool t255)) (fun _ hk => hk.2) (.slice Ao20 t256.length co20)) (fun _ hk => hk.2) (.int .i64 t259)) (fun _ hk => hk.2) (.string t260)) (fun _ hk => hk.2) (.string t261)) (fun _ hk => hk.2) (.string t262)) (fun _ hk => hk.2) (.int .i64 t263)) (fun _ hk => hk.2) (.string (⟨#[97, 108, 112, 104, 97, 98, 101, 116, 105, 99]⟩ : ByteArray))) (fun _ hk => by first | exact trivial | simp [hk])⟩, ⟨by (with_reducible repeat (first | apply Kd.R_alloc | apply Kd.R_drewN | apply Kd.R_drew)); exact Kd.R_mono (Kd.R_far (p := ⟨gb264, 1, none⟩) (Kd.R_far (p := ⟨gb264, 15, none⟩) (Kd.R_far (p := ⟨gb264, 14, none⟩) (Kd.R_far (p := ⟨gb264, 13, none⟩) (Kd.R_far (p := ⟨gb264, 12, none⟩) (Kd.R_far (p := ⟨gb264, 11, none⟩) (Kd.R_far (p := ⟨gb264, 10, none⟩) (Kd.R_far (p := ⟨gb264, 9, none⟩) (Kd.R_far (p := ⟨gb264, 8, none⟩) (Kd.R_far (p := ⟨gb264, 7, none⟩) (Kd.R_far (p := ⟨gb264, 6, none⟩) (Kd.R_far (p := ⟨gb264, 5, none⟩) (Kd.R_far (p := ⟨gb264, 4, none⟩) (Kd.R_far (p := ⟨gb264, 3, none⟩) (Kd.R_far (p := ⟨gb264, 2, none⟩) (Kd.R_far (p := ⟨gb264, 1, none⟩) (Kd.R_far (p := ⟨gb264, 0, none⟩) (Kd.R_types HO258.out BK264.out (by decide)) (fun _ hk => hk.2) (.string t242)) (fun _ hk => hk.2) (.string t243)) (fun _ hk => hk.2) (.int .i64 t244)) (fun _ hk => hk.2) (.slice Ao18 t245.length co18)) (fun _ hk => hk.2) (.slice Ao19 t248.length co19)) (fun _ hk => hk.2) (.string t251)) (fun _ hk => hk.2) (.string t252)) (fun _ hk => hk.2) (.string t253)) (fun _ hk => hk.2) (.string t254)) (fun _ hk => hk.2) (.bool t255)) (fun _ hk => hk.2) (.slice Ao20 t256.length co20)) (fun _ hk => hk.2) (.int .i64 t259)) (fun _ hk => hk.2) (.string t260)) (fun _ hk => hk.2) (.string t261)) (fun _ hk => hk.2) (.string t262)) (fun _ hk => hk.2) (.int .i64 t263)) (fun _ hk => hk.2) (.string (⟨#[97, 108, 112, 104, 97, 98, 101, 116, 105, 99]⟩ : ByteArray))) (fun _ hk => by first | exact trivial | simp [hk])⟩, ⟨by (with_reducible repeat (first | refine blk_drewN ?_ _ | refine blk_drew ?_ | refine blk_alloc ?_ _)); refine blk_put (cs := #[.string t242, .string t243, .int .i64 t244, .slice Ao18 t245.length co18, .slice Ao19 t248.length co19, .string t251, .string t252, .string t253, .string t254, .bool t255, .slice Ao20 t256.length co20, .int .i64 t259, .string t260, .string t261, .string t262, .int .i64 t263]) ?_ 1 _ rfl; (with_reducible repeat (first | refine blk_drewN ?_ _ | refine blk_drew ?_ | refine blk_alloc ?_ _)); refine blk_put (cs := #[.string t242, .string t243, .int .i64 t244, .slice Ao18 t245.length co18, .slice Ao19 t248.length co19, .string t251, .string t252, .string t253, .string t254, .bool t255, .slice Ao20 t256.length co20, .int .i64 t259, .string t260, .string t261, .string t262, .int .i64 0]) ?_ 15 _ rfl; (with_reducible repeat (first | refine blk_drewN ?_ _ | refine blk_drew ?_ | refine blk_alloc ?_ _)); refine blk_put (cs := #[.string t242, .string t243, .int .i64 t244, .slice Ao18 t245.length co18, .slice Ao19 t248.length co19, .string t251, .string t252, .string t253, .string t254, .bool t255, .slice Ao20 t256.length co20, .int .i64 t259, .string t260, .string t261, .string (⟨#[]⟩ : ByteArray), .int .i64 0]) ?_ 14 _ rfl; (with_reducible repeat (first | refine blk_drewN ?_ _ | refine blk_drew ?_ | refine blk_alloc ?_ _)); refine blk_put (cs := #[.string t242, .string t243, .int .i64 t244, .slice Ao18 t245.length co18, .slice Ao19 t248.length co19, .string t251, .string t252, .string t253, .string t254, .bool t255, .slice Ao20 t256.length co20, .int .i64 t259, .string t260, .string (⟨#[]⟩ : ByteArray), .string (⟨#[]⟩ : ByteArray), .int .i64 0]) ?_ 13 _ rfl; (with_reducible repeat (first | refine blk_drewN ?_ _ | refine blk_drew ?_ | refine blk_alloc ?_ _)); refine blk_put (cs := #[.string t242, .string t243, .int .i64 t244, .slice Ao18 t245.length co18, .slice Ao19 t248.length co19, .string t251, .string t252, .string t253, .string t254, .bool t255, .slice Ao20 t256.length co20, .int .i64 t259, .string (⟨#[]⟩ : ByteArray), .string (⟨#[]⟩ : ByteArray), .string (⟨#[]⟩ : ByteArray), .int .i64 0]) ?_ 12 _ rfl; (with_reducible repeat (first | refine blk_drewN ?_ _ | refine blk_drew ?_ | refine blk_alloc ?_ _)); refine blk_put (cs := #[.string t242, .string t243, .int .i64 t244, .slice Ao18 t245.length co18, .slice Ao19 t248.length co19, .string t251, .string t252, .string t253, .string t254, .bool t255, .slice Ao20 t256.length co20, .int .i64 0, .string (⟨#[]⟩ : ByteArray), .string (⟨#[]⟩ : ByteArray), .string (⟨#[]⟩ : ByteArray), .int .i64 0]) ?_ 11 _ rfl; (with_reducible repeat (first | refine blk_drewN ?_ _ | refine blk_drew ?_ | refine blk_alloc ?_ _)); refine blk_put (cs := #[.string t242, .string t243, .int .i64 t244, .slice Ao18 t245.length co18, .slice Ao19 t248.length co19, .string t251, .string t252, .string t253, .string t254, .bool t255, .slice none 0 0, .int .i64 0, .string (⟨#[]⟩ : ByteArray), .string (⟨#[]⟩ : ByteArray), .string (⟨#[]⟩ : ByteArray), .int .i64 0]) ?_ 10 _ rfl; (with_reducible repeat (first | refine blk_drewN ?_ _ | refine blk_drew ?_ | refine blk_alloc ?_ _)); refine blk_put (cs := #[.string t242, .string t243, .int .i64 t244, .slice Ao18 t245.length co18, .slice Ao19 t248.length co19, .string t251, .string t252, .string t253, .string t254, .bool false, .slice none 0 0, .int .i64 0, .string (⟨#[]⟩ : ByteArray), .string (⟨#[]⟩ : ByteArray), .string (⟨#[]⟩ : ByteArray), .int .i64 0]) ?_ 9 _ rfl; (with_reducible repeat (first | refine blk_drewN ?_ _ | refine blk_drew ?_ | refine blk_alloc ?_ _)); refine blk_put (cs := #[.string t242, .string t243, .int .i64 t244, .slice Ao18 t245.length co18, .slice Ao19 t248.length co19, .string t251, .string t252, .string t253, .string (⟨#[]⟩ : ByteArray), .bool false, .slice none 0 0, .int .i64 0, .string (⟨#[]⟩ : ByteArray), .string (⟨#[]⟩ : ByteArray), .string (⟨#[]⟩ : ByteArray), .int .i64 0]) ?_ 8 _ rfl; (with_reducible repeat (first | refine blk_drewN ?_ _ | refine blk_drew ?_ | refine blk_alloc ?_ _)); refine blk_put (cs := #[.string t242, .string t243, .int .i64 t244, .slice Ao18 t245.length co18, .slice Ao19 t248.length co19, .string t251, .string t252, .string (⟨#[]⟩ : ByteArray), .string (⟨#[]⟩ : ByteArray), .bool false, .slice none 0 0, .int .i64 0, .string (⟨#[]⟩ : ByteArray), .string (⟨#[]⟩ : ByteArray), .string (⟨#[]⟩ : ByteArray), .int .i64 0]) ?_ 7 _ rfl; (with_reducible repeat (first | refine blk_drewN ?_ _ | refine blk_drew ?_ | refine blk_alloc ?_ _)); refine blk_put (cs := #[.string t242, .string t243, .int .i64 t244, .slice Ao18 t245.length co18, .slice Ao19 t248.length co19, .string t251, .string (⟨#[]⟩ : ByteArray), .string (⟨#[]⟩ : ByteArray), .string (⟨#[]⟩ : ByteArray), .bool false, .slice none 0 0, .int .i64 0, .string (⟨#[]⟩ : ByteArray), .string (⟨#[]⟩ : ByteArray), .string (⟨#[]⟩ : ByteArray), .int .i64 0]) ?_ 6 _ rfl; (with_reducible repeat (first | refine blk_drewN ?_ _ | refine blk_drew ?_ | refine blk_alloc ?_ _)); refine blk_put (cs := #[.string t242, .string t243, .int .i64 t244, .slice Ao18 t245.length co18, .slice Ao19 t248.length co19, .string (⟨#[]⟩ : ByteArray), .string (⟨#[]⟩ : ByteArray), .string (⟨#[]⟩ : ByteArray), .string (⟨#[]⟩ : ByteArray), .bool false, .slice none 0 0, .int .i64 0, .string (⟨#[]⟩ : ByteArray), .string (⟨#[]⟩ : ByteArray), .string (⟨#[]⟩ : ByteArray), .int .i64 0]) ?_ 5 _ rfl; (with_reducible repeat (first | refine blk_drewN ?_ _ | refine blk_drew ?_ | refine blk_alloc ?_ _)); refine blk_put (cs := #[.string t242, .string t243, .int .i64 t244, .slice Ao18 t245.length co18, .slice none 0 0, .string (⟨#[]⟩ : ByteArray), .string (⟨#[]⟩ : ByteArray), .string (⟨#[]⟩ : ByteArray), .string (⟨#[]⟩ : ByteArray), .bool false, .slice none 0 0, .int .i64 0, .string (⟨#[]⟩ : ByteArray), .string (⟨#[]⟩ : ByteArray), .string (⟨#[]⟩ : ByteArray), .int .i64 0]) ?_ 4 _ rfl; (with_reducible repeat (first | refine blk_drewN ?_ _ | refine blk_drew ?_ | refine blk_alloc ?_ _)); refine blk_put (cs := #[.string t242, .string t243, .int .i64 t244, .slice none 0 0, .slice none 0 0, .string (⟨#[]⟩ : ByteArray), .string (⟨#[]⟩ : ByteArray), .string (⟨#[]⟩ : ByteArray), .string (⟨#[]⟩ : ByteArray), .bool false, .slice none 0 0, .int .i64 0, .string (⟨#[]⟩ : ByteArray), .string (⟨#[]⟩ : ByteArray), .string (⟨#[]⟩ : ByteArray), .int .i64 0]) ?_ 3 _ rfl; (with_reducible repeat (first | refine blk_drewN ?_ _ | refine blk_drew ?_ | refine blk_alloc ?_ _)); refine blk_put (cs := #[.string t242, .string t243, .int .i64 0, .slice none 0 0, .slice none 0 0, .string (⟨#[]⟩ : ByteArray), .string (⟨#[]⟩ : ByteArray), .string (⟨#[]⟩ : ByteArray), .string (⟨#[]⟩ : ByteArray), .bool false, .slice none 0 0, .int .i64 0, .string (⟨#[]⟩ : ByteArray), .string (⟨#[]⟩ : ByteArray), .string (⟨#[]⟩ : ByteArray), .int .i64 0]) ?_ 2 _ rfl; (with_reducible repeat (first | refine blk_drewN ?_ _ | refine blk_drew ?_ | refine blk_alloc ?_ _)); refine blk_put (cs := #[.string t242, .string (⟨#[]⟩ : ByteArray), .int .i64 0, .slice none 0 0, .slice none 0 0, .string (⟨#[]⟩ : ByteArray), .string (⟨#[]⟩ : ByteArray), .string (⟨#[]⟩ : ByteArray), .string (⟨#[]⟩ : ByteArray), .bool false, .slice none 0 0, .int .i64 0, .string (⟨#[]⟩ : ByteArray), .string (⟨#[]⟩ : ByteArray), .string (⟨#[]⟩ : ByteArray), .int .i64 0]) ?_ 1 _ rfl; (with_reducible repeat (first | refine blk_drewN ?_ _ | refine blk_drew ?_ | refine blk_alloc ?_ _)); refine blk_put (cs := #[.string (⟨#[]⟩ : ByteArray), .string (⟨#[]⟩ : ByteArray), .int .i64 0, .slice none 0 0, .slice none 0 0, .string (⟨#[]⟩ : ByteArray), .string (⟨#[]⟩ : ByteArray), .string (⟨#[]⟩ : ByteArray), .string (⟨#[]⟩ : ByteArray), .bool false, .slice none 0 0, .int .i64 0, .string (⟨#[]⟩ : ByteArray), .string (⟨#[]⟩ : ByteArray), .string (⟨#[]⟩ : ByteArray), .int .i64 0]) ?_ 0 _ rfl; (with_reducible repeat (first | refine blk_drewN ?_ _ | refine blk_drew ?_ | refine blk_alloc ?_ _)); exact BK264.out⟩, ⟨by repeat (first | (with_reducible first | exact HB.out | apply below_alloc | apply pw_below_drewN | apply below_drew1 | refine below_set ?_ GE264.out) | exact HB.out)⟩⟩
          · replace c21 := Bool.eq_false_iff.mpr c21
            subst c21
            have H1 : (fleuronlaw9_SystemDecodes.j1 kj3 a0 a1 false t242 t243 t244 t245 t248 t251 t252 t253 t254 t255 t256 t259 t260 t261 t262 t263) = some r := by rw [if_neg (show ¬ (false = true) by decide)] at H; exact H
            clear H
            have H := H1
            clear H1
            have H' := Aside0.mk H
            clear H
            go_wp2
            go_meet
            case rel => exact ⟨_, (t243), H', ⟨by have := HJ3.out; first | omega | exact Nat.le_refl _⟩, ⟨by (with_reducible repeat (first | apply Kd.R_alloc | apply Kd.R_drewN | apply Kd.R_drew)); exact Kd.R_mono (Kd.R_far (p := ⟨gb264, 15, none⟩) (Kd.R_far (p := ⟨gb264, 14, none⟩) (Kd.R_far (p := ⟨gb264, 13, none⟩) (Kd.R_far (p := ⟨gb264, 12, none⟩) (Kd.R_far (p := ⟨gb264, 11, none⟩) (Kd.R_far (p := ⟨gb264, 10, none⟩) (Kd.R_far (p := ⟨gb264, 9, none⟩) (Kd.R_far (p := ⟨gb264, 8, none⟩) (Kd.R_far (p := ⟨gb264, 7, none⟩) (Kd.R_far (p := ⟨gb264, 6, none⟩) (Kd.R_far (p := ⟨gb264, 5, none⟩) (Kd.R_far (p := ⟨gb264, 4, none⟩) (Kd.R_far (p := ⟨gb264, 3, none⟩) (Kd.R_far (p := ⟨gb264, 2, none⟩) (Kd.R_far (p := ⟨gb264, 1, none⟩) (Kd.R_far (p := ⟨gb264, 0, none⟩) (Kd.R_types HO247.out BK264.out (by decide)) (fun _ hk => hk.2) (.string t242)) (fun _ hk => hk.2) (.string t243)) (fun _ hk => hk.2) (.int .i64 t244)) (fun _ hk => hk.2) (.slice Ao18 t245.length co18)) (fun _ hk => hk.2) (.slice Ao19 t248.length co19)) (fun _ hk => hk.2) (.string t251)) (fun _ hk => hk.2) (.string t252)) (fun _ hk => hk.2) (.string t253)) (fun _ hk => hk.2) (.string t254)) (fun _ hk => hk.2) (.bool t255)) (fun _ hk => hk.2) (.slice Ao20 t256.length co20)) (fun _ hk => hk.2) (.int .i64 t259)) (fun _ hk => hk.2) (.string t260)) (fun _ hk => hk.2) (.string t261)) (fun _ hk => hk.2) (.string t262)) (fun _ hk => hk.2) (.int .i64 t263)) (fun _ hk => by first | exact trivial | simp [hk])⟩, ⟨by (with_reducible repeat (first | apply Kd.R_alloc | apply Kd.R_drewN | apply Kd.R_drew)); exact Kd.R_mono (Kd.R_far (p := ⟨gb264, 15, none⟩) (Kd.R_far (p := ⟨gb264, 14, none⟩) (Kd.R_far (p := ⟨gb264, 13, none⟩) (Kd.R_far (p := ⟨gb264, 12, none⟩) (Kd.R_far (p := ⟨gb264, 11, none⟩) (Kd.R_far (p := ⟨gb264, 10, none⟩) (Kd.R_far (p := ⟨gb264, 9, none⟩) (Kd.R_far (p := ⟨gb264, 8, none⟩) (Kd.R_far (p := ⟨gb264, 7, none⟩) (Kd.R_far (p := ⟨gb264, 6, none⟩) (Kd.R_far (p := ⟨gb264, 5, none⟩) (Kd.R_far (p := ⟨gb264, 4, none⟩) (Kd.R_far (p := ⟨gb264, 3, none⟩) (Kd.R_far (p := ⟨gb264, 2, none⟩) (Kd.R_far (p := ⟨gb264, 1, none⟩) (Kd.R_far (p := ⟨gb264, 0, none⟩) (Kd.R_types HO250.out BK264.out (by decide)) (fun _ hk => hk.2) (.string t242)) (fun _ hk => hk.2) (.string t243)) (fun _ hk => hk.2) (.int .i64 t244)) (fun _ hk => hk.2) (.slice Ao18 t245.length co18)) (fun _ hk => hk.2) (.slice Ao19 t248.length co19)) (fun _ hk => hk.2) (.string t251)) (fun _ hk => hk.2) (.string t252)) (fun _ hk => hk.2) (.string t253)) (fun _ hk => hk.2) (.string t254)) (fun _ hk => hk.2) (.bool t255)) (fun _ hk => hk.2) (.slice Ao20 t256.length co20)) (fun _ hk => hk.2) (.int .i64 t259)) (fun _ hk => hk.2) (.string t260)) (fun _ hk => hk.2) (.string t261)) (fun _ hk => hk.2) (.string t262)) (fun _ hk => hk.2) (.int .i64 t263)) (fun _ hk => by first | exact trivial | simp [hk])⟩, ⟨by (with_reducible repeat (first | apply Kd.R_alloc | apply Kd.R_drewN | apply Kd.R_drew)); exact Kd.R_mono (Kd.R_far (p := ⟨gb264, 15, none⟩) (Kd.R_far (p := ⟨gb264, 14, none⟩) (Kd.R_far (p := ⟨gb264, 13, none⟩) (Kd.R_far (p := ⟨gb264, 12, none⟩) (Kd.R_far (p := ⟨gb264, 11, none⟩) (Kd.R_far (p := ⟨gb264, 10, none⟩) (Kd.R_far (p := ⟨gb264, 9, none⟩) (Kd.R_far (p := ⟨gb264, 8, none⟩) (Kd.R_far (p := ⟨gb264, 7, none⟩) (Kd.R_far (p := ⟨gb264, 6, none⟩) (Kd.R_far (p := ⟨gb264, 5, none⟩) (Kd.R_far (p := ⟨gb264, 4, none⟩) (Kd.R_far (p := ⟨gb264, 3, none⟩) (Kd.R_far (p := ⟨gb264, 2, none⟩) (Kd.R_far (p := ⟨gb264, 1, none⟩) (Kd.R_far (p := ⟨gb264, 0, none⟩) (Kd.R_types HO258.out BK264.out (by decide)) (fun _ hk => hk.2) (.string t242)) (fun _ hk => hk.2) (.string t243)) (fun _ hk => hk.2) (.int .i64 t244)) (fun _ hk => hk.2) (.slice Ao18 t245.length co18)) (fun _ hk => hk.2) (.slice Ao19 t248.length co19)) (fun _ hk => hk.2) (.string t251)) (fun _ hk => hk.2) (.string t252)) (fun _ hk => hk.2) (.string t253)) (fun _ hk => hk.2) (.string t254)) (fun _ hk => hk.2) (.bool t255)) (fun _ hk => hk.2) (.slice Ao20 t256.length co20)) (fun _ hk => hk.2) (.int .i64 t259)) (fun _ hk => hk.2) (.string t260)) (fun _ hk => hk.2) (.string t261)) (fun _ hk => hk.2) (.string t262)) (fun _ hk => hk.2) (.int .i64 t263)) (fun _ hk => by first | exact trivial | simp [hk])⟩, ⟨by (with_reducible repeat (first | refine blk_drewN ?_ _ | refine blk_drew ?_ | refine blk_alloc ?_ _)); refine blk_put (cs := #[.string t242, .string t243, .int .i64 t244, .slice Ao18 t245.length co18, .slice Ao19 t248.length co19, .string t251, .string t252, .string t253, .string t254, .bool t255, .slice Ao20 t256.length co20, .int .i64 t259, .string t260, .string t261, .string t262, .int .i64 0]) ?_ 15 _ rfl; (with_reducible repeat (first | refine blk_drewN ?_ _ | refine blk_drew ?_ | refine blk_alloc ?_ _)); refine blk_put (cs := #[.string t242, .string t243, .int .i64 t244, .slice Ao18 t245.length co18, .slice Ao19 t248.length co19, .string t251, .string t252, .string t253, .string t254, .bool t255, .slice Ao20 t256.length co20, .int .i64 t259, .string t260, .string t261, .string (⟨#[]⟩ : ByteArray), .int .i64 0]) ?_ 14 _ rfl; (with_reducible repeat (first | refine blk_drewN ?_ _ | refine blk_drew ?_ | refine blk_alloc ?_ _)); refine blk_put (cs := #[.string t242, .string t243, .int .i64 t244, .slice Ao18 t245.length co18, .slice Ao19 t248.length co19, .string t251, .string t252, .string t253, .string t254, .bool t255, .slice Ao20 t256.length co20, .int .i64 t259, .string t260, .string (⟨#[]⟩ : ByteArray), .string (⟨#[]⟩ : ByteArray), .int .i64 0]) ?_ 13 _ rfl; (with_reducible repeat (first | refine blk_drewN ?_ _ | refine blk_drew ?_ | refine blk_alloc ?_ _)); refine blk_put (cs := #[.string t242, .string t243, .int .i64 t244, .slice Ao18 t245.length co18, .slice Ao19 t248.length co19, .string t251, .string t252, .string t253, .string t254, .bool t255, .slice Ao20 t256.length co20, .int .i64 t259, .string (⟨#[]⟩ : ByteArray), .string (⟨#[]⟩ : ByteArray), .string (⟨#[]⟩ : ByteArray), .int .i64 0]) ?_ 12 _ rfl; (with_reducible repeat (first | refine blk_drewN ?_ _ | refine blk_drew ?_ | refine blk_alloc ?_ _)); refine blk_put (cs := #[.string t242, .string t243, .int .i64 t244, .slice Ao18 t245.length co18, .slice Ao19 t248.length co19, .string t251, .string t252, .string t253, .string t254, .bool t255, .slice Ao20 t256.length co20, .int .i64 0, .string (⟨#[]⟩ : ByteArray), .string (⟨#[]⟩ : ByteArray), .string (⟨#[]⟩ : ByteArray), .int .i64 0]) ?_ 11 _ rfl; (with_reducible repeat (first | refine blk_drewN ?_ _ | refine blk_drew ?_ | refine blk_alloc ?_ _)); refine blk_put (cs := #[.string t242, .string t243, .int .i64 t244, .slice Ao18 t245.length co18, .slice Ao19 t248.length co19, .string t251, .string t252, .string t253, .string t254, .bool t255, .slice none 0 0, .int .i64 0, .string (⟨#[]⟩ : ByteArray), .string (⟨#[]⟩ : ByteArray), .string (⟨#[]⟩ : ByteArray), .int .i64 0]) ?_ 10 _ rfl; (with_reducible repeat (first | refine blk_drewN ?_ _ | refine blk_drew ?_ | refine blk_alloc ?_ _)); refine blk_put (cs := #[.string t242, .string t243, .int .i64 t244, .slice Ao18 t245.length co18, .slice Ao19 t248.length co19, .string t251, .string t252, .string t253, .string t254, .bool false, .slice none 0 0, .int .i64 0, .string (⟨#[]⟩ : ByteArray), .string (⟨#[]⟩ : ByteArray), .string (⟨#[]⟩ : ByteArray), .int .i64 0]) ?_ 9 _ rfl; (with_reducible repeat (first | refine blk_drewN ?_ _ | refine blk_drew ?_ | refine blk_alloc ?_ _)); refine blk_put (cs := #[.string t242, .string t243, .int .i64 t244, .slice Ao18 t245.length co18, .slice Ao19 t248.length co19, .string t251, .string t252, .string t253, .string (⟨#[]⟩ : ByteArray), .bool false, .slice none 0 0, .int .i64 0, .string (⟨#[]⟩ : ByteArray), .string (⟨#[]⟩ : ByteArray), .string (⟨#[]⟩ : ByteArray), .int .i64 0]) ?_ 8 _ rfl; (with_reducible repeat (first | refine blk_drewN ?_ _ | refine blk_drew ?_ | refine blk_alloc ?_ _)); refine blk_put (cs := #[.string t242, .string t243, .int .i64 t244, .slice Ao18 t245.length co18, .slice Ao19 t248.length co19, .string t251, .string t252, .string (⟨#[]⟩ : ByteArray), .string (⟨#[]⟩ : ByteArray), .bool false, .slice none 0 0, .int .i64 0, .string (⟨#[]⟩ : ByteArray), .string (⟨#[]⟩ : ByteArray), .string (⟨#[]⟩ : ByteArray), .int .i64 0]) ?_ 7 _ rfl; (with_reducible repeat (first | refine blk_drewN ?_ _ | refine blk_drew ?_ | refine blk_alloc ?_ _)); refine blk_put (cs := #[.string t242, .string t243, .int .i64 t244, .slice Ao18 t245.length co18, .slice Ao19 t248.length co19, .string t251, .string (⟨#[]⟩ : ByteArray), .string (⟨#[]⟩ : ByteArray), .string (⟨#[]⟩ : ByteArray), .bool false, .slice none 0 0, .int .i64 0, .string (⟨#[]⟩ : ByteArray), .string (⟨#[]⟩ : ByteArray), .string (⟨#[]⟩ : ByteArray), .int .i64 0]) ?_ 6 _ rfl; (with_reducible repeat (first | refine blk_drewN ?_ _ | refine blk_drew ?_ | refine blk_alloc ?_ _)); refine blk_put (cs := #[.string t242, .string t243, .int .i64 t244, .slice Ao18 t245.length co18, .slice Ao19 t248.length co19, .string (⟨#[]⟩ : ByteArray), .string (⟨#[]⟩ : ByteArray), .string (⟨#[]⟩ : ByteArray), .string (⟨#[]⟩ : ByteArray), .bool false, .slice none 0 0, .int .i64 0, .string (⟨#[]⟩ : ByteArray), .string (⟨#[]⟩ : ByteArray), .string (⟨#[]⟩ : ByteArray), .int .i64 0]) ?_ 5 _ rfl; (with_reducible repeat (first | refine blk_drewN ?_ _ | refine blk_drew ?_ | refine blk_alloc ?_ _)); refine blk_put (cs := #[.string t242, .string t243, .int .i64 t244, .slice Ao18 t245.length co18, .slice none 0 0, .string (⟨#[]⟩ : ByteArray), .string (⟨#[]⟩ : ByteArray), .string (⟨#[]⟩ : ByteArray), .string (⟨#[]⟩ : ByteArray), .bool false, .slice none 0 0, .int .i64 0, .string (⟨#[]⟩ : ByteArray), .string (⟨#[]⟩ : ByteArray), .string (⟨#[]⟩ : ByteArray), .int .i64 0]) ?_ 4 _ rfl; (with_reducible repeat (first | refine blk_drewN ?_ _ | refine blk_drew ?_ | refine blk_alloc ?_ _)); refine blk_put (cs := #[.string t242, .string t243, .int .i64 t244, .slice none 0 0, .slice none 0 0, .string (⟨#[]⟩ : ByteArray), .string (⟨#[]⟩ : ByteArray), .string (⟨#[]⟩ : ByteArray), .string (⟨#[]⟩ : ByteArray), .bool false, .slice none 0 0, .int .i64 0, .string (⟨#[]⟩ : ByteArray), .string (⟨#[]⟩ : ByteArray), .string (⟨#[]⟩ : ByteArray), .int .i64 0]) ?_ 3 _ rfl; (with_reducible repeat (first | refine blk_drewN ?_ _ | refine blk_drew ?_ | refine blk_alloc ?_ _)); refine blk_put (cs := #[.string t242, .string t243, .int .i64 0, .slice none 0 0, .slice none 0 0, .string (⟨#[]⟩ : ByteArray), .string (⟨#[]⟩ : ByteArray), .string (⟨#[]⟩ : ByteArray), .string (⟨#[]⟩ : ByteArray), .bool false, .slice none 0 0, .int .i64 0, .string (⟨#[]⟩ : ByteArray), .string (⟨#[]⟩ : ByteArray), .string (⟨#[]⟩ : ByteArray), .int .i64 0]) ?_ 2 _ rfl; (with_reducible repeat (first | refine blk_drewN ?_ _ | refine blk_drew ?_ | refine blk_alloc ?_ _)); refine blk_put (cs := #[.string t242, .string (⟨#[]⟩ : ByteArray), .int .i64 0, .slice none 0 0, .slice none 0 0, .string (⟨#[]⟩ : ByteArray), .string (⟨#[]⟩ : ByteArray), .string (⟨#[]⟩ : ByteArray), .string (⟨#[]⟩ : ByteArray), .bool false, .slice none 0 0, .int .i64 0, .string (⟨#[]⟩ : ByteArray), .string (⟨#[]⟩ : ByteArray), .string (⟨#[]⟩ : ByteArray), .int .i64 0]) ?_ 1 _ rfl; (with_reducible repeat (first | refine blk_drewN ?_ _ | refine blk_drew ?_ | refine blk_alloc ?_ _)); refine blk_put (cs := #[.string (⟨#[]⟩ : ByteArray), .string (⟨#[]⟩ : ByteArray), .int .i64 0, .slice none 0 0, .slice none 0 0, .string (⟨#[]⟩ : ByteArray), .string (⟨#[]⟩ : ByteArray), .string (⟨#[]⟩ : ByteArray), .string (⟨#[]⟩ : ByteArray), .bool false, .slice none 0 0, .int .i64 0, .string (⟨#[]⟩ : ByteArray), .string (⟨#[]⟩ : ByteArray), .string (⟨#[]⟩ : ByteArray), .int .i64 0]) ?_ 0 _ rfl; (with_reducible repeat (first | refine blk_drewN ?_ _ | refine blk_drew ?_ | refine blk_alloc ?_ _)); exact BK264.out⟩, ⟨by repeat (first | (with_reducible first | exact HB.out | apply below_alloc | apply pw_below_drewN | apply below_drew1 | refine below_set ?_ GE264.out) | exact HB.out)⟩⟩
        case rest =>
          clear HC14
          try clear c1
          try clear c2
          try clear p2
          try clear c5
          try clear c5b0
          try clear c6
          try clear c6b0
          try clear c7
          try clear c7b0
          try clear c8
          try clear c8b0
          try clear c9
          try clear c10
          try clear c13
          try clear c21
          try clear hcz17_0
          try clear hcz17_1
          try clear hcz17_10
          try clear hcz17_11
          try clear hcz17_12
          try clear hcz17_13
          try clear hcz17_14
          try clear hcz17_15
          try clear hcz17_2
          try clear hcz17_3
          try clear hcz17_4
          try clear hcz17_5
          try clear hcz17_6
          try clear hcz17_7
          try clear hcz17_8
          try clear hcz17_9
          try clear hcz22_0
          try clear hcz22_1
          try clear hcz22_10
          try clear hcz22_11
          try clear hcz22_12
          try clear hcz22_13
          try clear hcz22_14
          try clear hcz22_15
          try clear hcz22_2
          try clear hcz22_3
          try clear hcz22_4
          try clear hcz22_5
          try clear hcz22_6
          try clear hcz22_7
          try clear hcz22_8
          try clear hcz22_9
          try clear hfz17_0
          try clear hfz17_1
          try clear hfz17_10
          try clear hfz17_11
          try clear hfz17_12
          try clear hfz17_13
          try clear hfz17_14
          try clear hfz17_15
          try clear hfz17_2
          try clear hfz17_3
          try clear hfz17_4
          try clear hfz17_5
          try clear hfz17_6
          try clear hfz17_7
          try clear hfz17_8
          try clear hfz17_9
          try clear hfz22_0
          try clear hfz22_1
          try clear hfz22_10
          try clear hfz22_11
          try clear hfz22_12
          try clear hfz22_13
          try clear hfz22_14
          try clear hfz22_15
          try clear hfz22_2
          try clear hfz22_3
          try clear hfz22_4
          try clear hfz22_5
          try clear hfz22_6
          try clear hfz22_7
          try clear hfz22_8
          try clear hfz22_9
          try clear p2
          obtain ⟨kq, x265001_13, HA, HJ13, HO_265003, HO_265004, HO_265010, BK264, HB⟩ := hcut
          cases kq with
          | zero => exact absurd HA.out (by simp [fleuronlaw9_SystemDecodes.j1])
          | succ kj13 =>
            have H := HA.out
            clear HA
            simp only [fleuronlaw9_SystemDecodes.j1] at H
            have H' := Aside0.mk H
            clear H
            go_wp2
            go_loopg [8] kj13 (fun kq v8 w' => ∃ (x8_3 : Int) (x265003_3 : List ByteArray) (u265003 : Value), v8 = .int .i64 x8_3 ∧ Aside0 (fleuronlaw9_SystemDecodes.l0 kq a0 a1 a2 x8_3 t242 x265001_13 t244 x265003_3 t248 t251 t252 t253 t254 t255 t256 t259 t260 t261 t262 t263 = some r) ∧ Aside0 (kq ≤ kj13) ∧ Aside0 (Kd.R Kd.string 9 w' w.heap.size (fun _ => True) u265003 x265003_3) ∧ Aside0 (Kd.R (Kd.int .i64) 3 w' w.heap.size (fun _ => True) (.slice Ao19 t248.length co19) t248) ∧ Aside0 (Kd.R k41 41 w' w.heap.size (fun _ => True) (.slice Ao20 t256.length co20) t256) ∧ Aside0 (w'.heap[gb264]? = some (.cells #[.string t242, .string x265001_13, .int .i64 t244, u265003, (.slice Ao19 t248.length co19), .string t251, .string t252, .string t253, .string t254, .bool t255, (.slice Ao20 t256.length co20), .int .i64 t259, .string t260, .string t261, .string t262, .int .i64 t263] 27 (0, 0))) ∧ Aside0 (Below w.heap.size w w'))
            case atStart => exact ⟨(0), (t245), (.slice Ao18 t245.length co18), (by first | rfl | (simp; done) | (simp [*]; done)), H', ⟨Nat.le_refl _⟩, ⟨by (with_reducible repeat (first | apply Kd.R_alloc | apply Kd.R_drewN | apply Kd.R_drew)); exact HO_265003.out⟩, ⟨by (with_reducible repeat (first | apply Kd.R_alloc | apply Kd.R_drewN | apply Kd.R_drew)); exact HO_265004.out⟩, ⟨by (with_reducible repeat (first | apply Kd.R_alloc | apply Kd.R_drewN | apply Kd.R_drew)); exact HO_265010.out⟩, ⟨by (with_reducible repeat (first | refine blk_drewN ?_ _ | refine blk_drew ?_ | refine blk_alloc ?_ _)); exact BK264.out⟩, ⟨by repeat (first | (with_reducible first | exact HB.out | apply below_alloc | apply pw_below_drewN | apply below_drew1 | refine below_set ?_ GE264.out) | exact HB.out)⟩⟩
            case round =>
              clear H'
              try clear c1
              try clear c2
              try clear p2
              try clear c5
              try clear c5b0
              try clear c6
              try clear c6b0
              try clear c7
              try clear c7b0
              try clear c8
              try clear c8b0
              try clear c9
              try clear c10
              try clear c13
              try clear c21
              try clear hcz17_0
              try clear hcz17_1
              try clear hcz17_10
              try clear hcz17_11
              try clear hcz17_12
              try clear hcz17_13
              try clear hcz17_14
              try clear hcz17_15
              try clear hcz17_2
              try clear hcz17_3
              try clear hcz17_4
              try clear hcz17_5
              try clear hcz17_6
              try clear hcz17_7
              try clear hcz17_8
              try clear hcz17_9
              try clear hcz22_0
              try clear hcz22_1
              try clear hcz22_10
              try clear hcz22_11
              try clear hcz22_12
              try clear hcz22_13
              try clear hcz22_14
              try clear hcz22_15
              try clear hcz22_2
              try clear hcz22_3
              try clear hcz22_4
              try clear hcz22_5
              try clear hcz22_6
              try clear hcz22_7
              try clear hcz22_8
              try clear hcz22_9
              try clear hfz17_0
              try clear hfz17_1
              try clear hfz17_10
              try clear hfz17_11
              try clear hfz17_12
              try clear hfz17_13
              try clear hfz17_14
              try clear hfz17_15
              try clear hfz17_2
              try clear hfz17_3
              try clear hfz17_4
              try clear hfz17_5
              try clear hfz17_6
              try clear hfz17_7
              try clear hfz17_8
              try clear hfz17_9
              try clear hfz22_0
              try clear hfz22_1
              try clear hfz22_10
              try clear hfz22_11
              try clear hfz22_12
              try clear hfz22_13
              try clear hfz22_14
              try clear hfz22_15
              try clear hfz22_2
              try clear hfz22_3
              try clear hfz22_4
              try clear hfz22_5
              try clear hfz22_6
              try clear hfz22_7
              try clear hfz22_8
              try clear hfz22_9
              try clear p2
              obtain ⟨x8_3, x265003_3, u265003, rfl, HA, HK3, HO_265003, HO_265004, HO_265010, BK264, HB⟩ := hrel
              cases gk with
              | zero => exact absurd HA.out (by simp [fleuronlaw9_SystemDecodes.l0])
              | succ k3 =>
                have H := HA.out
                clear HA
                simp only [fleuronlaw9_SystemDecodes.l0] at H
                by_cases c23 : x8_3 < a1
                · rw [if_pos c23] at H
                  have c23b0 : decide (x8_3 < a1) = true := decide_eq_true c23
                  clear c23
                  obtain ⟨y265, hy265⟩ : ∃ y_ : List Int, y_ = (([(wrap64 (97 + x8_3)) % 256] : List Int)) := ⟨_, rfl⟩
                  replace H : (if x265003_3.length < 8796093022208 then (fleuronlaw9_SystemDecodes.l0 k3 a0 a1 a2 (wrap64 (x8_3 + 1)) t242 x265001_13 t244 (x265003_3 ++ [strOfNums y265]) t248 t251 t252 t253 t254 t255 t256 t259 t260 t261 t262 t263) else (none)) = some r := by first | (rw [hy265]; with_reducible exact H) | (have H2_ := (Option.bind_some _ _).symm.trans H; rw [hy265]; with_reducible exact H2_) | (have H2_ := (Option.bind_some _ _).symm.trans H; with_reducible exact H2_) | with_reducible exact H | (rw [hy265]; exact H) | exact H
                  have Ny265 := Aside0.mk hy265
                  clear hy265
                  by_cases c24 : x265003_3.length < 8796093022208
                  · rw [if_pos c24] at H
                    have LMc24 := Aside0.mk c24
                    clear c24
                    obtain ⟨y268, hy268⟩ : ∃ y_ : List ByteArray, y_ = (x265003_3 ++ [strOfNums y265]) := ⟨_, rfl⟩
                    replace H : (fleuronlaw9_SystemDecodes.l0 k3 a0 a1 a2 (wrap64 (x8_3 + 1)) t242 x265001_13 t244 y268 t248 t251 t252 t253 t254 t255 t256 t259 t260 t261 t262 t263) = some r := by first | (rw [hy268]; with_reducible exact H) | (have H2_ := (Option.bind_some _ _).symm.trans H; rw [hy268]; with_reducible exact H2_) | (have H2_ := (Option.bind_some _ _).symm.trans H; with_reducible exact H2_) | with_reducible exact H | (rw [hy268]; exact H) | exact H
                    have Ny268 := Aside0.mk hy268
                    clear hy268
                    have H' := Aside0.mk H
                    clear H
                    have hcz25_0 : wr.cell? ⟨gb264, 0, none⟩ = some (.string t242) := (blk_cell BK264.out 0).trans rfl
                    have hcz25_1 : wr.cell? ⟨gb264, 1, none⟩ = some (.string x265001_13) := (blk_cell BK264.out 1).trans rfl
                    have hcz25_2 : wr.cell? ⟨gb264, 2, none⟩ = some (.int .i64 t244) := (blk_cell BK264.out 2).trans rfl
                    have hcz25_3 : wr.cell? ⟨gb264, 3, none⟩ = some (u265003) := (blk_cell BK264.out 3).trans rfl
                    have hcz25_4 : wr.cell? ⟨gb264, 4, none⟩ = some (.slice Ao19 t248.length co19) := (blk_cell BK264.out 4).trans rfl
                    have hcz25_5 : wr.cell? ⟨gb264, 5, none⟩ = some (.string t251) := (blk_cell BK264.out 5).trans rfl
                    have hcz25_6 : wr.cell? ⟨gb264, 6, none⟩ = some (.string t252) := (blk_cell BK264.out 6).trans rfl
                    have hcz25_7 : wr.cell? ⟨gb264, 7, none⟩ = some (.string t253) := (blk_cell BK264.out 7).trans rfl
                    have hcz25_8 : wr.cell? ⟨gb264, 8, none⟩ = some (.string t254) := (blk_cell BK264.out 8).trans rfl
                    have hcz25_9 : wr.cell? ⟨gb264, 9, none⟩ = some (.bool t255) := (blk_cell BK264.out 9).trans rfl
                    have hcz25_10 : wr.cell? ⟨gb264, 10, none⟩ = some (.slice Ao20 t256.length co20) := (blk_cell BK264.out 10).trans rfl
                    have hcz25_11 : wr.cell? ⟨gb264, 11, none⟩ = some (.int .i64 t259) := (blk_cell BK264.out 11).trans rfl
                    have hcz25_12 : wr.cell? ⟨gb264, 12, none⟩ = some (.string t260) := (blk_cell BK264.out 12).trans rfl
                    have hcz25_13 : wr.cell? ⟨gb264, 13, none⟩ = some (.string t261) := (blk_cell BK264.out 13).trans rfl
                    have hcz25_14 : wr.cell? ⟨gb264, 14, none⟩ = some (.string t262) := (blk_cell BK264.out 14).trans rfl
                    have hcz25_15 : wr.cell? ⟨gb264, 15, none⟩ = some (.int .i64 t263) := (blk_cell BK264.out 15).trans rfl
                    have hfz25_0 := blk_frozen BK264.out 0
                    have hfz25_1 := blk_frozen BK264.out 1
                    have hfz25_2 := blk_frozen BK264.out 2
                    have hfz25_3 := blk_frozen BK264.out 3
                    have hfz25_4 := blk_frozen BK264.out 4
                    have hfz25_5 := blk_frozen BK264.out 5
                    have hfz25_6 := blk_frozen BK264.out 6
                    have hfz25_7 := blk_frozen BK264.out 7
                    have hfz25_8 := blk_frozen BK264.out 8
                    have hfz25_9 := blk_frozen BK264.out 9
                    have hfz25_10 := blk_frozen BK264.out 10
                    have hfz25_11 := blk_frozen BK264.out 11
                    have hfz25_12 := blk_frozen BK264.out 12
                    have hfz25_13 := blk_frozen BK264.out 13
                    have hfz25_14 := blk_frozen BK264.out 14
                    have hfz25_15 := blk_frozen BK264.out 15
                    go_wp2_with (first | ((with_reducible refine gate_dst (N := 49) rfl ?_); (try (refine gate_guard (by rfl) ?_; dsimp only)); refine Kd.R_lit (Kd.int .u8) _ 5 ?hg (N := 49) ?hd (xs := ([(wrap64 (97 + x8_3)) % 256] : List Int)) (inner := [.int .u8 ((wrap64 (97 + x8_3)) % 256)]) (ok := fun _ => True) (okp := fun _ => True) ?hr ?hp (fun _ hk => hk) trivial (Below.refl _ _) (Nat.le_refl _) (by simp) ?_; (case hd => rfl); (case hg => rfl); (case hr => first | (go_simp; done) | (go_simp; rfl)); (case hp => exact (Reps.one (show Kd.M (Kd.int .u8) _ _ _ ((wrap64 (97 + x8_3)) % 256) [.int .u8 ((wrap64 (97 + x8_3)) % 256)] from rfl) (Reps.none _ _))); intro v266 w26 ho27 hb hg_ hnew_; clear hg_ hnew_; (first | rw [← Ny265.out] at ho27 | (simp only [Int.reduceToNat] at ho27; rw [← Ny265.out] at ho27)); have n0_ := Aside0.mk (Kd.R_below (by (with_reducible repeat (first | apply Kd.R_alloc | apply Kd.R_drewN | apply Kd.R_drew)); exact HO_265003.out) hb); have n1_ := Aside0.mk (Kd.R_below (by (with_reducible repeat (first | apply Kd.R_alloc | apply Kd.R_drewN | apply Kd.R_drew)); exact HO_265004.out) hb); have n2_ := Aside0.mk (Kd.R_below (by (with_reducible repeat (first | apply Kd.R_alloc | apply Kd.R_drewN | apply Kd.R_drew)); exact HO_265010.out) hb); have n3_ := Aside0.mk (Kd.R_lower ho27 (below_size (by repeat (first | (with_reducible first | exact HB.out | apply below_alloc | apply pw_below_drewN | apply below_drew1 | refine below_set ?_ GE264.out) | exact HB.out)))); have n4_ := Aside0.mk (blk_below (g := gb264) (o := .cells #[.string t242, .string x265001_13, .int .i64 t244, u265003, .slice Ao19 t248.length co19, .string t251, .string t252, .string t253, .string t254, .bool t255, .slice Ao20 t256.length co20, .int .i64 t259, .string t260, .string t261, .string t262, .int .i64 t263] 27 (0, 0)) (by (with_reducible repeat (first | refine blk_drewN ?_ _ | refine blk_drew ?_ | refine blk_alloc ?_ _)); exact BK264.out) hb); have n5_ := Aside0.mk (below_step (by repeat (first | (with_reducible first | exact HB.out | apply below_alloc | apply pw_below_drewN | apply below_drew1 | refine below_set ?_ GE264.out) | exact HB.out)) hb); clear HO_265003; clear HO_265004; clear HO_265010; clear BK264; clear HB; have HO_265003 := n0_; have HO_265004 := n1_; have HO_265010 := n2_; have HO267 := n3_; have BK264 := n4_; have HB := n5_; clear n0_ n1_ n2_ n3_ n4_ n5_; clear hb ho27; have hcv28 := own_string (P := Try.prog) Try.underlying32 Try.underlying5 Try.underlying9 (Kd.own_of_R HO267.out)) | ((with_reducible refine gate_builtin (b := .append) (xs := #[.tmp 45, .tmp 51]) rfl ?_); (try (refine gate_guard (by rfl) ?_; dsimp only)); at_builtin; refine Kd.R_append Kd.string (w0 := w) w.heap.size rfl (.tmp 45) (.tmp 51) 22 9 (.string ⟨#[]⟩) 16 rfl Try.underlying22 info9 rfl (by decide) (by omega) u265003 x265003_3 (strOfNums y265) [.string (strOfNums y265)] (fun _ => True) (fun _ => False) rfl rfl ?aP (fun _ hk => hk.elim) ?aF ?aO ?aB ?aS ?aL ?_; (case aP => exact rfl); (case aB => exact (by repeat (first | (with_reducible first | exact HB.out | apply below_alloc | apply pw_below_drewN | apply below_drew1 | refine below_set ?_ GE264.out) | exact HB.out))); (case aF => exact (fun _ _ => trivial)); (case aO => exact (by (with_reducible repeat (first | apply Kd.R_alloc | apply Kd.R_drewN | apply Kd.R_drew)); exact HO_265003.out)); (case aS => exact (below_size (by repeat (first | (with_reducible first | exact HB.out | apply below_alloc | apply pw_below_drewN | apply below_drew1 | refine below_set ?_ GE264.out) | exact HB.out)))); (case aL => have := LMc24.out; omega); intro v269 w29 ho hb hg hat; rw [← Ny268.out] at ho; have n0_ := Aside0.mk (Kd.R_over' (by (with_reducible repeat (first | apply Kd.R_alloc | apply Kd.R_drewN | apply Kd.R_drew)); exact HO_265004.out) (Kd.R_typed (by (with_reducible repeat (first | apply Kd.R_alloc | apply Kd.R_drewN | apply Kd.R_drew)); exact HO_265003.out)) (by decide) hg); have n1_ := Aside0.mk (Kd.R_over' (by (with_reducible repeat (first | apply Kd.R_alloc | apply Kd.R_drewN | apply Kd.R_drew)); exact HO_265010.out) (Kd.R_typed (by (with_reducible repeat (first | apply Kd.R_alloc | apply Kd.R_drewN | apply Kd.R_drew)); exact HO_265003.out)) (by decide) hg); have n2_ := Aside0.mk (blk_grown (g := gb264) (o := .cells #[.string t242, .string x265001_13, .int .i64 t244, u265003, .slice Ao19 t248.length co19, .string t251, .string t252, .string t253, .string t254, .bool t255, .slice Ao20 t256.length co20, .int .i64 t259, .string t260, .string t261, .string t262, .int .i64 t263] 27 (0, 0)) (by (with_reducible repeat (first | refine blk_drewN ?_ _ | refine blk_drew ?_ | refine blk_alloc ?_ _)); exact BK264.out) hg (Kd.R_ne HO_265003.out BK264.out (by decide))); have n3_ := Aside0.mk (Kd.R_over' (by (with_reducible repeat (first | apply Kd.R_alloc | apply Kd.R_drewN | apply Kd.R_drew)); exact HO267.out) (Kd.R_typed (by (with_reducible repeat (first | apply Kd.R_alloc | apply Kd.R_drewN | apply Kd.R_drew)); exact HO_265003.out)) (by decide) hg); have n4_ := Aside0.mk (hb); have n5_ := Aside0.mk (ho); clear HO_265004; clear HO_265010; clear BK264; clear HO267; clear HB; clear HO_265003; have HO_265004 := n0_; have HO_265010 := n1_; have BK264 := n2_; have HO267 := n3_; have HB := n4_; have HO270 := n5_; clear n0_ n1_ n2_ n3_ n4_ n5_; clear ho hb hg hat; obtain ⟨Ao30, co30, eo30⟩ := Kd.R_slice HO270.out; subst eo30; have hcz31_0 : w29.cell? ⟨gb264, 0, none⟩ = some (.string t242) := (blk_cell BK264.out 0).trans rfl; have hcz31_1 : w29.cell? ⟨gb264, 1, none⟩ = some (.string x265001_13) := (blk_cell BK264.out 1).trans rfl; have hcz31_2 : w29.cell? ⟨gb264, 2, none⟩ = some (.int .i64 t244) := (blk_cell BK264.out 2).trans rfl; have hcz31_3 : w29.cell? ⟨gb264, 3, none⟩ = some (u265003) := (blk_cell BK264.out 3).trans rfl; have hcz31_4 : w29.cell? ⟨gb264, 4, none⟩ = some (.slice Ao19 t248.length co19) := (blk_cell BK264.out 4).trans rfl; have hcz31_5 : w29.cell? ⟨gb264, 5, none⟩ = some (.string t251) := (blk_cell BK264.out 5).trans rfl; have hcz31_6 : w29.cell? ⟨gb264, 6, none⟩ = some (.string t252) := (blk_cell BK264.out 6).trans rfl; have hcz31_7 : w29.cell? ⟨gb264, 7, none⟩ = some (.string t253) := (blk_cell BK264.out 7).trans rfl; have hcz31_8 : w29.cell? ⟨gb264, 8, none⟩ = some (.string t254) := (blk_cell BK264.out 8).trans rfl; have hcz31_9 : w29.cell? ⟨gb264, 9, none⟩ = some (.bool t255) := (blk_cell BK264.out 9).trans rfl; have hcz31_10 : w29.cell? ⟨gb264, 10, none⟩ = some (.slice Ao20 t256.length co20) := (blk_cell BK264.out 10).trans rfl; have hcz31_11 : w29.cell? ⟨gb264, 11, none⟩ = some (.int .i64 t259) := (blk_cell BK264.out 11).trans rfl; have hcz31_12 : w29.cell? ⟨gb264, 12, none⟩ = some (.string t260) := (blk_cell BK264.out 12).trans rfl; have hcz31_13 : w29.cell? ⟨gb264, 13, none⟩ = some (.string t261) := (blk_cell BK264.out 13).trans rfl; have hcz31_14 : w29.cell? ⟨gb264, 14, none⟩ = some (.string t262) := (blk_cell BK264.out 14).trans rfl; have hcz31_15 : w29.cell? ⟨gb264, 15, none⟩ = some (.int .i64 t263) := (blk_cell BK264.out 15).trans rfl; have hfz31_0 := blk_frozen BK264.out 0; have hfz31_1 := blk_frozen BK264.out 1; have hfz31_2 := blk_frozen BK264.out 2; have hfz31_3 := blk_frozen BK264.out 3; have hfz31_4 := blk_frozen BK264.out 4; have hfz31_5 := blk_frozen BK264.out 5; have hfz31_6 := blk_frozen BK264.out 6; have hfz31_7 := blk_frozen BK264.out 7; have hfz31_8 := blk_frozen BK264.out 8; have hfz31_9 := blk_frozen BK264.out 9; have hfz31_10 := blk_frozen BK264.out 10; have hfz31_11 := blk_frozen BK264.out 11; have hfz31_12 := blk_frozen BK264.out 12; have hfz31_13 := blk_frozen BK264.out 13; have hfz31_14 := blk_frozen BK264.out 14; have hfz31_15 := blk_frozen BK264.out 15))
                    go_roundg k3
                    case measure => have := HJ3.out; have := HJ13.out; have := HK3.out; omega
                    case rel => exact ⟨(wrap64 (x8_3 + 1)), (y268), (.slice Ao30 y268.length co30), (by first | rfl | (simp; done) | (simp [*]; done)), H', ⟨by have := HJ3.out; have := HJ13.out; have := HK3.out; omega⟩, ⟨by (with_reducible repeat (first | apply Kd.R_alloc | apply Kd.R_drewN | apply Kd.R_drew)); exact Kd.R_mono (Kd.R_far (p := ⟨gb264, 3, none⟩) (Kd.R_types HO270.out BK264.out (by decide)) (fun _ hk => hk.2) (.slice Ao30 y268.length co30)) (fun _ hk => by first | exact trivial | simp [hk])⟩, ⟨by (with_reducible repeat (first | apply Kd.R_alloc | apply Kd.R_drewN | apply Kd.R_drew)); exact Kd.R_mono (Kd.R_far (p := ⟨gb264, 3, none⟩) (Kd.R_types HO_265004.out BK264.out (by decide)) (fun _ hk => hk.2) (.slice Ao30 y268.length co30)) (fun _ hk => by first | exact trivial | simp [hk])⟩, ⟨by (with_reducible repeat (first | apply Kd.R_alloc | apply Kd.R_drewN | apply Kd.R_drew)); exact Kd.R_mono (Kd.R_far (p := ⟨gb264, 3, none⟩) (Kd.R_types HO_265010.out BK264.out (by decide)) (fun _ hk => hk.2) (.slice Ao30 y268.length co30)) (fun _ hk => by first | exact trivial | simp [hk])⟩, ⟨by (with_reducible repeat (first | refine blk_drewN ?_ _ | refine blk_drew ?_ | refine blk_alloc ?_ _)); refine blk_put (cs := #[.string t242, .string x265001_13, .int .i64 t244, u265003, .slice Ao19 t248.length co19, .string t251, .string t252, .string t253, .string t254, .bool t255, .slice Ao20 t256.length co20, .int .i64 t259, .string t260, .string t261, .string t262, .int .i64 t263]) ?_ 3 _ rfl; (with_reducible repeat (first | refine blk_drewN ?_ _ | refine blk_drew ?_ | refine blk_alloc ?_ _)); exact BK264.out⟩, ⟨by repeat (first | (with_reducible first | exact HB.out | apply below_alloc | apply pw_below_drewN | apply below_drew1 | refine below_set ?_ GE264.out) | exact HB.out)⟩⟩
                  · rw [if_neg c24] at H
                    exact absurd H (by simp)
                · rw [if_neg c23] at H
                  have c23b0 : decide (x8_3 < a1) = false := decide_eq_false c23
                  clear c23
                  replace H := Option.bind_eq_some_iff.mp H
                  obtain ⟨⟨t271, t272⟩, A320, H⟩ := H
                  replace H : (if t272 = true then (if (t271.size : Int) = 0 then (fleuronlaw9_SystemDecodes.j3 k3 a0 a1 a2 t271 true) else (if a2 = true then (fleuronlaw9_SystemDecodes.j3 k3 a0 a1 a2 t271 false) else (if a0 > 0 then (if 0 < (t271.size : Int) then (fleuronlaw9_SystemDecodes.j3 k3 a0 a1 a2 t271 ((bt t271 0) == 97)) else (none)) else (fleuronlaw9_SystemDecodes.j3 k3 a0 a1 a2 t271 false)))) else (fleuronlaw9_SystemDecodes.j3 k3 a0 a1 a2 t271 true)) = some r := H
                  have A32 := Aside0.mk A320
                  clear A320
                  have HC33 := Aside0.mk H
                  clear H
                  have hcz34_0 : wr.cell? ⟨gb264, 0, none⟩ = some (.string t242) := (blk_cell BK264.out 0).trans rfl
                  have hcz34_1 : wr.cell? ⟨gb264, 1, none⟩ = some (.string x265001_13) := (blk_cell BK264.out 1).trans rfl
                  have hcz34_2 : wr.cell? ⟨gb264, 2, none⟩ = some (.int .i64 t244) := (blk_cell BK264.out 2).trans rfl
                  have hcz34_3 : wr.cell? ⟨gb264, 3, none⟩ = some (u265003) := (blk_cell BK264.out 3).trans rfl
                  have hcz34_4 : wr.cell? ⟨gb264, 4, none⟩ = some (.slice Ao19 t248.length co19) := (blk_cell BK264.out 4).trans rfl
                  have hcz34_5 : wr.cell? ⟨gb264, 5, none⟩ = some (.string t251) := (blk_cell BK264.out 5).trans rfl
                  have hcz34_6 : wr.cell? ⟨gb264, 6, none⟩ = some (.string t252) := (blk_cell BK264.out 6).trans rfl
                  have hcz34_7 : wr.cell? ⟨gb264, 7, none⟩ = some (.string t253) := (blk_cell BK264.out 7).trans rfl
                  have hcz34_8 : wr.cell? ⟨gb264, 8, none⟩ = some (.string t254) := (blk_cell BK264.out 8).trans rfl
                  have hcz34_9 : wr.cell? ⟨gb264, 9, none⟩ = some (.bool t255) := (blk_cell BK264.out 9).trans rfl
                  have hcz34_10 : wr.cell? ⟨gb264, 10, none⟩ = some (.slice Ao20 t256.length co20) := (blk_cell BK264.out 10).trans rfl
                  have hcz34_11 : wr.cell? ⟨gb264, 11, none⟩ = some (.int .i64 t259) := (blk_cell BK264.out 11).trans rfl
                  have hcz34_12 : wr.cell? ⟨gb264, 12, none⟩ = some (.string t260) := (blk_cell BK264.out 12).trans rfl
                  have hcz34_13 : wr.cell? ⟨gb264, 13, none⟩ = some (.string t261) := (blk_cell BK264.out 13).trans rfl
                  have hcz34_14 : wr.cell? ⟨gb264, 14, none⟩ = some (.string t262) := (blk_cell BK264.out 14).trans rfl
                  have hcz34_15 : wr.cell? ⟨gb264, 15, none⟩ = some (.int .i64 t263) := (blk_cell BK264.out 15).trans rfl
                  have hfz34_0 := blk_frozen BK264.out 0
                  have hfz34_1 := blk_frozen BK264.out 1
                  have hfz34_2 := blk_frozen BK264.out 2
                  have hfz34_3 := blk_frozen BK264.out 3
                  have hfz34_4 := blk_frozen BK264.out 4
                  have hfz34_5 := blk_frozen BK264.out 5
                  have hfz34_6 := blk_frozen BK264.out 6
                  have hfz34_7 := blk_frozen BK264.out 7
                  have hfz34_8 := blk_frozen BK264.out 8
                  have hfz34_9 := blk_frozen BK264.out 9
                  have hfz34_10 := blk_frozen BK264.out 10
                  have hfz34_11 := blk_frozen BK264.out 11
                  have hfz34_12 := blk_frozen BK264.out 12
                  have hfz34_13 := blk_frozen BK264.out 13
                  have hfz34_14 := blk_frozen BK264.out 14
                  have hfz34_15 := blk_frozen BK264.out 15
                  obtain ⟨Ao35, co35, eo35⟩ := Kd.R_slice HO_265003.out
                  subst eo35
                  go_upto_region 11 with (first | ((with_reducible refine gate_callee (f := 11) rfl ?_); refine goesL_ (some 57) rfl rfl Try.func11 (by kernel_rfl) rfl #[.agg #[.string t242, .string x265001_13, .int .i64 t244, .slice Ao35 x265003_3.length co35, .slice Ao19 t248.length co19, .string t251, .string t252, .string t253, .string t254, .bool t255, .slice Ao20 t256.length co20, .int .i64 t259, .string t260, .string t261, .string t262, .int .i64 t263], .int .i64 a0] rfl (by (try simp only [List.map_toArray, List.map_cons, List.map_nil]); first | done | rfl | (simp only [List.length_drop, List.length_take]; rfl)) ?_; (with_reducible refine (system_Signs.calls k3 t242 x265001_13 t244 _ _ x265003_3 _ _ t248 t251 t252 t253 t254 t255 _ _ t256 t259 t260 t261 t262 t263 a0 t271 t272 _ ?side1 ?side2 ?side3 ?side4 ?side5 ?side6 A32.out).mono ?_); (case side1 => repeat (first | exact (Kd.R_reads' HO_265003.out).2.2 | (with_reducible refine Kd.C_alloc ?_ _) | (with_reducible refine Kd.C_drewN ?_ _) | (with_reducible refine Kd.C_drew ?_))); (case side2 => exact (Kd.R_reads' HO_265003.out).2.1); (case side3 => repeat (first | exact (Kd.R_reads' HO_265004.out).2.2 | (with_reducible refine Kd.C_alloc ?_ _) | (with_reducible refine Kd.C_drewN ?_ _) | (with_reducible refine Kd.C_drew ?_))); (case side4 => exact (Kd.R_reads' HO_265004.out).2.1); (case side5 => repeat (first | exact (Kd.R_reads' HO_265010.out).2.2 | (with_reducible refine Kd.C_alloc ?_ _) | (with_reducible refine Kd.C_drewN ?_ _) | (with_reducible refine Kd.C_drew ?_))); (case side6 => exact (Kd.R_reads' HO_265010.out).2.1); rintro e w36 ⟨rfl, hb⟩; refine ⟨_, rfl, ?_⟩; have n0_ := Aside0.mk (Kd.R_below (by (with_reducible repeat (first | apply Kd.R_alloc | apply Kd.R_drewN | apply Kd.R_drew)); exact HO_265003.out) hb); have n1_ := Aside0.mk (Kd.R_below (by (with_reducible repeat (first | apply Kd.R_alloc | apply Kd.R_drewN | apply Kd.R_drew)); exact HO_265004.out) hb); have n2_ := Aside0.mk (Kd.R_below (by (with_reducible repeat (first | apply Kd.R_alloc | apply Kd.R_drewN | apply Kd.R_drew)); exact HO_265010.out) hb); have n3_ := Aside0.mk (blk_below (g := gb264) (o := .cells #[.string t242, .string x265001_13, .int .i64 t244, .slice Ao35 x265003_3.length co35, .slice Ao19 t248.length co19, .string t251, .string t252, .string t253, .string t254, .bool t255, .slice Ao20 t256.length co20, .int .i64 t259, .string t260, .string t261, .string t262, .int .i64 t263] 27 (0, 0)) (by (with_reducible repeat (first | refine blk_drewN ?_ _ | refine blk_drew ?_ | refine blk_alloc ?_ _)); exact BK264.out) hb); have n4_ := Aside0.mk (below_step (by repeat (first | (with_reducible first | exact HB.out | apply below_alloc | apply pw_below_drewN | apply below_drew1 | refine below_set ?_ GE264.out) | exact HB.out)) hb); clear HO_265003; clear HO_265004; clear HO_265010; clear BK264; clear HB; have HO_265003 := n0_; have HO_265004 := n1_; have HO_265010 := n2_; have BK264 := n3_; have HB := n4_; clear n0_ n1_ n2_ n3_ n4_; (try clear hb); (try clear hb2); (try clear hk); (try clear hi)))
                  (try simp only [Act.put, List.setIfInBounds_toArray, List.set_cons_zero, List.set_cons_succ])
                  go_cut [79] (fun v79 wc => ∃ (kq : Nat) (x79_32 : Bool), v79 = .bool x79_32 ∧ Aside0 (fleuronlaw9_SystemDecodes.j3 kq a0 a1 a2 t271 x79_32 = some r) ∧ Aside0 (kq ≤ k3) ∧ Aside0 (Kd.R Kd.string 9 wc w.heap.size (fun _ => True) (.slice Ao35 x265003_3.length co35) x265003_3) ∧ Aside0 (Kd.R (Kd.int .i64) 3 wc w.heap.size (fun _ => True) (.slice Ao19 t248.length co19) t248) ∧ Aside0 (Kd.R k41 41 wc w.heap.size (fun _ => True) (.slice Ao20 t256.length co20) t256) ∧ Aside0 (wc.heap[gb264]? = some (.cells #[.string t242, .string x265001_13, .int .i64 t244, (.slice Ao35 x265003_3.length co35), (.slice Ao19 t248.length co19), .string t251, .string t252, .string t253, .string t254, .bool t255, (.slice Ao20 t256.length co20), .int .i64 t259, .string t260, .string t261, .string t262, .int .i64 t263] 27 (0, 0))) ∧ Aside0 (Below w.heap.size w wc))
                  case first =>
                    have H := HC33.out
                    clear HC33
                    by_cases c37 : t272 = true
                    · subst c37
                      have H1 : (if (t271.size : Int) = 0 then (fleuronlaw9_SystemDecodes.j3 k3 a0 a1 a2 t271 true) else (if a2 = true then (fleuronlaw9_SystemDecodes.j3 k3 a0 a1 a2 t271 false) else (if a0 > 0 then (if 0 < (t271.size : Int) then (fleuronlaw9_SystemDecodes.j3 k3 a0 a1 a2 t271 ((bt t271 0) == 97)) else (none)) else (fleuronlaw9_SystemDecodes.j3 k3 a0 a1 a2 t271 false)))) = some r := by rw [if_pos rfl] at H; exact H
                      clear H
                      have H := H1
                      clear H1
                      by_cases c38 : (t271.size : Int) = 0
                      · rw [if_pos c38] at H
                        have c38b0 : ((t271.size : Int) == 0) = true := beq_iff_eq.mpr c38
                        have c38b1 : ((t271.size : Int) != 0) = false := bne_eq_false_iff_eq.mpr c38
                        clear c38
                        (first | rw [c38b0] | (simp only [i64_w, i32_w]; rw [c38b0]) | skip)
                        have H' := Aside0.mk H
                        clear H
                        go_wp2
                        go_meet
                        case rel => exact ⟨_, (true), (by first | rfl | (simp; done) | (simp [*]; done)), H', ⟨by have := HJ3.out; have := HJ13.out; have := HK3.out; first | omega | exact Nat.le_refl _⟩, ⟨by (with_reducible repeat (first | apply Kd.R_alloc | apply Kd.R_drewN | apply Kd.R_drew)); exact HO_265003.out⟩, ⟨by (with_reducible repeat (first | apply Kd.R_alloc | apply Kd.R_drewN | apply Kd.R_drew)); exact HO_265004.out⟩, ⟨by (with_reducible repeat (first | apply Kd.R_alloc | apply Kd.R_drewN | apply Kd.R_drew)); exact HO_265010.out⟩, ⟨by (with_reducible repeat (first | refine blk_drewN ?_ _ | refine blk_drew ?_ | refine blk_alloc ?_ _)); exact BK264.out⟩, ⟨by repeat (first | (with_reducible first | exact HB.out | apply below_alloc | apply pw_below_drewN | apply below_drew1 | refine below_set ?_ GE264.out) | exact HB.out)⟩⟩
                      · rw [if_neg c38] at H
                        have c38b0 : ((t271.size : Int) == 0) = false := beq_eq_false_iff_ne.mpr c38
                        have c38b1 : ((t271.size : Int) != 0) = true := bne_iff_ne.mpr c38
                        (first | rw [c38b0] | (simp only [i64_w, i32_w]; rw [c38b0]) | skip)
                        by_cases c39 : a2 = true
                        · subst c39
                          have H1 : (fleuronlaw9_SystemDecodes.j3 k3 a0 a1 true t271 false) = some r := by rw [if_pos rfl] at H; exact H
                          clear H
                          have H := H1
                          clear H1
                          have H' := Aside0.mk H
                          clear H
                          go_wp2
                          go_meet
                          case rel => exact ⟨_, (false), (by first | rfl | (simp; done) | (simp [*]; done)), H', ⟨by have := HJ3.out; have := HJ13.out; have := HK3.out; first | omega | exact Nat.le_refl _⟩, ⟨by (with_reducible repeat (first | apply Kd.R_alloc | apply Kd.R_drewN | apply Kd.R_drew)); exact HO_265003.out⟩, ⟨by (with_reducible repeat (first | apply Kd.R_alloc | apply Kd.R_drewN | apply Kd.R_drew)); exact HO_265004.out⟩, ⟨by (with_reducible repeat (first | apply Kd.R_alloc | apply Kd.R_drewN | apply Kd.R_drew)); exact HO_265010.out⟩, ⟨by (with_reducible repeat (first | refine blk_drewN ?_ _ | refine blk_drew ?_ | refine blk_alloc ?_ _)); exact BK264.out⟩, ⟨by repeat (first | (with_reducible first | exact HB.out | apply below_alloc | apply pw_below_drewN | apply below_drew1 | refine below_set ?_ GE264.out) | exact HB.out)⟩⟩
                        · replace c39 := Bool.eq_false_iff.mpr c39
                          subst c39
                          have H1 : (if a0 > 0 then (if 0 < (t271.size : Int) then (fleuronlaw9_SystemDecodes.j3 k3 a0 a1 false t271 ((bt t271 0) == 97)) else (none)) else (fleuronlaw9_SystemDecodes.j3 k3 a0 a1 false t271 false)) = some r := by rw [if_neg (show ¬ (false = true) by decide)] at H; exact H
                          clear H
                          have H := H1
                          clear H1
                          by_cases c40 : a0 > 0
                          · rw [if_pos c40] at H
                            have c40b0 : decide (0 < a0) = true := decide_eq_true c40
                            clear c40
                            by_cases c41 : 0 < (t271.size : Int)
                            · rw [if_pos c41] at H
                              have c41b0 : decide (0 < (t271.size : Int)) = true := decide_eq_true c41
                              have c41b1 : decide (0 < t271.size) = true := decide_eq_true (by omega)
                              clear c41
                              have H' := Aside0.mk H
                              clear H
                              have p42 : 0 ≤ (0 : Int) := (by omega)
                              have q42 : 0 < t271.size := (by have : (0 : Int) < (t271.size : Int) := of_decide_eq_true (by first | (with_reducible assumption) | assumption); omega)
                              have hx42 : ∀ h : 0 < t271.size, ((t271[0]'h).toNat : Int) = bt t271 0 := bt_at t271 0
                              clear p42
                              have qi42 : (0 < (t271.size : Int)) = True := eq_true (of_decide_eq_true (by first | (with_reducible assumption) | assumption))
                              replace q42 := eq_true q42
                              go_wp2
                              go_meet
                              case rel => exact ⟨_, (((bt t271 0) == 97)), (by first | rfl | (simp; done) | (simp [*]; done)), H', ⟨by have := HJ3.out; have := HJ13.out; have := HK3.out; first | omega | exact Nat.le_refl _⟩, ⟨by (with_reducible repeat (first | apply Kd.R_alloc | apply Kd.R_drewN | apply Kd.R_drew)); exact HO_265003.out⟩, ⟨by (with_reducible repeat (first | apply Kd.R_alloc | apply Kd.R_drewN | apply Kd.R_drew)); exact HO_265004.out⟩, ⟨by (with_reducible repeat (first | apply Kd.R_alloc | apply Kd.R_drewN | apply Kd.R_drew)); exact HO_265010.out⟩, ⟨by (with_reducible repeat (first | refine blk_drewN ?_ _ | refine blk_drew ?_ | refine blk_alloc ?_ _)); exact BK264.out⟩, ⟨by repeat (first | (with_reducible first | exact HB.out | apply below_alloc | apply pw_below_drewN | apply below_drew1 | refine below_set ?_ GE264.out) | exact HB.out)⟩⟩
                            · rw [if_neg c41] at H
                              exact absurd H (by simp)
                          · rw [if_neg c40] at H
                            have c40b0 : decide (0 < a0) = false := decide_eq_false c40
                            clear c40
                            have H' := Aside0.mk H
                            clear H
                            go_wp2
                            go_meet
                            case rel => exact ⟨_, (false), (by first | rfl | (simp; done) | (simp [*]; done)), H', ⟨by have := HJ3.out; have := HJ13.out; have := HK3.out; first | omega | exact Nat.le_refl _⟩, ⟨by (with_reducible repeat (first | apply Kd.R_alloc | apply Kd.R_drewN | apply Kd.R_drew)); exact HO_265003.out⟩, ⟨by (with_reducible repeat (first | apply Kd.R_alloc | apply Kd.R_drewN | apply Kd.R_drew)); exact HO_265004.out⟩, ⟨by (with_reducible repeat (first | apply Kd.R_alloc | apply Kd.R_drewN | apply Kd.R_drew)); exact HO_265010.out⟩, ⟨by (with_reducible repeat (first | refine blk_drewN ?_ _ | refine blk_drew ?_ | refine blk_alloc ?_ _)); exact BK264.out⟩, ⟨by repeat (first | (with_reducible first | exact HB.out | apply below_alloc | apply pw_below_drewN | apply below_drew1 | refine below_set ?_ GE264.out) | exact HB.out)⟩⟩
                    · replace c37 := Bool.eq_false_iff.mpr c37
                      subst c37
                      have H1 : (fleuronlaw9_SystemDecodes.j3 k3 a0 a1 a2 t271 true) = some r := by rw [if_neg (show ¬ (false = true) by decide)] at H; exact H
                      clear H
                      have H := H1
                      clear H1
                      have H' := Aside0.mk H
                      clear H
                      go_wp2
                      go_meet
                      case rel => exact ⟨_, (true), (by first | rfl | (simp; done) | (simp [*]; done)), H', ⟨by have := HJ3.out; have := HJ13.out; have := HK3.out; first | omega | exact Nat.le_refl _⟩, ⟨by (with_reducible repeat (first | apply Kd.R_alloc | apply Kd.R_drewN | apply Kd.R_drew)); exact HO_265003.out⟩, ⟨by (with_reducible repeat (first | apply Kd.R_alloc | apply Kd.R_drewN | apply Kd.R_drew)); exact HO_265004.out⟩, ⟨by (with_reducible repeat (first | apply Kd.R_alloc | apply Kd.R_drewN | apply Kd.R_drew)); exact HO_265010.out⟩, ⟨by (with_reducible repeat (first | refine blk_drewN ?_ _ | refine blk_drew ?_ | refine blk_alloc ?_ _)); exact BK264.out⟩, ⟨by repeat (first | (with_reducible first | exact HB.out | apply below_alloc | apply pw_below_drewN | apply below_drew1 | refine below_set ?_ GE264.out) | exact HB.out)⟩⟩
                  case rest =>
                    clear HC33
                    try clear c1
                    try clear c2
                    try clear p2
                    try clear hcv2
                    try clear c3
                    try clear c4
                    try clear p4
                    try clear q4
                    try clear hx4
                    try clear qi4
                    try clear c5
                    try clear c5b0
                    try clear c6
                    try clear c6b0
                    try clear p6
                    try clear c7
                    try clear c7b0
                    try clear c8
                    try clear c8b0
                    try clear c9
                    try clear c10
                    try clear c11
                    try clear c13
                    try clear c21
                    try clear c23
                    try clear c23b0
                    try clear c24
                    try clear hcv28
                    try clear c37
                    try clear c38
                    try clear c38b0
                    try clear c38b1
                    try clear c39
                    try clear c40
                    try clear c40b0
                    try clear c41
                    try clear c41b0
                    try clear c41b1
                    try clear p42
                    try clear q42
                    try clear hx42
                    try clear qi42
                    try clear hcz17_0
                    try clear hcz17_1
                    try clear hcz17_10
                    try clear hcz17_11
                    try clear hcz17_12
                    try clear hcz17_13
                    try clear hcz17_14
                    try clear hcz17_15
                    try clear hcz17_2
                    try clear hcz17_3
                    try clear hcz17_4
                    try clear hcz17_5
                    try clear hcz17_6
                    try clear hcz17_7
                    try clear hcz17_8
                    try clear hcz17_9
                    try clear hcz22_0
                    try clear hcz22_1
                    try clear hcz22_10
                    try clear hcz22_11
                    try clear hcz22_12
                    try clear hcz22_13
                    try clear hcz22_14
                    try clear hcz22_15
                    try clear hcz22_2
                    try clear hcz22_3
                    try clear hcz22_4
                    try clear hcz22_5
                    try clear hcz22_6
                    try clear hcz22_7
                    try clear hcz22_8
                    try clear hcz22_9
                    try clear hcz25_0
                    try clear hcz25_1
                    try clear hcz25_10
                    try clear hcz25_11
                    try clear hcz25_12
                    try clear hcz25_13
                    try clear hcz25_14
                    try clear hcz25_15
                    try clear hcz25_2
                    try clear hcz25_3
                    try clear hcz25_4
                    try clear hcz25_5
                    try clear hcz25_6
                    try clear hcz25_7
                    try clear hcz25_8
                    try clear hcz25_9
                    try clear hcz31_0
                    try clear hcz31_1
                    try clear hcz31_10
                    try clear hcz31_11
                    try clear hcz31_12
                    try clear hcz31_13
                    try clear hcz31_14
                    try clear hcz31_15
                    try clear hcz31_2
                    try clear hcz31_3
                    try clear hcz31_4
                    try clear hcz31_5
                    try clear hcz31_6
                    try clear hcz31_7
                    try clear hcz31_8
                    try clear hcz31_9
                    try clear hcz34_0
                    try clear hcz34_1
                    try clear hcz34_10
                    try clear hcz34_11
                    try clear hcz34_12
                    try clear hcz34_13
                    try clear hcz34_14
                    try clear hcz34_15
                    try clear hcz34_2
                    try clear hcz34_3
                    try clear hcz34_4
                    try clear hcz34_5
                    try clear hcz34_6
                    try clear hcz34_7
                    try clear hcz34_8
                    try clear hcz34_9
                    try clear hfz17_0
                    try clear hfz17_1
                    try clear hfz17_10
                    try clear hfz17_11
                    try clear hfz17_12
                    try clear hfz17_13
                    try clear hfz17_14
                    try clear hfz17_15
                    try clear hfz17_2
                    try clear hfz17_3
                    try clear hfz17_4
                    try clear hfz17_5
                    try clear hfz17_6
                    try clear hfz17_7
                    try clear hfz17_8
                    try clear hfz17_9
                    try clear hfz22_0
                    try clear hfz22_1
                    try clear hfz22_10
                    try clear hfz22_11
                    try clear hfz22_12
                    try clear hfz22_13
                    try clear hfz22_14
                    try clear hfz22_15
                    try clear hfz22_2
                    try clear hfz22_3
                    try clear hfz22_4
                    try clear hfz22_5
                    try clear hfz22_6
                    try clear hfz22_7
                    try clear hfz22_8
                    try clear hfz22_9
                    try clear hfz25_0
                    try clear hfz25_1
                    try clear hfz25_10
                    try clear hfz25_11
                    try clear hfz25_12
                    try clear hfz25_13
                    try clear hfz25_14
                    try clear hfz25_15
                    try clear hfz25_2
                    try clear hfz25_3
                    try clear hfz25_4
                    try clear hfz25_5
                    try clear hfz25_6
                    try clear hfz25_7
                    try clear hfz25_8
                    try clear hfz25_9
                    try clear hfz31_0
                    try clear hfz31_1
                    try clear hfz31_10
                    try clear hfz31_11
                    try clear hfz31_12
                    try clear hfz31_13
                    try clear hfz31_14
                    try clear hfz31_15
                    try clear hfz31_2
                    try clear hfz31_3
                    try clear hfz31_4
                    try clear hfz31_5
                    try clear hfz31_6
                    try clear hfz31_7
                    try clear hfz31_8
                    try clear hfz31_9
                    try clear hfz34_0
                    try clear hfz34_1
                    try clear hfz34_10
                    try clear hfz34_11
                    try clear hfz34_12
                    try clear hfz34_13
                    try clear hfz34_14
                    try clear hfz34_15
                    try clear hfz34_2
                    try clear hfz34_3
                    try clear hfz34_4
                    try clear hfz34_5
                    try clear hfz34_6
                    try clear hfz34_7
                    try clear hfz34_8
                    try clear hfz34_9
                    try clear p2
                    try clear p42
                    try clear q42
                    obtain ⟨kq, x79_32, rfl, HA, HJ32, HO_265003, HO_265004, HO_265010, BK264, HB⟩ := hcut
                    cases kq with
                    | zero => exact absurd HA.out (by simp [fleuronlaw9_SystemDecodes.j3])
                    | succ kj32 =>
                      have H := HA.out
                      clear HA
                      simp only [fleuronlaw9_SystemDecodes.j3] at H
                      by_cases c43 : x79_32 = true
                      · subst c43
                        have H1 : (some false) = some r := by rw [if_pos rfl] at H; exact H
                        clear H
                        have H := H1
                        clear H1
                        exact absurd ((Option.some.inj H).trans ht_.out) (by decide)
                      · replace c43 := Bool.eq_false_iff.mpr c43
                        subst c43
                        have H1 : (fleuronlaw9_SystemDecodes.l1 kj32 a0 a1 a2 t271 0 0) = some r := by rw [if_neg (show ¬ (false = true) by decide)] at H; exact H
                        clear H
                        have H := H1
                        clear H1
                        have H' := Aside0.mk H
                        clear H
                        go_wp2
                        go_loopg [11, 12] kj32 (fun kq v11 v12 w' => ∃ (x11_5 : Int) (x12_5 : Int), v11 = .int .i64 x11_5 ∧ v12 = .int .i64 x12_5 ∧ Aside0 (fleuronlaw9_SystemDecodes.l1 kq a0 a1 a2 t271 x11_5 x12_5 = some r) ∧ Aside0 (kq ≤ kj32) ∧ Aside0 (Kd.R Kd.string 9 w' w.heap.size (fun _ => True) (.slice Ao35 x265003_3.length co35) x265003_3) ∧ Aside0 (Kd.R (Kd.int .i64) 3 w' w.heap.size (fun _ => True) (.slice Ao19 t248.length co19) t248) ∧ Aside0 (Kd.R k41 41 w' w.heap.size (fun _ => True) (.slice Ao20 t256.length co20) t256) ∧ Aside0 (w'.heap[gb264]? = some (.cells #[.string t242, .string x265001_13, .int .i64 t244, (.slice Ao35 x265003_3.length co35), (.slice Ao19 t248.length co19), .string t251, .string t252, .string t253, .string t254, .bool t255, (.slice Ao20 t256.length co20), .int .i64 t259, .string t260, .string t261, .string t262, .int .i64 t263] 27 (0, 0))) ∧ Aside0 (Below w.heap.size w w'))
                        case atStart => exact ⟨(0), (0), (by first | rfl | (simp; done) | (simp [*]; done)), (by first | rfl | (simp; done) | (simp [*]; done)), H', ⟨Nat.le_refl _⟩, ⟨by (with_reducible repeat (first | apply Kd.R_alloc | apply Kd.R_drewN | apply Kd.R_drew)); exact HO_265003.out⟩, ⟨by (with_reducible repeat (first | apply Kd.R_alloc | apply Kd.R_drewN | apply Kd.R_drew)); exact HO_265004.out⟩, ⟨by (with_reducible repeat (first | apply Kd.R_alloc | apply Kd.R_drewN | apply Kd.R_drew)); exact HO_265010.out⟩, ⟨by (with_reducible repeat (first | refine blk_drewN ?_ _ | refine blk_drew ?_ | refine blk_alloc ?_ _)); exact BK264.out⟩, ⟨by repeat (first | (with_reducible first | exact HB.out | apply below_alloc | apply pw_below_drewN | apply below_drew1 | refine below_set ?_ GE264.out) | exact HB.out)⟩⟩
                        case round =>
                          clear H'
                          try clear c1
                          try clear c2
                          try clear p2
                          try clear hcv2
                          try clear c3
                          try clear c4
                          try clear p4
                          try clear q4
                          try clear hx4
                          try clear qi4
                          try clear c5
                          try clear c5b0
                          try clear c6
                          try clear c6b0
                          try clear p6
                          try clear c7
                          try clear c7b0
                          try clear c8
                          try clear c8b0
                          try clear c9
                          try clear c10
                          try clear c11
                          try clear c13
                          try clear c21
                          try clear c23
                          try clear c23b0
                          try clear c24
                          try clear hcv28
                          try clear c37
                          try clear c38
                          try clear c38b0
                          try clear c38b1
                          try clear c39
                          try clear c40
                          try clear c40b0
                          try clear c41
                          try clear c41b0
                          try clear c41b1
                          try clear p42
                          try clear q42
                          try clear hx42
                          try clear qi42
                          try clear c43
                          try clear hcz17_0
                          try clear hcz17_1
                          try clear hcz17_10
                          try clear hcz17_11
                          try clear hcz17_12
                          try clear hcz17_13
                          try clear hcz17_14
                          try clear hcz17_15
                          try clear hcz17_2
                          try clear hcz17_3
                          try clear hcz17_4
                          try clear hcz17_5
                          try clear hcz17_6
                          try clear hcz17_7
                          try clear hcz17_8
                          try clear hcz17_9
                          try clear hcz22_0
                          try clear hcz22_1
                          try clear hcz22_10
                          try clear hcz22_11
                          try clear hcz22_12
                          try clear hcz22_13
                          try clear hcz22_14
                          try clear hcz22_15
                          try clear hcz22_2
                          try clear hcz22_3
                          try clear hcz22_4
                          try clear hcz22_5
                          try clear hcz22_6
                          try clear hcz22_7
                          try clear hcz22_8
                          try clear hcz22_9
                          try clear hcz25_0
                          try clear hcz25_1
                          try clear hcz25_10
                          try clear hcz25_11
                          try clear hcz25_12
                          try clear hcz25_13
                          try clear hcz25_14
                          try clear hcz25_15
                          try clear hcz25_2
                          try clear hcz25_3
                          try clear hcz25_4
                          try clear hcz25_5
                          try clear hcz25_6
                          try clear hcz25_7
                          try clear hcz25_8
                          try clear hcz25_9
                          try clear hcz31_0
                          try clear hcz31_1
                          try clear hcz31_10
                          try clear hcz31_11
                          try clear hcz31_12
                          try clear hcz31_13
                          try clear hcz31_14
                          try clear hcz31_15
                          try clear hcz31_2
                          try clear hcz31_3
                          try clear hcz31_4
                          try clear hcz31_5
                          try clear hcz31_6
                          try clear hcz31_7
                          try clear hcz31_8
                          try clear hcz31_9
                          try clear hcz34_0
                          try clear hcz34_1
                          try clear hcz34_10
                          try clear hcz34_11
                          try clear hcz34_12
                          try clear hcz34_13
                          try clear hcz34_14
                          try clear hcz34_15
                          try clear hcz34_2
                          try clear hcz34_3
                          try clear hcz34_4
                          try clear hcz34_5
                          try clear hcz34_6
                          try clear hcz34_7
                          try clear hcz34_8
                          try clear hcz34_9
                          try clear hfz17_0
                          try clear hfz17_1
                          try clear hfz17_10
                          try clear hfz17_11
                          try clear hfz17_12
                          try clear hfz17_13
                          try clear hfz17_14
                          try clear hfz17_15
                          try clear hfz17_2
                          try clear hfz17_3
                          try clear hfz17_4
                          try clear hfz17_5
                          try clear hfz17_6
                          try clear hfz17_7
                          try clear hfz17_8
                          try clear hfz17_9
                          try clear hfz22_0
                          try clear hfz22_1
                          try clear hfz22_10
                          try clear hfz22_11
                          try clear hfz22_12
                          try clear hfz22_13
                          try clear hfz22_14
                          try clear hfz22_15
                          try clear hfz22_2
                          try clear hfz22_3
                          try clear hfz22_4
                          try clear hfz22_5
                          try clear hfz22_6
                          try clear hfz22_7
                          try clear hfz22_8
                          try clear hfz22_9
                          try clear hfz25_0
                          try clear hfz25_1
                          try clear hfz25_10
                          try clear hfz25_11
                          try clear hfz25_12
                          try clear hfz25_13
                          try clear hfz25_14
                          try clear hfz25_15
                          try clear hfz25_2
                          try clear hfz25_3
                          try clear hfz25_4
                          try clear hfz25_5
                          try clear hfz25_6
                          try clear hfz25_7
                          try clear hfz25_8
                          try clear hfz25_9
                          try clear hfz31_0
                          try clear hfz31_1
                          try clear hfz31_10
                          try clear hfz31_11
                          try clear hfz31_12
                          try clear hfz31_13
                          try clear hfz31_14
                          try clear hfz31_15
                          try clear hfz31_2
                          try clear hfz31_3
                          try clear hfz31_4
                          try clear hfz31_5
                          try clear hfz31_6
                          try clear hfz31_7
                          try clear hfz31_8
                          try clear hfz31_9
                          try clear hfz34_0
                          try clear hfz34_1
                          try clear hfz34_10
                          try clear hfz34_11
                          try clear hfz34_12
                          try clear hfz34_13
                          try clear hfz34_14
                          try clear hfz34_15
                          try clear hfz34_2
                          try clear hfz34_3
                          try clear hfz34_4
                          try clear hfz34_5
                          try clear hfz34_6
                          try clear hfz34_7
                          try clear hfz34_8
                          try clear hfz34_9
                          try clear p2
                          try clear p4
                          try clear p42
                          try clear p6
                          try clear q4
                          try clear q42
                          obtain ⟨x11_5, x12_5, rfl, rfl, HA, HK5, HO_265003, HO_265004, HO_265010, BK264, HB⟩ := hrel
                          cases gk with
                          | zero => exact absurd HA.out (by simp [fleuronlaw9_SystemDecodes.l1])
                          | succ k5 =>
                            have H := HA.out
                            clear HA
                            simp only [fleuronlaw9_SystemDecodes.l1] at H
                            by_cases c44 : x12_5 < (t271.size : Int)
                            · rw [if_pos c44] at H
                              have c44b0 : decide (x12_5 < (t271.size : Int)) = true := decide_eq_true c44
                              clear c44
                              by_cases c45 : 0 ≤ x12_5
                              · rw [if_pos c45] at H
                                have c45b0 : decide (0 ≤ x12_5) = true := decide_eq_true c45
                                clear c45
                                have HC47 := Aside0.mk H
                                clear H
                                have p46 : 0 ≤ (x12_5 : Int) := of_decide_eq_true (by first | (with_reducible assumption) | assumption)
                                have q46 : x12_5 < (t271.size : Int) := of_decide_eq_true (by first | (with_reducible assumption) | assumption)
                                have hx46 := bt_at t271 x12_5
                                replace p46 := eq_true p46
                                replace q46 := eq_true q46
                                go_upto_region 18 with (fail)
                                go_cut [97] (fun v97 wc => ∃ (kq : Nat) (x97_46 : Bool), v97 = .bool x97_46 ∧ Aside0 (fleuronlaw9_SystemDecodes.j5 kq a0 a1 a2 t271 x11_5 x12_5 (wrap64 ((wrap64 (bt t271 x12_5)) - 97)) x97_46 = some r) ∧ Aside0 (kq ≤ k5) ∧ Aside0 (Kd.R Kd.string 9 wc w.heap.size (fun _ => True) (.slice Ao35 x265003_3.length co35) x265003_3) ∧ Aside0 (Kd.R (Kd.int .i64) 3 wc w.heap.size (fun _ => True) (.slice Ao19 t248.length co19) t248) ∧ Aside0 (Kd.R k41 41 wc w.heap.size (fun _ => True) (.slice Ao20 t256.length co20) t256) ∧ Aside0 (wc.heap[gb264]? = some (.cells #[.string t242, .string x265001_13, .int .i64 t244, (.slice Ao35 x265003_3.length co35), (.slice Ao19 t248.length co19), .string t251, .string t252, .string t253, .string t254, .bool t255, (.slice Ao20 t256.length co20), .int .i64 t259, .string t260, .string t261, .string t262, .int .i64 t263] 27 (0, 0))) ∧ Aside0 (Below w.heap.size w wc))
                                case first =>
                                  have H := HC47.out
                                  clear HC47
                                  by_cases c48 : (wrap64 ((wrap64 (bt t271 x12_5)) - 97)) < 0
                                  · rw [if_pos c48] at H
                                    have c48b0 : decide ((wrap64 ((wrap64 (bt t271 x12_5)) - 97)) < 0) = true := decide_eq_true c48
                                    clear c48
                                    (first | rw [c48b0] | (simp only [i64_w, i32_w]; rw [c48b0]) | skip)
                                    have H' := Aside0.mk H
                                    clear H
                                    go_wp2
                                    go_meet
                                    case rel => exact ⟨_, (true), (by first | rfl | (simp; done) | (simp [*]; done)), H', ⟨by have := HJ3.out; have := HJ13.out; have := HK3.out; have := HJ32.out; have := HK5.out; first | omega | exact Nat.le_refl _⟩, ⟨by (with_reducible repeat (first | apply Kd.R_alloc | apply Kd.R_drewN | apply Kd.R_drew)); exact HO_265003.out⟩, ⟨by (with_reducible repeat (first | apply Kd.R_alloc | apply Kd.R_drewN | apply Kd.R_drew)); exact HO_265004.out⟩, ⟨by (with_reducible repeat (first | apply Kd.R_alloc | apply Kd.R_drewN | apply Kd.R_drew)); exact HO_265010.out⟩, ⟨by (with_reducible repeat (first | refine blk_drewN ?_ _ | refine blk_drew ?_ | refine blk_alloc ?_ _)); exact BK264.out⟩, ⟨by repeat (first | (with_reducible first | exact HB.out | apply below_alloc | apply pw_below_drewN | apply below_drew1 | refine below_set ?_ GE264.out) | exact HB.out)⟩⟩
                                  · rw [if_neg c48] at H
                                    have c48b0 : decide ((wrap64 ((wrap64 (bt t271 x12_5)) - 97)) < 0) = false := decide_eq_false c48
                                    clear c48
                                    (first | rw [c48b0] | (simp only [i64_w, i32_w]; rw [c48b0]) | skip)
                                    have H' := Aside0.mk H
                                    clear H
                                    go_wp2
                                    go_meet
                                    case rel => exact ⟨_, (decide ((wrap64 ((wrap64 (bt t271 x12_5)) - 97)) ≥ a1)), (by first | rfl | (simp; done) | (simp [*]; done)), H', ⟨by have := HJ3.out; have := HJ13.out; have := HK3.out; have := HJ32.out; have := HK5.out; first | omega | exact Nat.le_refl _⟩, ⟨by (with_reducible repeat (first | apply Kd.R_alloc | apply Kd.R_drewN | apply Kd.R_drew)); exact HO_265003.out⟩, ⟨by (with_reducible repeat (first | apply Kd.R_alloc | apply Kd.R_drewN | apply Kd.R_drew)); exact HO_265004.out⟩, ⟨by (with_reducible repeat (first | apply Kd.R_alloc | apply Kd.R_drewN | apply Kd.R_drew)); exact HO_265010.out⟩, ⟨by (with_reducible repeat (first | refine blk_drewN ?_ _ | refine blk_drew ?_ | refine blk_alloc ?_ _)); exact BK264.out⟩, ⟨by repeat (first | (with_reducible first | exact HB.out | apply below_alloc | apply pw_below_drewN | apply below_drew1 | refine below_set ?_ GE264.out) | exact HB.out)⟩⟩
                                case rest =>
                                  clear HC47
                                  try clear c1
                                  try clear c2
                                  try clear p2
                                  try clear hcv2
                                  try clear c3
                                  try clear c4
                                  try clear p4
                                  try clear q4
                                  try clear hx4
                                  try clear qi4
                                  try clear c5
                                  try clear c5b0
                                  try clear c6
                                  try clear c6b0
                                  try clear p6
                                  try clear c7
                                  try clear c7b0
                                  try clear c8
                                  try clear c8b0
                                  try clear c9
                                  try clear c10
                                  try clear c11
                                  try clear c13
                                  try clear c21
                                  try clear c23
                                  try clear c23b0
                                  try clear c24
                                  try clear hcv28
                                  try clear c37
                                  try clear c38
                                  try clear c38b0
                                  try clear c38b1
                                  try clear c39
                                  try clear c40
                                  try clear c40b0
                                  try clear c41
                                  try clear c41b0
                                  try clear c41b1
                                  try clear p42
                                  try clear q42
                                  try clear hx42
                                  try clear qi42
                                  try clear c43
                                  try clear c44
                                  try clear c44b0
                                  try clear c45
                                  try clear c45b0
                                  try clear p46
                                  try clear q46
                                  try clear hx46
                                  try clear c48
                                  try clear c48b0
                                  try clear hcz17_0
                                  try clear hcz17_1
                                  try clear hcz17_10
                                  try clear hcz17_11
                                  try clear hcz17_12
                                  try clear hcz17_13
                                  try clear hcz17_14
                                  try clear hcz17_15
                                  try clear hcz17_2
                                  try clear hcz17_3
                                  try clear hcz17_4
                                  try clear hcz17_5
                                  try clear hcz17_6
                                  try clear hcz17_7
                                  try clear hcz17_8
                                  try clear hcz17_9
                                  try clear hcz22_0
                                  try clear hcz22_1
                                  try clear hcz22_10
                                  try clear hcz22_11
                                  try clear hcz22_12
                                  try clear hcz22_13
                                  try clear hcz22_14
                                  try clear hcz22_15
                                  try clear hcz22_2
                                  try clear hcz22_3
                                  try clear hcz22_4
                                  try clear hcz22_5
                                  try clear hcz22_6
                                  try clear hcz22_7
                                  try clear hcz22_8
                                  try clear hcz22_9
                                  try clear hcz25_0
                                  try clear hcz25_1
                                  try clear hcz25_10
                                  try clear hcz25_11
                                  try clear hcz25_12
                                  try clear hcz25_13
                                  try clear hcz25_14
                                  try clear hcz25_15
                                  try clear hcz25_2
                                  try clear hcz25_3
                                  try clear hcz25_4
                                  try clear hcz25_5
                                  try clear hcz25_6
                                  try clear hcz25_7
                                  try clear hcz25_8
                                  try clear hcz25_9
                                  try clear hcz31_0
                                  try clear hcz31_1
                                  try clear hcz31_10
                                  try clear hcz31_11
                                  try clear hcz31_12
                                  try clear hcz31_13
                                  try clear hcz31_14
                                  try clear hcz31_15
                                  try clear hcz31_2
                                  try clear hcz31_3
                                  try clear hcz31_4
                                  try clear hcz31_5
                                  try clear hcz31_6
                                  try clear hcz31_7
                                  try clear hcz31_8
                                  try clear hcz31_9
                                  try clear hcz34_0
                                  try clear hcz34_1
                                  try clear hcz34_10
                                  try clear hcz34_11
                                  try clear hcz34_12
                                  try clear hcz34_13
                                  try clear hcz34_14
                                  try clear hcz34_15
                                  try clear hcz34_2
                                  try clear hcz34_3
                                  try clear hcz34_4
                                  try clear hcz34_5
                                  try clear hcz34_6
                                  try clear hcz34_7
                                  try clear hcz34_8
                                  try clear hcz34_9
                                  try clear hfz17_0
                                  try clear hfz17_1
                                  try clear hfz17_10
                                  try clear hfz17_11
                                  try clear hfz17_12
                                  try clear hfz17_13
                                  try clear hfz17_14
                                  try clear hfz17_15
                                  try clear hfz17_2
                                  try clear hfz17_3
                                  try clear hfz17_4
                                  try clear hfz17_5
                                  try clear hfz17_6
                                  try clear hfz17_7
                                  try clear hfz17_8
                                  try clear hfz17_9
                                  try clear hfz22_0
                                  try clear hfz22_1
                                  try clear hfz22_10
                                  try clear hfz22_11
                                  try clear hfz22_12
                                  try clear hfz22_13
                                  try clear hfz22_14
                                  try clear hfz22_15
                                  try clear hfz22_2
                                  try clear hfz22_3
                                  try clear hfz22_4
                                  try clear hfz22_5
                                  try clear hfz22_6
                                  try clear hfz22_7
                                  try clear hfz22_8
                                  try clear hfz22_9
                                  try clear hfz25_0
                                  try clear hfz25_1
                                  try clear hfz25_10
                                  try clear hfz25_11
                                  try clear hfz25_12
                                  try clear hfz25_13
                                  try clear hfz25_14
                                  try clear hfz25_15
                                  try clear hfz25_2
                                  try clear hfz25_3
                                  try clear hfz25_4
                                  try clear hfz25_5
                                  try clear hfz25_6
                                  try clear hfz25_7
                                  try clear hfz25_8
                                  try clear hfz25_9
                                  try clear hfz31_0
                                  try clear hfz31_1
                                  try clear hfz31_10
                                  try clear hfz31_11
                                  try clear hfz31_12
                                  try clear hfz31_13
                                  try clear hfz31_14
                                  try clear hfz31_15
                                  try clear hfz31_2
                                  try clear hfz31_3
                                  try clear hfz31_4
                                  try clear hfz31_5
                                  try clear hfz31_6
                                  try clear hfz31_7
                                  try clear hfz31_8
                                  try clear hfz31_9
                                  try clear hfz34_0
                                  try clear hfz34_1
                                  try clear hfz34_10
                                  try clear hfz34_11
                                  try clear hfz34_12
                                  try clear hfz34_13
                                  try clear hfz34_14
                                  try clear hfz34_15
                                  try clear hfz34_2
                                  try clear hfz34_3
                                  try clear hfz34_4
                                  try clear hfz34_5
                                  try clear hfz34_6
                                  try clear hfz34_7
                                  try clear hfz34_8
                                  try clear hfz34_9
                                  try clear p2
                                  try clear p4
                                  try clear p42
                                  try clear p46
                                  try clear p6
                                  try clear q4
                                  try clear q42
                                  try clear q46
                                  obtain ⟨kq, x97_46, rfl, HA, HJ46, HO_265003, HO_265004, HO_265010, BK264, HB⟩ := hcut
                                  cases kq with
                                  | zero => exact absurd HA.out (by simp [fleuronlaw9_SystemDecodes.j5])
                                  | succ kj46 =>
                                    have H := HA.out
                                    clear HA
                                    simp only [fleuronlaw9_SystemDecodes.j5] at H
                                    by_cases c49 : x97_46 = true
                                    · subst c49
                                      have H1 : (some false) = some r := by rw [if_pos rfl] at H; exact H
                                      clear H
                                      have H := H1
                                      clear H1
                                      exact absurd ((Option.some.inj H).trans ht_.out) (by decide)
                                    · replace c49 := Bool.eq_false_iff.mpr c49
                                      subst c49
                                      have H1 : (if a2 = true then (fleuronlaw9_SystemDecodes.l1 kj46 a0 a1 a2 t271 (wrap64 ((wrap64 (x11_5 * a1)) + (wrap64 ((wrap64 ((wrap64 (bt t271 x12_5)) - 97)) + 1)))) (wrap64 (x12_5 + 1))) else (fleuronlaw9_SystemDecodes.l1 kj46 a0 a1 a2 t271 (wrap64 ((wrap64 (x11_5 * a1)) + (wrap64 ((wrap64 (bt t271 x12_5)) - 97)))) (wrap64 (x12_5 + 1)))) = some r := by rw [if_neg (show ¬ (false = true) by decide)] at H; exact H
                                      clear H
                                      have H := H1
                                      clear H1
                                      by_cases c50 : a2 = true
                                      · subst c50
                                        have H1 : (fleuronlaw9_SystemDecodes.l1 kj46 a0 a1 true t271 (wrap64 ((wrap64 (x11_5 * a1)) + (wrap64 ((wrap64 ((wrap64 (bt t271 x12_5)) - 97)) + 1)))) (wrap64 (x12_5 + 1))) = some r := by rw [if_pos rfl] at H; exact H
                                        clear H
                                        have H := H1
                                        clear H1
                                        have H' := Aside0.mk H
                                        clear H
                                        go_wp2
                                        go_roundg kj46
                                        case measure => have := HJ3.out; have := HJ13.out; have := HK3.out; have := HJ32.out; have := HK5.out; have := HJ46.out; omega
                                        case rel => exact ⟨(wrap64 ((wrap64 (x11_5 * a1)) + (wrap64 ((wrap64 ((wrap64 (bt t271 x12_5)) - 97)) + 1)))), (wrap64 (x12_5 + 1)), (by first | rfl | (simp; done) | (simp [*]; done)), (by first | rfl | (simp; done) | (simp [*]; done)), H', ⟨by have := HJ3.out; have := HJ13.out; have := HK3.out; have := HJ32.out; have := HK5.out; have := HJ46.out; omega⟩, ⟨by (with_reducible repeat (first | apply Kd.R_alloc | apply Kd.R_drewN | apply Kd.R_drew)); exact HO_265003.out⟩, ⟨by (with_reducible repeat (first | apply Kd.R_alloc | apply Kd.R_drewN | apply Kd.R_drew)); exact HO_265004.out⟩, ⟨by (with_reducible repeat (first | apply Kd.R_alloc | apply Kd.R_drewN | apply Kd.R_drew)); exact HO_265010.out⟩, ⟨by (with_reducible repeat (first | refine blk_drewN ?_ _ | refine blk_drew ?_ | refine blk_alloc ?_ _)); exact BK264.out⟩, ⟨by repeat (first | (with_reducible first | exact HB.out | apply below_alloc | apply pw_below_drewN | apply below_drew1 | refine below_set ?_ GE264.out) | exact HB.out)⟩⟩
                                      · replace c50 := Bool.eq_false_iff.mpr c50
                                        subst c50
                                        have H1 : (fleuronlaw9_SystemDecodes.l1 kj46 a0 a1 false t271 (wrap64 ((wrap64 (x11_5 * a1)) + (wrap64 ((wrap64 (bt t271 x12_5)) - 97)))) (wrap64 (x12_5 + 1))) = some r := by rw [if_neg (show ¬ (false = true) by decide)] at H; exact H
                                        clear H
                                        have H := H1
                                        clear H1
                                        have H' := Aside0.mk H
                                        clear H
                                        go_wp2
                                        go_roundg kj46
                                        case measure => have := HJ3.out; have := HJ13.out; have := HK3.out; have := HJ32.out; have := HK5.out; have := HJ46.out; omega
                                        case rel => exact ⟨(wrap64 ((wrap64 (x11_5 * a1)) + (wrap64 ((wrap64 (bt t271 x12_5)) - 97)))), (wrap64 (x12_5 + 1)), (by first | rfl | (simp; done) | (simp [*]; done)), (by first | rfl | (simp; done) | (simp [*]; done)), H', ⟨by have := HJ3.out; have := HJ13.out; have := HK3.out; have := HJ32.out; have := HK5.out; have := HJ46.out; omega⟩, ⟨by (with_reducible repeat (first | apply Kd.R_alloc | apply Kd.R_drewN | apply Kd.R_drew)); exact HO_265003.out⟩, ⟨by (with_reducible repeat (first | apply Kd.R_alloc | apply Kd.R_drewN | apply Kd.R_drew)); exact HO_265004.out⟩, ⟨by (with_reducible repeat (first | apply Kd.R_alloc | apply Kd.R_drewN | apply Kd.R_drew)); exact HO_265010.out⟩, ⟨by (with_reducible repeat (first | refine blk_drewN ?_ _ | refine blk_drew ?_ | refine blk_alloc ?_ _)); exact BK264.out⟩, ⟨by repeat (first | (with_reducible first | exact HB.out | apply below_alloc | apply pw_below_drewN | apply below_drew1 | refine below_set ?_ GE264.out) | exact HB.out)⟩⟩
                              · rw [if_neg c45] at H
                                exact absurd H (by simp)
                            · rw [if_neg c44] at H
                              have c44b0 : decide (x12_5 < (t271.size : Int)) = false := decide_eq_false c44
                              clear c44
                              by_cases c51 : x11_5 = a0
                              · rw [if_pos c51] at H
                                have c51b0 : (x11_5 == a0) = true := beq_iff_eq.mpr c51
                                have c51b1 : (x11_5 != a0) = false := bne_eq_false_iff_eq.mpr c51
                                clear c51
                                replace H := Option.bind_eq_some_iff.mp H
                                obtain ⟨t273, A520, H⟩ := H
                                replace H : (some t273) = some r := H
                                have A52 := Aside0.mk A520
                                clear A520
                                obtain rfl := Option.some.inj H
                                go_wp2_with (first | (go_at_call 10; (with_reducible refine (fleuronlaw9_awake.calls  t273 _ A52.out ht_.out).mono ?_); rintro e w53 ⟨rfl, hb⟩; have n0_ := Aside0.mk (Kd.R_below (by (with_reducible repeat (first | apply Kd.R_alloc | apply Kd.R_drewN | apply Kd.R_drew)); exact HO_265003.out) hb); have n1_ := Aside0.mk (Kd.R_below (by (with_reducible repeat (first | apply Kd.R_alloc | apply Kd.R_drewN | apply Kd.R_drew)); exact HO_265004.out) hb); have n2_ := Aside0.mk (Kd.R_below (by (with_reducible repeat (first | apply Kd.R_alloc | apply Kd.R_drewN | apply Kd.R_drew)); exact HO_265010.out) hb); have n3_ := Aside0.mk (blk_below (g := gb264) (o := .cells #[.string t242, .string x265001_13, .int .i64 t244, .slice Ao35 x265003_3.length co35, .slice Ao19 t248.length co19, .string t251, .string t252, .string t253, .string t254, .bool t255, .slice Ao20 t256.length co20, .int .i64 t259, .string t260, .string t261, .string t262, .int .i64 t263] 27 (0, 0)) (by (with_reducible repeat (first | refine blk_drewN ?_ _ | refine blk_drew ?_ | refine blk_alloc ?_ _)); exact BK264.out) hb); have n4_ := Aside0.mk (below_step (by repeat (first | (with_reducible first | exact HB.out | apply below_alloc | apply pw_below_drewN | apply below_drew1 | refine below_set ?_ GE264.out) | exact HB.out)) hb); clear HO_265003; clear HO_265004; clear HO_265010; clear BK264; clear HB; have HO_265003 := n0_; have HO_265004 := n1_; have HO_265010 := n2_; have BK264 := n3_; have HB := n4_; clear n0_ n1_ n2_ n3_ n4_; (try clear hb); (try clear hb2); (try clear hk); (try clear hi)))
                                go_ret
                                exact ⟨by first | rfl | (simp [errW_none, errW_some] <;> rfl) | (simp [*, errW_none, errW_some] <;> rfl), by repeat (first | (with_reducible first | exact HB.out | apply below_alloc | apply pw_below_drewN | apply below_drew1 | refine below_set ?_ GE264.out) | exact HB.out)⟩
                              · rw [if_neg c51] at H
                                have c51b0 : (x11_5 == a0) = false := beq_eq_false_iff_ne.mpr c51
                                have c51b1 : (x11_5 != a0) = true := bne_iff_ne.mpr c51
                                exact absurd ((Option.some.inj H).trans ht_.out) (by decide)

/-- THE ONE PURE STATEMENT of fleuronlaw9_SystemDecodes: yours. -/
def fleuronlaw9_SystemDecodes.Pure : Prop := ∀ (a0 : Int) (a1 : Int) (a2 : Bool), (Lit.int .i64 a0).wf = true → (Lit.int .i64 a1).wf = true → ∃ k, fleuronlaw9_SystemDecodes.f k a0 a1 a2 = some true
theorem fleuronlaw9_SystemDecodes.walk (P : fleuronlaw9_SystemDecodes.Pure) (a0 : Int) (a1 : Int) (a2 : Bool) (w : World) (w0 : (Lit.int .i64 a0).wf = true) (w1 : (Lit.int .i64 a1).wf = true) :
    Calls Try.prog 5 #[.int .i64 a0, .int .i64 a1, .bool a2] w fun e w' => e = .returned (.bool true) ∧ Below w.heap.size w w' := by
  obtain ⟨k, h⟩ := P a0 a1 a2 w0 w1
  refine (fleuronlaw9_SystemDecodes.calls k a0 a1 a2 true w h rfl).mono ?_
  rintro e w' ⟨rfl, hd⟩
  exact ⟨rfl, hd⟩

end Go.Proofs.Ytalegejfellbdaa.Print
