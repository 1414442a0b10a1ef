/- Written by a program of this session out of the translation, with contracts given by hand beside. -/
import Derived.Test.YtalegejfellbdaaPrint0
import Derived.Test.YtalegejfellbdaaPrint5
import Derived.Test.YtalegejfellbdaaPrint11
import Derived.Test.YtalegejfellbdaaPrint12
import Derived.Test.YtalegejfellbdaaPrint15
import Derived.Test.YtalegejfellbdaaPrint18
namespace Go.Proofs.Ytalegejfellbdaa.Print
open Go.RowKit Go.Proofs.YtalegejfellbdaaW.PrintWords Go.Proofs.YtalegejfellbdaaW.PrintLast Go.Proofs.YtalegejfellbdaaW.PrintMore
attribute [local go_sem] max2_int min2_int max_two min_two max_three min_three max_four min_four   -- for this text's walks alone
set_option linter.unusedVariables false
set_option linter.unusedSimpArgs false

/-! ### fleuronlaw9_SystemAdds: function 7 -/
mutual
def fleuronlaw9_SystemAdds.j0 : Nat → List Int → Int → Bool → Option (Bool)
  | 0, _, _, _ => none
  | k + 1, x0, x1, x28 => if x28 = true then ((fleuronlaw9_awake.f).bind fun t378 => (some t378)) else ((fleuronlaw9_made.f (⟨#[97, 100, 100, 105, 116, 105, 118, 101]⟩ : ByteArray) ([] : List ByteArray)).bind fun bt379 => (fleuronlaw9_SystemAdds.l0 k x0 x1 0 0 bt379.1 bt379.2.1 bt379.2.2.1 bt379.2.2.2.1 bt379.2.2.2.2.1 bt379.2.2.2.2.2.1 bt379.2.2.2.2.2.2.1 bt379.2.2.2.2.2.2.2.1 bt379.2.2.2.2.2.2.2.2.1 bt379.2.2.2.2.2.2.2.2.2.1 bt379.2.2.2.2.2.2.2.2.2.2.1 bt379.2.2.2.2.2.2.2.2.2.2.2.1 bt379.2.2.2.2.2.2.2.2.2.2.2.2.1 bt379.2.2.2.2.2.2.2.2.2.2.2.2.2.1 bt379.2.2.2.2.2.2.2.2.2.2.2.2.2.2.1 bt379.2.2.2.2.2.2.2.2.2.2.2.2.2.2.2))
def fleuronlaw9_SystemAdds.l0 : Nat → List Int → Int → Int → Int → ByteArray → ByteArray → Int → List ByteArray → List Int → ByteArray → ByteArray → ByteArray → ByteArray → Bool → List (S41) → Int → ByteArray → ByteArray → ByteArray → Int → Option (Bool)
  | 0, _, _, _, _, _, _, _, _, _, _, _, _, _, _, _, _, _, _, _, _ => none
  | k + 1, x0, x1, x6, x7, x402000, x402001, x402002, x402003, x402004, x402005, x402006, x402007, x402008, x402009, x402010, x402011, x402012, x402013, x402014, x402015 => if x7 < (x0.length : Int) then (if 0 ≤ x7 then ((fleuronalike_Round.f (rd x0 x7) 1000).bind fun t403 => ((some (([wrap64 ((wrap64 (x6 + 1)) + t403)] : List Int) : List Int)).bind fun y404 => (if y404.length + x402004.length < 17592186044416 then ((some (([strOfNums (([(wrap64 (97 + x7)) % 256] : List Int))] : List ByteArray) : List ByteArray)).bind fun y413 => (if y413.length + x402003.length < 8796093022208 then (fleuronlaw9_SystemAdds.l0 k x0 x1 (wrap64 ((wrap64 (x6 + 1)) + t403)) (wrap64 (x7 + 1)) x402000 x402001 x402002 (y413 ++ x402003) (y404 ++ x402004) x402005 x402006 x402007 x402008 x402009 x402010 x402011 x402012 x402013 x402014 x402015) else (none))) else (none)))) else (none)) else ((system_Signs.f k x402000 x402001 x402002 x402003 x402004 x402005 x402006 x402007 x402008 x402009 x402010 x402011 x402012 x402013 x402014 x402015 x1).bind fun bt419 => ((system_May.f k x402000 x402001 x402002 x402003 x402004 x402005 x402006 x402007 x402008 x402009 x402010 x402011 x402012 x402013 x402014 x402015).bind fun t421 => (if t421 = true then (fleuronlaw9_SystemAdds.l1 k bt419.1 bt419.2 x1 (⟨#[]⟩ : ByteArray) 0 x402000 x402001 x402002 x402003 x402004 x402005 x402006 x402007 x402008 x402009 x402010 x402011 x402012 x402013 x402014 x402015) else (some false))))
def fleuronlaw9_SystemAdds.l1 : Nat → ByteArray → Bool → Int → ByteArray → Int → ByteArray → ByteArray → Int → List ByteArray → List Int → ByteArray → ByteArray → ByteArray → ByteArray → Bool → List (S41) → Int → ByteArray → ByteArray → ByteArray → Int → Option (Bool)
  | 0, _, _, _, _, _, _, _, _, _, _, _, _, _, _, _, _, _, _, _, _, _ => none
  | k + 1, x8, x9, x10, x11, x12, x402000, x402001, x402002, x402003, x402004, x402005, x402006, x402007, x402008, x402009, x402010, x402011, x402012, x402013, x402014, x402015 => if x12 < (x402004.length : Int) then (fleuronlaw9_SystemAdds.l2 k x8 x9 x10 x11 x12 x402000 x402001 x402002 x402003 x402004 x402005 x402006 x402007 x402008 x402009 x402010 x402011 x402012 x402013 x402014 x402015) else (if x10 > 0 then (fleuronlaw9_SystemAdds.j4 k x8 x9 x11 true) else (fleuronlaw9_SystemAdds.j4 k x8 x9 x11 (decide ((x11.size : Int) > 60))))
def fleuronlaw9_SystemAdds.l2 : Nat → ByteArray → Bool → Int → ByteArray → Int → ByteArray → ByteArray → Int → List ByteArray → List Int → ByteArray → ByteArray → ByteArray → ByteArray → Bool → List (S41) → Int → ByteArray → ByteArray → ByteArray → Int → Option (Bool)
  | 0, _, _, _, _, _, _, _, _, _, _, _, _, _, _, _, _, _, _, _, _, _ => none
  | k + 1, x8, x9, x10, x11, x12, x402000, x402001, x402002, x402003, x402004, x402005, x402006, x402007, x402008, x402009, x402010, x402011, x402012, x402013, x402014, x402015 => if 0 ≤ x12 then (if x12 < (x402004.length : Int) then (if x10 ≥ (rd x402004 x12) then (if (x11.size : Int) ≤ 60 then (if x12 < (x402003.length : Int) then (if x11.size + (rdOf ByteArray.empty x402003 x12).size ≤ 9223372036854775807 then (fleuronlaw9_SystemAdds.l2 k x8 x9 (wrap64 (x10 - (rd x402004 x12))) (x11 ++ (rdOf ByteArray.empty x402003 x12)) x12 x402000 x402001 x402002 x402003 x402004 x402005 x402006 x402007 x402008 x402009 x402010 x402011 x402012 x402013 x402014 x402015) else (none)) else (none)) else (fleuronlaw9_SystemAdds.l1 k x8 x9 x10 x11 (wrap64 (x12 + 1)) x402000 x402001 x402002 x402003 x402004 x402005 x402006 x402007 x402008 x402009 x402010 x402011 x402012 x402013 x402014 x402015)) else (fleuronlaw9_SystemAdds.l1 k x8 x9 x10 x11 (wrap64 (x12 + 1)) x402000 x402001 x402002 x402003 x402004 x402005 x402006 x402007 x402008 x402009 x402010 x402011 x402012 x402013 x402014 x402015)) else (none)) else (none)
def fleuronlaw9_SystemAdds.j4 : Nat → ByteArray → Bool → ByteArray → Bool → Option (Bool)
  | 0, _, _, _, _ => none
  | k + 1, x8, x9, x11, x110 => if x110 = true then (if x9 = true then (some false) else (if x8.toList = ([] : List UInt8) then ((fleuronlaw9_awake.f).bind fun t425 => (some t425)) else (some false))) else (if x9 = true then (if x8.toList = x11.toList then ((fleuronlaw9_awake.f).bind fun t426 => (some t426)) else (some false)) else (some false))
end
def fleuronlaw9_SystemAdds.f (k : Nat) (l0 : List Int) (a1 : Int) : Option (Bool) := if (l0.length : Int) < 1 then (fleuronlaw9_SystemAdds.j0 k l0 a1 true) else (if (l0.length : Int) > 12 then (fleuronlaw9_SystemAdds.j0 k l0 a1 true) else (if a1 < 1 then (fleuronlaw9_SystemAdds.j0 k l0 a1 true) else (fleuronlaw9_SystemAdds.j0 k l0 a1 (decide (a1 > 2147483648)))))
theorem fleuronlaw9_SystemAdds.mono_l : ∀ k, (∀ y0 y1 y2, LeO (fleuronlaw9_SystemAdds.j0 k y0 y1 y2) (fleuronlaw9_SystemAdds.j0 (k + 1) y0 y1 y2)) ∧ (∀ y0 y1 y2 y3 y4 y5 y6 y7 y8 y9 y10 y11 y12 y13 y14 y15 y16 y17 y18 y19, LeO (fleuronlaw9_SystemAdds.l0 k y0 y1 y2 y3 y4 y5 y6 y7 y8 y9 y10 y11 y12 y13 y14 y15 y16 y17 y18 y19) (fleuronlaw9_SystemAdds.l0 (k + 1) y0 y1 y2 y3 y4 y5 y6 y7 y8 y9 y10 y11 y12 y13 y14 y15 y16 y17 y18 y19)) ∧ (∀ y0 y1 y2 y3 y4 y5 y6 y7 y8 y9 y10 y11 y12 y13 y14 y15 y16 y17 y18 y19 y20, LeO (fleuronlaw9_SystemAdds.l1 k y0 y1 y2 y3 y4 y5 y6 y7 y8 y9 y10 y11 y12 y13 y14 y15 y16 y17 y18 y19 y20) (fleuronlaw9_SystemAdds.l1 (k + 1) y0 y1 y2 y3 y4 y5 y6 y7 y8 y9 y10 y11 y12 y13 y14 y15 y16 y17 y18 y19 y20)) ∧ (∀ y0 y1 y2 y3 y4 y5 y6 y7 y8 y9 y10 y11 y12 y13 y14 y15 y16 y17 y18 y19 y20, LeO (fleuronlaw9_SystemAdds.l2 k y0 y1 y2 y3 y4 y5 y6 y7 y8 y9 y10 y11 y12 y13 y14 y15 y16 y17 y18 y19 y20) (fleuronlaw9_SystemAdds.l2 (k + 1) y0 y1 y2 y3 y4 y5 y6 y7 y8 y9 y10 y11 y12 y13 y14 y15 y16 y17 y18 y19 y20)) ∧ (∀ y0 y1 y2 y3, LeO (fleuronlaw9_SystemAdds.j4 k y0 y1 y2 y3) (fleuronlaw9_SystemAdds.j4 (k + 1) y0 y1 y2 y3))
  | 0 => ⟨fun _ _ _ r h => by simp [fleuronlaw9_SystemAdds.j0] at h, fun _ _ _ _ _ _ _ _ _ _ _ _ _ _ _ _ _ _ _ _ r h => by simp [fleuronlaw9_SystemAdds.l0] at h, fun _ _ _ _ _ _ _ _ _ _ _ _ _ _ _ _ _ _ _ _ _ r h => by simp [fleuronlaw9_SystemAdds.l1] at h, fun _ _ _ _ _ _ _ _ _ _ _ _ _ _ _ _ _ _ _ _ _ r h => by simp [fleuronlaw9_SystemAdds.l2] at h, fun _ _ _ _ r h => by simp [fleuronlaw9_SystemAdds.j4] at h⟩
  | k + 1 => by
    obtain ⟨ih0, ih1, ih2, ih3, ih4⟩ := fleuronlaw9_SystemAdds.mono_l k
    refine ⟨?_, ?_, ?_, ?_, ?_⟩
    · intro y0 y1 y2
      unfold fleuronlaw9_SystemAdds.j0
      repeat' first
      | (with_reducible exact ih0 _ _ _)
      | (with_reducible exact ih1 _ _ _ _ _ _ _ _ _ _ _ _ _ _ _ _ _ _ _ _)
      | (with_reducible exact ih2 _ _ _ _ _ _ _ _ _ _ _ _ _ _ _ _ _ _ _ _ _)
      | (with_reducible exact ih3 _ _ _ _ _ _ _ _ _ _ _ _ _ _ _ _ _ _ _ _ _)
      | (with_reducible exact ih4 _ _ _ _)
      | (with_reducible exact system_May.mono _ _ _ _ _ _ _ _ _ _ _ _ _ _ _ _ _)
      | (with_reducible exact system_Signs.mono _ _ _ _ _ _ _ _ _ _ _ _ _ _ _ _ _ _)
      | (with_reducible exact LeO.refl _)
      | (with_reducible exact LeO.none _)
      | (with_reducible refine LeO.ite ?_ ?_)
      | (with_reducible refine LeO.bind ?_ (fun _ => ?_))
      | exact ih0 _ _ _
      | exact ih1 _ _ _ _ _ _ _ _ _ _ _ _ _ _ _ _ _ _ _ _
      | exact ih2 _ _ _ _ _ _ _ _ _ _ _ _ _ _ _ _ _ _ _ _ _
      | exact ih3 _ _ _ _ _ _ _ _ _ _ _ _ _ _ _ _ _ _ _ _ _
      | exact ih4 _ _ _ _
      | exact system_May.mono _ _ _ _ _ _ _ _ _ _ _ _ _ _ _ _ _
      | exact system_Signs.mono _ _ _ _ _ _ _ _ _ _ _ _ _ _ _ _ _ _
      | exact LeO.none _
      | refine LeO.ite ?_ ?_
      | refine LeO.bind ?_ (fun _ => ?_)
    · intro y0 y1 y2 y3 y4 y5 y6 y7 y8 y9 y10 y11 y12 y13 y14 y15 y16 y17 y18 y19
      unfold fleuronlaw9_SystemAdds.l0
      repeat' first
      | (with_reducible exact ih0 _ _ _)
      | (with_reducible exact ih1 _ _ _ _ _ _ _ _ _ _ _ _ _ _ _ _ _ _ _ _)
      | (with_reducible exact ih2 _ _ _ _ _ _ _ _ _ _ _ _ _ _ _ _ _ _ _ _ _)
      | (with_reducible exact ih3 _ _ _ _ _ _ _ _ _ _ _ _ _ _ _ _ _ _ _ _ _)
      | (with_reducible exact ih4 _ _ _ _)
      | (with_reducible exact system_May.mono _ _ _ _ _ _ _ _ _ _ _ _ _ _ _ _ _)
      | (with_reducible exact system_Signs.mono _ _ _ _ _ _ _ _ _ _ _ _ _ _ _ _ _ _)
      | (with_reducible exact LeO.refl _)
      | (with_reducible exact LeO.none _)
      | (with_reducible refine LeO.ite ?_ ?_)
      | (with_reducible refine LeO.bind ?_ (fun _ => ?_))
      | exact ih0 _ _ _
      | exact ih1 _ _ _ _ _ _ _ _ _ _ _ _ _ _ _ _ _ _ _ _
      | exact ih2 _ _ _ _ _ _ _ _ _ _ _ _ _ _ _ _ _ _ _ _ _
      | exact ih3 _ _ _ _ _ _ _ _ _ _ _ _ _ _ _ _ _ _ _ _ _
      | exact ih4 _ _ _ _
      | exact system_May.mono _ _ _ _ _ _ _ _ _ _ _ _ _ _ _ _ _
      | exact system_Signs.mono _ _ _ _ _ _ _ _ _ _ _ _ _ _ _ _ _ _
      | exact LeO.none _
      | refine LeO.ite ?_ ?_
      | refine LeO.bind ?_ (fun _ => ?_)
    · intro y0 y1 y2 y3 y4 y5 y6 y7 y8 y9 y10 y11 y12 y13 y14 y15 y16 y17 y18 y19 y20
      unfold fleuronlaw9_SystemAdds.l1
      repeat' first
      | (with_reducible exact ih0 _ _ _)
      | (with_reducible exact ih1 _ _ _ _ _ _ _ _ _ _ _ _ _ _ _ _ _ _ _ _)
      | (with_reducible exact ih2 _ _ _ _ _ _ _ _ _ _ _ _ _ _ _ _ _ _ _ _ _)
      | (with_reducible exact ih3 _ _ _ _ _ _ _ _ _ _ _ _ _ _ _ _ _ _ _ _ _)
      | (with_reducible exact ih4 _ _ _ _)
      | (with_reducible exact system_May.mono _ _ _ _ _ _ _ _ _ _ _ _ _ _ _ _ _)
      | (with_reducible exact system_Signs.mono _ _ _ _ _ _ _ _ _ _ _ _ _ _ _ _ _ _)
      | (with_reducible exact LeO.refl _)
      | (with_reducible exact LeO.none _)
      | (with_reducible refine LeO.ite ?_ ?_)
      | (with_reducible refine LeO.bind ?_ (fun _ => ?_))
      | exact ih0 _ _ _
      | exact ih1 _ _ _ _ _ _ _ _ _ _ _ _ _ _ _ _ _ _ _ _
      | exact ih2 _ _ _ _ _ _ _ _ _ _ _ _ _ _ _ _ _ _ _ _ _
      | exact ih3 _ _ _ _ _ _ _ _ _ _ _ _ _ _ _ _ _ _ _ _ _
      | exact ih4 _ _ _ _
      | exact system_May.mono _ _ _ _ _ _ _ _ _ _ _ _ _ _ _ _ _
      | exact system_Signs.mono _ _ _ _ _ _ _ _ _ _ _ _ _ _ _ _ _ _
      | exact LeO.none _
      | refine LeO.ite ?_ ?_
      | refine LeO.bind ?_ (fun _ => ?_)
    · intro y0 y1 y2 y3 y4 y5 y6 y7 y8 y9 y10 y11 y12 y13 y14 y15 y16 y17 y18 y19 y20
      unfold fleuronlaw9_SystemAdds.l2
      repeat' first
      | (with_reducible exact ih0 _ _ _)
      | (with_reducible exact ih1 _ _ _ _ _ _ _ _ _ _ _ _ _ _ _ _ _ _ _ _)
      | (with_reducible exact ih2 _ _ _ _ _ _ _ _ _ _ _ _ _ _ _ _ _ _ _ _ _)
      | (with_reducible exact ih3 _ _ _ _ _ _ _ _ _ _ _ _ _ _ _ _ _ _ _ _ _)
      | (with_reducible exact ih4 _ _ _ _)
      | (with_reducible exact system_May.mono _ _ _ _ _ _ _ _ _ _ _ _ _ _ _ _ _)
      | (with_reducible exact system_Signs.mono _ _ _ _ _ _ _ _ _ _ _ _ _ _ _ _ _ _)
      | (with_reducible exact LeO.refl _)
      | (with_reducible exact LeO.none _)
      | (with_reducible refine LeO.ite ?_ ?_)
      | (with_reducible refine LeO.bind ?_ (fun _ => ?_))
      | exact ih0 _ _ _
      | exact ih1 _ _ _ _ _ _ _ _ _ _ _ _ _ _ _ _ _ _ _ _
      | exact ih2 _ _ _ _ _ _ _ _ _ _ _ _ _ _ _ _ _ _ _ _ _
      | exact ih3 _ _ _ _ _ _ _ _ _ _ _ _ _ _ _ _ _ _ _ _ _
      | exact ih4 _ _ _ _
      | exact system_May.mono _ _ _ _ _ _ _ _ _ _ _ _ _ _ _ _ _
      | exact system_Signs.mono _ _ _ _ _ _ _ _ _ _ _ _ _ _ _ _ _ _
      | exact LeO.none _
      | refine LeO.ite ?_ ?_
      | refine LeO.bind ?_ (fun _ => ?_)
    · intro y0 y1 y2 y3
      unfold fleuronlaw9_SystemAdds.j4
      repeat' first
      | (with_reducible exact ih0 _ _ _)
      | (with_reducible exact ih1 _ _ _ _ _ _ _ _ _ _ _ _ _ _ _ _ _ _ _ _)
      | (with_reducible exact ih2 _ _ _ _ _ _ _ _ _ _ _ _ _ _ _ _ _ _ _ _ _)
      | (with_reducible exact ih3 _ _ _ _ _ _ _ _ _ _ _ _ _ _ _ _ _ _ _ _ _)
      | (with_reducible exact ih4 _ _ _ _)
      | (with_reducible exact system_May.mono _ _ _ _ _ _ _ _ _ _ _ _ _ _ _ _ _)
      | (with_reducible exact system_Signs.mono _ _ _ _ _ _ _ _ _ _ _ _ _ _ _ _ _ _)
      | (with_reducible exact LeO.refl _)
      | (with_reducible exact LeO.none _)
      | (with_reducible refine LeO.ite ?_ ?_)
      | (with_reducible refine LeO.bind ?_ (fun _ => ?_))
      | exact ih0 _ _ _
      | exact ih1 _ _ _ _ _ _ _ _ _ _ _ _ _ _ _ _ _ _ _ _
      | exact ih2 _ _ _ _ _ _ _ _ _ _ _ _ _ _ _ _ _ _ _ _ _
      | exact ih3 _ _ _ _ _ _ _ _ _ _ _ _ _ _ _ _ _ _ _ _ _
      | exact ih4 _ _ _ _
      | exact system_May.mono _ _ _ _ _ _ _ _ _ _ _ _ _ _ _ _ _
      | exact system_Signs.mono _ _ _ _ _ _ _ _ _ _ _ _ _ _ _ _ _ _
      | exact LeO.none _
      | refine LeO.ite ?_ ?_
      | refine LeO.bind ?_ (fun _ => ?_)
theorem fleuronlaw9_SystemAdds.mono : ∀ a0 a1 k, LeO (fleuronlaw9_SystemAdds.f k a0 a1) (fleuronlaw9_SystemAdds.f (k + 1) a0 a1) := by
  intro a0 a1 k
  obtain ⟨ih0, ih1, ih2, ih3, ih4⟩ := fleuronlaw9_SystemAdds.mono_l k
  unfold fleuronlaw9_SystemAdds.f
  repeat' first
      | (with_reducible exact ih0 _ _ _)
      | (with_reducible exact ih1 _ _ _ _ _ _ _ _ _ _ _ _ _ _ _ _ _ _ _ _)
      | (with_reducible exact ih2 _ _ _ _ _ _ _ _ _ _ _ _ _ _ _ _ _ _ _ _ _)
      | (with_reducible exact ih3 _ _ _ _ _ _ _ _ _ _ _ _ _ _ _ _ _ _ _ _ _)
      | (with_reducible exact ih4 _ _ _ _)
      | (with_reducible exact system_May.mono _ _ _ _ _ _ _ _ _ _ _ _ _ _ _ _ _)
      | (with_reducible exact system_Signs.mono _ _ _ _ _ _ _ _ _ _ _ _ _ _ _ _ _ _)
      | (with_reducible exact LeO.refl _)
      | (with_reducible exact LeO.none _)
      | (with_reducible refine LeO.ite ?_ ?_)
      | (with_reducible refine LeO.bind ?_ (fun _ => ?_))
      | exact ih0 _ _ _
      | exact ih1 _ _ _ _ _ _ _ _ _ _ _ _ _ _ _ _ _ _ _ _
      | exact ih2 _ _ _ _ _ _ _ _ _ _ _ _ _ _ _ _ _ _ _ _ _
      | exact ih3 _ _ _ _ _ _ _ _ _ _ _ _ _ _ _ _ _ _ _ _ _
      | exact ih4 _ _ _ _
      | exact system_May.mono _ _ _ _ _ _ _ _ _ _ _ _ _ _ _ _ _
      | exact system_Signs.mono _ _ _ _ _ _ _ _ _ _ _ _ _ _ _ _ _ _
      | exact LeO.none _
      | refine LeO.ite ?_ ?_
      | refine LeO.bind ?_ (fun _ => ?_)
set_option maxHeartbeats 8000000 in
set_option maxRecDepth 100000 in
theorem fleuronlaw9_SystemAdds.calls (k : Nat) (A0 : Option Addr) (c0 : Nat) (l0 : List Int) (a1 : Int) (r : Bool) (w : World) (hr0 : Kd.C (Kd.int .i64) w A0 l0.length l0) (hc0 : l0.length ≤ c0) (h : fleuronlaw9_SystemAdds.f k l0 a1 = some r) (ht0_ : r = true) :
    Calls Try.prog 7 #[.slice A0 l0.length c0, .int .i64 a1] w fun e w' => e = .returned (.bool r) ∧ Below w.heap.size w w' := by
  have hu27 := Try.underlying27
  have HR0 := Aside0.mk hr0
  have HC0 := Aside0.mk hc0
  clear hr0 hc0
  have HB := Aside0.mk (Below.refl w.heap.size w)
  have H : (if (l0.length : Int) < 1 then (fleuronlaw9_SystemAdds.j0 k l0 a1 true) else (if (l0.length : Int) > 12 then (fleuronlaw9_SystemAdds.j0 k l0 a1 true) else (if a1 < 1 then (fleuronlaw9_SystemAdds.j0 k l0 a1 true) else (fleuronlaw9_SystemAdds.j0 k l0 a1 (decide (a1 > 2147483648)))))) = some r := h
  clear h
  have ht_ := Aside0.mk ht0_
  clear ht0_
  have HC3 := Aside0.mk H
  clear H
  go_enter Try.func7, Try.ntmps7
  go_upto_region 1 with (fail)
  go_cut [28] (fun v28 wc => ∃ (kq : Nat) (x28_2 : Bool), v28 = .bool x28_2 ∧ Aside0 (fleuronlaw9_SystemAdds.j0 kq l0 a1 x28_2 = some r) ∧ Aside0 (kq ≤ k) ∧ Aside0 (Below w.heap.size w wc))
  case first =>
    have H := HC3.out
    clear HC3
    by_cases c4 : (l0.length : Int) < 1
    · rw [if_pos c4] at H
      have c4b0 : decide ((l0.length : Int) < 1) = true := decide_eq_true c4
      have c4b1 : decide (l0.length < 1) = true := decide_eq_true (by omega)
      clear c4
      (first | rw [c4b0] | (simp only [i64_w, i32_w]; rw [c4b0]) | skip)
      have H' := Aside0.mk H
      clear H
      go_wp2
      go_meet
      case rel => exact ⟨_, (true), (by first | rfl | (simp; done) | (simp [*]; done)), H', ⟨by first | omega | exact Nat.le_refl _⟩, ⟨by repeat (first | (with_reducible first | exact HB.out | apply below_alloc | apply pw_below_drewN | apply below_drew1) | exact HB.out)⟩⟩
    · rw [if_neg c4] at H
      have c4b0 : decide ((l0.length : Int) < 1) = false := decide_eq_false c4
      have c4b1 : decide (l0.length < 1) = false := decide_eq_false (by omega)
      clear c4
      (first | rw [c4b0] | (simp only [i64_w, i32_w]; rw [c4b0]) | skip)
      by_cases c5 : (l0.length : Int) > 12
      · rw [if_pos c5] at H
        have c5b0 : decide (12 < (l0.length : Int)) = true := decide_eq_true c5
        have c5b1 : decide (12 < l0.length) = true := decide_eq_true (by omega)
        clear c5
        have H' := Aside0.mk H
        clear H
        go_wp2
        go_meet
        case rel => exact ⟨_, (true), (by first | rfl | (simp; done) | (simp [*]; done)), H', ⟨by first | omega | exact Nat.le_refl _⟩, ⟨by repeat (first | (with_reducible first | exact HB.out | apply below_alloc | apply pw_below_drewN | apply below_drew1) | exact HB.out)⟩⟩
      · rw [if_neg c5] at H
        have c5b0 : decide (12 < (l0.length : Int)) = false := decide_eq_false c5
        have c5b1 : decide (12 < l0.length) = false := decide_eq_false (by omega)
        clear c5
        by_cases c6 : a1 < 1
        · rw [if_pos c6] at H
          have c6b0 : decide (a1 < 1) = true := decide_eq_true c6
          clear c6
          have H' := Aside0.mk H
          clear H
          go_wp2
          go_meet
          case rel => exact ⟨_, (true), (by first | rfl | (simp; done) | (simp [*]; done)), H', ⟨by first | omega | exact Nat.le_refl _⟩, ⟨by repeat (first | (with_reducible first | exact HB.out | apply below_alloc | apply pw_below_drewN | apply below_drew1) | exact HB.out)⟩⟩
        · rw [if_neg c6] at H
          have c6b0 : decide (a1 < 1) = false := decide_eq_false c6
          clear c6
          have H' := Aside0.mk H
          clear H
          go_wp2
          go_meet
          case rel => exact ⟨_, (decide (a1 > 2147483648)), (by first | rfl | (simp; done) | (simp [*]; done)), H', ⟨by first | omega | exact Nat.le_refl _⟩, ⟨by repeat (first | (with_reducible first | exact HB.out | apply below_alloc | apply pw_below_drewN | apply below_drew1) | exact HB.out)⟩⟩
  case rest =>
    clear HC3
    try clear p2
    try clear c4
    try clear c4b0
    try clear c4b1
    try clear c5
    try clear c5b0
    try clear c5b1
    try clear c6
    try clear c6b0
    obtain ⟨kq, x28_2, rfl, HA, HJ2, HB⟩ := hcut
    cases kq with
    | zero => exact absurd HA.out (by simp [fleuronlaw9_SystemAdds.j0])
    | succ kj2 =>
      have H := HA.out
      clear HA
      simp only [fleuronlaw9_SystemAdds.j0] at H
      by_cases c7 : x28_2 = true
      · subst c7
        have H1 : ((fleuronlaw9_awake.f).bind fun t378 => (some t378)) = some r := by rw [if_pos rfl] at H; exact H
        clear H
        have H := H1
        clear H1
        replace H := Option.bind_eq_some_iff.mp H
        obtain ⟨t378, A80, H⟩ := H
        replace H : (some t378) = some r := H
        have A8 := Aside0.mk A80
        clear A80
        obtain rfl := Option.some.inj H
        go_wp2_with (first | ((with_reducible refine gate_callee (f := 10) rfl ?_); refine goesL_ (some 29) rfl rfl Try.func10 (by kernel_rfl) rfl #[] rfl (by (try simp only [List.map_toArray, List.map_cons, List.map_nil]); first | done | rfl | (simp only [List.length_drop, List.length_take]; rfl)) ?_; (with_reducible refine (fleuronlaw9_awake.calls  t378 _ A8.out ht_.out).mono ?_); rintro e w9 ⟨rfl, hb⟩; refine ⟨_, rfl, ?_⟩; have n0_ := Aside0.mk (below_step (by repeat (first | (with_reducible first | exact HB.out | apply below_alloc | apply pw_below_drewN | apply below_drew1) | exact HB.out)) hb); clear HB; have HB := n0_; clear n0_; (try clear hb); (try clear hb2); (try clear hk); (try clear hi)))
        go_ret
        exact ⟨by first | rfl | (simp [errW_none, errW_some] <;> rfl) | (simp [*, errW_none, errW_some] <;> rfl), by repeat (first | (with_reducible first | exact HB.out | apply below_alloc | apply pw_below_drewN | apply below_drew1) | exact HB.out)⟩
      · replace c7 := Bool.eq_false_iff.mpr c7
        subst c7
        have H1 : ((fleuronlaw9_made.f (⟨#[97, 100, 100, 105, 116, 105, 118, 101]⟩ : ByteArray) ([] : List ByteArray)).bind fun bt379 => (fleuronlaw9_SystemAdds.l0 kj2 l0 a1 0 0 bt379.1 bt379.2.1 bt379.2.2.1 bt379.2.2.2.1 bt379.2.2.2.2.1 bt379.2.2.2.2.2.1 bt379.2.2.2.2.2.2.1 bt379.2.2.2.2.2.2.2.1 bt379.2.2.2.2.2.2.2.2.1 bt379.2.2.2.2.2.2.2.2.2.1 bt379.2.2.2.2.2.2.2.2.2.2.1 bt379.2.2.2.2.2.2.2.2.2.2.2.1 bt379.2.2.2.2.2.2.2.2.2.2.2.2.1 bt379.2.2.2.2.2.2.2.2.2.2.2.2.2.1 bt379.2.2.2.2.2.2.2.2.2.2.2.2.2.2.1 bt379.2.2.2.2.2.2.2.2.2.2.2.2.2.2.2)) = some r := by rw [if_neg (show ¬ (false = true) by decide)] at H; exact H
        clear H
        have H := H1
        clear H1
        replace H := Option.bind_eq_some_iff.mp H
        obtain ⟨⟨t379, t380, t381, t382, t385, t388, t389, t390, t391, t392, t393, t396, t397, t398, t399, t400⟩, A100, H⟩ := H
        replace H : (fleuronlaw9_SystemAdds.l0 kj2 l0 a1 0 0 t379 t380 t381 t382 t385 t388 t389 t390 t391 t392 t393 t396 t397 t398 t399 t400) = some r := H
        have A10 := Aside0.mk A100
        clear A100
        have H' := Aside0.mk H
        clear H
        go_wp2_with (first | ((with_reducible refine gate_callee (f := 13) rfl ?_); refine goesL_ (some 30) rfl rfl Try.func13 (by kernel_rfl) rfl #[.string (⟨#[97, 100, 100, 105, 116, 105, 118, 101]⟩ : ByteArray), .slice none 0 0] rfl (by (try simp only [List.map_toArray, List.map_cons, List.map_nil]); first | done | rfl | (simp only [List.length_drop, List.length_take]; rfl)) ?_; (refine (fleuronlaw9_made.calls (⟨#[97, 100, 100, 105, 116, 105, 118, 101]⟩ : ByteArray) (fun k_ => some k_ = (.slice none 0 0 : Value).ownBlock) (.slice none 0 0) ([] : List ByteArray) t379 t380 t381 t382 t385 t388 t389 t390 t391 t392 t393 t396 t397 t398 t399 t400 w _ ?side1 ?side2 A10.out).mono ?_); (case side1 => repeat (first | (with_reducible first | exact HB.out | apply below_alloc | apply pw_below_drewN | apply below_drew1) | exact HB.out)); (case side2 => exact Kd.R_nil _ _ _ _ _); rintro e w11 ⟨v383, v386, v394, rfl, ho0, ho1, ho2, hb, hkp⟩; refine ⟨_, rfl, ?_⟩; have n0_ := Aside0.mk (Kd.R_mono (ok' := fun k_ => True) ho0 (fun k_ hk_ => trivial)); have n1_ := Aside0.mk (Kd.R_mono (ok' := fun k_ => True) ho1 (fun k_ hk_ => trivial)); have n2_ := Aside0.mk (Kd.R_mono (ok' := fun k_ => True) ho2 (fun k_ hk_ => trivial)); have n3_ := Aside0.mk (hb); clear HB; have HO384 := n0_; have HO387 := n1_; have HO395 := n2_; have HB := n3_; clear n0_ n1_ n2_ n3_; (try clear hb); (try clear hkp); (try clear ho0); (try clear ho1); (try clear ho2)) | ((with_reducible refine gate_dst (N := 5) rfl ?_); (try (refine gate_guard (by rfl) ?_; dsimp only)); refine box_event ?hg (N := 5) ?hd (cs := #[.string (⟨#[]⟩ : ByteArray), .string (⟨#[]⟩ : ByteArray), .int .i64 0, .slice none 0 0, .slice none 0 0, .string (⟨#[]⟩ : ByteArray), .string (⟨#[]⟩ : ByteArray), .string (⟨#[]⟩ : ByteArray), .string (⟨#[]⟩ : ByteArray), .bool false, .slice none 0 0, .int .i64 0, .string (⟨#[]⟩ : ByteArray), .string (⟨#[]⟩ : ByteArray), .string (⟨#[]⟩ : ByteArray), .int .i64 0]) (t := 27) ?hr ?_; (case hd => rfl); (case hg => rfl); (case hr => first | (go_simp; done) | (go_simp; rfl)); intro gb401 hg w12 hbox hb; have n0_ := Aside0.mk (Kd.R_below (by (with_reducible repeat (first | apply Kd.R_alloc | apply Kd.R_drewN | apply Kd.R_drew)); exact HO384.out) hb); have n1_ := Aside0.mk (Kd.R_below (by (with_reducible repeat (first | apply Kd.R_alloc | apply Kd.R_drewN | apply Kd.R_drew)); exact HO387.out) hb); have n2_ := Aside0.mk (Kd.R_below (by (with_reducible repeat (first | apply Kd.R_alloc | apply Kd.R_drewN | apply Kd.R_drew)); exact HO395.out) hb); have n3_ := Aside0.mk (below_step (by repeat (first | (with_reducible first | exact HB.out | apply below_alloc | apply pw_below_drewN | apply below_drew1) | exact HB.out)) hb); have n4_ := Aside0.mk (hbox); have n5_ := Aside0.mk ((by rw [hg]; exact (below_size (by repeat (first | (with_reducible first | exact HB.out | apply below_alloc | apply pw_below_drewN | apply below_drew1) | exact HB.out))) : w.heap.size ≤ gb401)); have n6_ := Aside0.mk ((by rw [hg]; exact (below_size (by repeat (first | (with_reducible first | exact HB.out | apply below_alloc | apply pw_below_drewN | apply below_drew1) | exact HB.out))) : w.heap.size ≤ gb401)); clear HO384; clear HO387; clear HO395; clear HB; have HO384 := n0_; have HO387 := n1_; have HO395 := n2_; have HB := n3_; have BK401 := n4_; have GW401 := n5_; have GE401 := n6_; clear n0_ n1_ n2_ n3_ n4_ n5_ n6_; clear hb hbox hg; have hcz13_0 : w12.cell? ⟨gb401, 0, none⟩ = some (.string (⟨#[]⟩ : ByteArray)) := (blk_cell BK401.out 0).trans rfl; have hcz13_1 : w12.cell? ⟨gb401, 1, none⟩ = some (.string (⟨#[]⟩ : ByteArray)) := (blk_cell BK401.out 1).trans rfl; have hcz13_2 : w12.cell? ⟨gb401, 2, none⟩ = some (.int .i64 0) := (blk_cell BK401.out 2).trans rfl; have hcz13_3 : w12.cell? ⟨gb401, 3, none⟩ = some (.slice none 0 0) := (blk_cell BK401.out 3).trans rfl; have hcz13_4 : w12.cell? ⟨gb401, 4, none⟩ = some (.slice none 0 0) := (blk_cell BK401.out 4).trans rfl; have hcz13_5 : w12.cell? ⟨gb401, 5, none⟩ = some (.string (⟨#[]⟩ : ByteArray)) := (blk_cell BK401.out 5).trans rfl; have hcz13_6 : w12.cell? ⟨gb401, 6, none⟩ = some (.string (⟨#[]⟩ : ByteArray)) := (blk_cell BK401.out 6).trans rfl; have hcz13_7 : w12.cell? ⟨gb401, 7, none⟩ = some (.string (⟨#[]⟩ : ByteArray)) := (blk_cell BK401.out 7).trans rfl; have hcz13_8 : w12.cell? ⟨gb401, 8, none⟩ = some (.string (⟨#[]⟩ : ByteArray)) := (blk_cell BK401.out 8).trans rfl; have hcz13_9 : w12.cell? ⟨gb401, 9, none⟩ = some (.bool false) := (blk_cell BK401.out 9).trans rfl; have hcz13_10 : w12.cell? ⟨gb401, 10, none⟩ = some (.slice none 0 0) := (blk_cell BK401.out 10).trans rfl; have hcz13_11 : w12.cell? ⟨gb401, 11, none⟩ = some (.int .i64 0) := (blk_cell BK401.out 11).trans rfl; have hcz13_12 : w12.cell? ⟨gb401, 12, none⟩ = some (.string (⟨#[]⟩ : ByteArray)) := (blk_cell BK401.out 12).trans rfl; have hcz13_13 : w12.cell? ⟨gb401, 13, none⟩ = some (.string (⟨#[]⟩ : ByteArray)) := (blk_cell BK401.out 13).trans rfl; have hcz13_14 : w12.cell? ⟨gb401, 14, none⟩ = some (.string (⟨#[]⟩ : ByteArray)) := (blk_cell BK401.out 14).trans rfl; have hcz13_15 : w12.cell? ⟨gb401, 15, none⟩ = some (.int .i64 0) := (blk_cell BK401.out 15).trans rfl; have hfz13_0 := blk_frozen BK401.out 0; have hfz13_1 := blk_frozen BK401.out 1; have hfz13_2 := blk_frozen BK401.out 2; have hfz13_3 := blk_frozen BK401.out 3; have hfz13_4 := blk_frozen BK401.out 4; have hfz13_5 := blk_frozen BK401.out 5; have hfz13_6 := blk_frozen BK401.out 6; have hfz13_7 := blk_frozen BK401.out 7; have hfz13_8 := blk_frozen BK401.out 8; have hfz13_9 := blk_frozen BK401.out 9; have hfz13_10 := blk_frozen BK401.out 10; have hfz13_11 := blk_frozen BK401.out 11; have hfz13_12 := blk_frozen BK401.out 12; have hfz13_13 := blk_frozen BK401.out 13; have hfz13_14 := blk_frozen BK401.out 14; have hfz13_15 := blk_frozen BK401.out 15; obtain ⟨Ao14, co14, eo14⟩ := Kd.R_slice HO384.out; subst eo14; obtain ⟨Ao15, co15, eo15⟩ := Kd.R_slice HO387.out; subst eo15; obtain ⟨Ao16, co16, eo16⟩ := Kd.R_slice HO395.out; subst eo16))
        go_loopg [6, 7] kj2 (fun kq v6 v7 w' => ∃ (x6_2 : Int) (x7_2 : Int) (x402003_2 : List ByteArray) (x402004_2 : List Int) (u402003 : Value) (u402004 : Value), v6 = .int .i64 x6_2 ∧ v7 = .int .i64 x7_2 ∧ Aside0 (fleuronlaw9_SystemAdds.l0 kq l0 a1 x6_2 x7_2 t379 t380 t381 x402003_2 x402004_2 t388 t389 t390 t391 t392 t393 t396 t397 t398 t399 t400 = some r) ∧ Aside0 (kq ≤ kj2) ∧ Aside0 (Kd.R Kd.string 9 w' w.heap.size (fun _ => True) u402003 x402003_2) ∧ Aside0 (Kd.R (Kd.int .i64) 3 w' w.heap.size (fun _ => True) u402004 x402004_2) ∧ Aside0 (Kd.R k41 41 w' w.heap.size (fun _ => True) (.slice Ao16 t393.length co16) t393) ∧ Aside0 (w'.heap[gb401]? = some (.cells #[.string t379, .string t380, .int .i64 t381, u402003, u402004, .string t388, .string t389, .string t390, .string t391, .bool t392, (.slice Ao16 t393.length co16), .int .i64 t396, .string t397, .string t398, .string t399, .int .i64 t400] 27 (0, 0))) ∧ Aside0 (Below w.heap.size w w'))
        case atStart => exact ⟨(0), (0), (t382), (t385), (.slice Ao14 t382.length co14), (.slice Ao15 t385.length co15), (by first | rfl | (simp; done) | (simp [*]; done)), (by first | rfl | (simp; done) | (simp [*]; done)), H', ⟨Nat.le_refl _⟩, ⟨by (with_reducible repeat (first | apply Kd.R_alloc | apply Kd.R_drewN | apply Kd.R_drew)); exact Kd.R_mono (Kd.R_far (p := ⟨gb401, 15, none⟩) (Kd.R_far (p := ⟨gb401, 14, none⟩) (Kd.R_far (p := ⟨gb401, 13, none⟩) (Kd.R_far (p := ⟨gb401, 12, none⟩) (Kd.R_far (p := ⟨gb401, 11, none⟩) (Kd.R_far (p := ⟨gb401, 10, none⟩) (Kd.R_far (p := ⟨gb401, 9, none⟩) (Kd.R_far (p := ⟨gb401, 8, none⟩) (Kd.R_far (p := ⟨gb401, 7, none⟩) (Kd.R_far (p := ⟨gb401, 6, none⟩) (Kd.R_far (p := ⟨gb401, 5, none⟩) (Kd.R_far (p := ⟨gb401, 4, none⟩) (Kd.R_far (p := ⟨gb401, 3, none⟩) (Kd.R_far (p := ⟨gb401, 2, none⟩) (Kd.R_far (p := ⟨gb401, 1, none⟩) (Kd.R_far (p := ⟨gb401, 0, none⟩) (Kd.R_types HO384.out BK401.out (by decide)) (fun _ hk => hk.2) (.string t379)) (fun _ hk => hk.2) (.string t380)) (fun _ hk => hk.2) (.int .i64 t381)) (fun _ hk => hk.2) (.slice Ao14 t382.length co14)) (fun _ hk => hk.2) (.slice Ao15 t385.length co15)) (fun _ hk => hk.2) (.string t388)) (fun _ hk => hk.2) (.string t389)) (fun _ hk => hk.2) (.string t390)) (fun _ hk => hk.2) (.string t391)) (fun _ hk => hk.2) (.bool t392)) (fun _ hk => hk.2) (.slice Ao16 t393.length co16)) (fun _ hk => hk.2) (.int .i64 t396)) (fun _ hk => hk.2) (.string t397)) (fun _ hk => hk.2) (.string t398)) (fun _ hk => hk.2) (.string t399)) (fun _ hk => hk.2) (.int .i64 t400)) (fun _ hk => by first | exact trivial | simp [hk])⟩, ⟨by (with_reducible repeat (first | apply Kd.R_alloc | apply Kd.R_drewN | apply Kd.R_drew)); exact Kd.R_mono (Kd.R_far (p := ⟨gb401, 15, none⟩) (Kd.R_far (p := ⟨gb401, 14, none⟩) (Kd.R_far (p := ⟨gb401, 13, none⟩) (Kd.R_far (p := ⟨gb401, 12, none⟩) (Kd.R_far (p := ⟨gb401, 11, none⟩) (Kd.R_far (p := ⟨gb401, 10, none⟩) (Kd.R_far (p := ⟨gb401, 9, none⟩) (Kd.R_far (p := ⟨gb401, 8, none⟩) (Kd.R_far (p := ⟨gb401, 7, none⟩) (Kd.R_far (p := ⟨gb401, 6, none⟩) (Kd.R_far (p := ⟨gb401, 5, none⟩) (Kd.R_far (p := ⟨gb401, 4, none⟩) (Kd.R_far (p := ⟨gb401, 3, none⟩) (Kd.R_far (p := ⟨gb401, 2, none⟩) (Kd.R_far (p := ⟨gb401, 1, none⟩) (Kd.R_far (p := ⟨gb401, 0, none⟩) (Kd.R_types HO387.out BK401.out (by decide)) (fun _ hk => hk.2) (.string t379)) (fun _ hk => hk.2) (.string t380)) (fun _ hk => hk.2) (.int .i64 t381)) (fun _ hk => hk.2) (.slice Ao14 t382.length co14)) (fun _ hk => hk.2) (.slice Ao15 t385.length co15)) (fun _ hk => hk.2) (.string t388)) (fun _ hk => hk.2) (.string t389)) (fun _ hk => hk.2) (.string t390)) (fun _ hk => hk.2) (.string t391)) (fun _ hk => hk.2) (.bool t392)) (fun _ hk => hk.2) (.slice Ao16 t393.length co16)) (fun _ hk => hk.2) (.int .i64 t396)) (fun _ hk => hk.2) (.string t397)) (fun _ hk => hk.2) (.string t398)) (fun _ hk => hk.2) (.string t399)) (fun _ hk => hk.2) (.int .i64 t400)) (fun _ hk => by first | exact trivial | simp [hk])⟩, ⟨by (with_reducible repeat (first | apply Kd.R_alloc | apply Kd.R_drewN | apply Kd.R_drew)); exact Kd.R_mono (Kd.R_far (p := ⟨gb401, 15, none⟩) (Kd.R_far (p := ⟨gb401, 14, none⟩) (Kd.R_far (p := ⟨gb401, 13, none⟩) (Kd.R_far (p := ⟨gb401, 12, none⟩) (Kd.R_far (p := ⟨gb401, 11, none⟩) (Kd.R_far (p := ⟨gb401, 10, none⟩) (Kd.R_far (p := ⟨gb401, 9, none⟩) (Kd.R_far (p := ⟨gb401, 8, none⟩) (Kd.R_far (p := ⟨gb401, 7, none⟩) (Kd.R_far (p := ⟨gb401, 6, none⟩) (Kd.R_far (p := ⟨gb401, 5, none⟩) (Kd.R_far (p := ⟨gb401, 4, none⟩) (Kd.R_far (p := ⟨gb401, 3, none⟩) (Kd.R_far (p := ⟨gb401, 2, none⟩) (Kd.R_far (p := ⟨gb401, 1, none⟩) (Kd.R_far (p := ⟨gb401, 0, none⟩) (Kd.R_types HO395.out BK401.out (by decide)) (fun _ hk => hk.2) (.string t379)) (fun _ hk => hk.2) (.string t380)) (fun _ hk => hk.2) (.int .i64 t381)) (fun _ hk => hk.2) (.slice Ao14 t382.length co14)) (fun _ hk => hk.2) (.slice Ao15 t385.length co15)) (fun _ hk => hk.2) (.string t388)) (fun _ hk => hk.2) (.string t389)) (fun _ hk => hk.2) (.string t390)) (fun _ hk => hk.2) (.string t391)) (fun _ hk => hk.2) (.bool t392)) (fun _ hk => hk.2) (.slice Ao16 t393.length co16)) (fun _ hk => hk.2) (.int .i64 t396)) (fun _ hk => hk.2) (.string t397)) (fun _ hk => hk.2) (.string t398)) (fun _ hk => hk.2) (.string t399)) (fun _ hk => hk.2) (.int .i64 t400)) (fun _ hk => by first | exact trivial | simp [hk])⟩, ⟨by (with_reducible repeat (first | refine blk_drewN ?_ _ | refine blk_drew ?_ | refine blk_alloc ?_ _)); refine blk_put (cs := #[.string t379, .string t380, .int .i64 t381, .slice Ao14 t382.length co14, .slice Ao15 t385.length co15, .string t388, .string t389, .string t390, .string t391, .bool t392, .slice Ao16 t393.length co16, .int .i64 t396, .string t397, .string t398, .string t399, .int .i64 0]) ?_ 15 _ rfl; (with_reducible repeat (first | refine blk_drewN ?_ _ | refine blk_drew ?_ | refine blk_alloc ?_ _)); refine blk_put (cs := #[.string t379, .string t380, .int .i64 t381, .slice Ao14 t382.length co14, .slice Ao15 t385.length co15, .string t388, .string t389, .string t390, .string t391, .bool t392, .slice Ao16 t393.length co16, .int .i64 t396, .string t397, .string t398, .string (⟨#[]⟩ : ByteArray), .int .i64 0]) ?_ 14 _ rfl; (with_reducible repeat (first | refine blk_drewN ?_ _ | refine blk_drew ?_ | refine blk_alloc ?_ _)); refine blk_put (cs := #[.string t379, .string t380, .int .i64 t381, .slice Ao14 t382.length co14, .slice Ao15 t385.length co15, .string t388, .string t389, .string t390, .string t391, .bool t392, .slice Ao16 t393.length co16, .int .i64 t396, .string t397, .string (⟨#[]⟩ : ByteArray), .string (⟨#[]⟩ : ByteArray), .int .i64 0]) ?_ 13 _ rfl; (with_reducible repeat (first | refine blk_drewN ?_ _ | refine blk_drew ?_ | refine blk_alloc ?_ _)); refine blk_put (cs := #[.string t379, .string t380, .int .i64 t381, .slice Ao14 t382.length co14, .slice Ao15 t385.length co15, .string t388, .string t389, .string t390, .string t391, .bool t392, .slice Ao16 t393.length co16, .int .i64 t396, .string (⟨#[]⟩ : ByteArray), .string (⟨#[]⟩ : ByteArray), .string (⟨#[]⟩ : ByteArray), .int .i64 0]) ?_ 12 _ rfl; (with_reducible repeat (first | refine blk_drewN ?_ _ | refine blk_drew ?_ | refine blk_alloc ?_ _)); refine blk_put (cs := #[.string t379, .string t380, .int .i64 t381, .slice Ao14 t382.length co14, .slice Ao15 t385.length co15, .string t388, .string t389, .string t390, .string t391, .bool t392, .slice Ao16 t393.length co16, .int .i64 0, .string (⟨#[]⟩ : ByteArray), .string (⟨#[]⟩ : ByteArray), .string (⟨#[]⟩ : ByteArray), .int .i64 0]) ?_ 11 _ rfl; (with_reducible repeat (first | refine blk_drewN ?_ _ | refine blk_drew ?_ | refine blk_alloc ?_ _)); refine blk_put (cs := #[.string t379, .string t380, .int .i64 t381, .slice Ao14 t382.length co14, .slice Ao15 t385.length co15, .string t388, .string t389, .string t390, .string t391, .bool t392, .slice none 0 0, .int .i64 0, .string (⟨#[]⟩ : ByteArray), .string (⟨#[]⟩ : ByteArray), .string (⟨#[]⟩ : ByteArray), .int .i64 0]) ?_ 10 _ rfl; (with_reducible repeat (first | refine blk_drewN ?_ _ | refine blk_drew ?_ | refine blk_alloc ?_ _)); refine blk_put (cs := #[.string t379, .string t380, .int .i64 t381, .slice Ao14 t382.length co14, .slice Ao15 t385.length co15, .string t388, .string t389, .string t390, .string t391, .bool false, .slice none 0 0, .int .i64 0, .string (⟨#[]⟩ : ByteArray), .string (⟨#[]⟩ : ByteArray), .string (⟨#[]⟩ : ByteArray), .int .i64 0]) ?_ 9 _ rfl; (with_reducible repeat (first | refine blk_drewN ?_ _ | refine blk_drew ?_ | refine blk_alloc ?_ _)); refine blk_put (cs := #[.string t379, .string t380, .int .i64 t381, .slice Ao14 t382.length co14, .slice Ao15 t385.length co15, .string t388, .string t389, .string t390, .string (⟨#[]⟩ : ByteArray), .bool false, .slice none 0 0, .int .i64 0, .string (⟨#[]⟩ : ByteArray), .string (⟨#[]⟩ : ByteArray), .string (⟨#[]⟩ : ByteArray), .int .i64 0]) ?_ 8 _ rfl; (with_reducible repeat (first | refine blk_drewN ?_ _ | refine blk_drew ?_ | refine blk_alloc ?_ _)); refine blk_put (cs := #[.string t379, .string t380, .int .i64 t381, .slice Ao14 t382.length co14, .slice Ao15 t385.length co15, .string t388, .string t389, .string (⟨#[]⟩ : ByteArray), .string (⟨#[]⟩ : ByteArray), .bool false, .slice none 0 0, .int .i64 0, .string (⟨#[]⟩ : ByteArray), .string (⟨#[]⟩ : ByteArray), .string (⟨#[]⟩ : ByteArray), .int .i64 0]) ?_ 7 _ rfl; (with_reducible repeat (first | refine blk_drewN ?_ _ | refine blk_drew ?_ | refine blk_alloc ?_ _)); refine blk_put (cs := #[.string t379, .string t380, .int .i64 t381, .slice Ao14 t382.length co14, .slice Ao15 t385.length co15, .string t388, .string (⟨#[]⟩ : ByteArray), .string (⟨#[]⟩ : ByteArray), .string (⟨#[]⟩ : ByteArray), .bool false, .slice none 0 0, .int .i64 0, .string (⟨#[]⟩ : ByteArray), .string (⟨#[]⟩ : ByteArray), .string (⟨#[]⟩ : ByteArray), .int .i64 0]) ?_ 6 _ rfl; (with_reducible repeat (first | refine blk_drewN ?_ _ | refine blk_drew ?_ | refine blk_alloc ?_ _)); refine blk_put (cs := #[.string t379, .string t380, .int .i64 t381, .slice Ao14 t382.length co14, .slice Ao15 t385.length co15, .string (⟨#[]⟩ : ByteArray), .string (⟨#[]⟩ : ByteArray), .string (⟨#[]⟩ : ByteArray), .string (⟨#[]⟩ : ByteArray), .bool false, .slice none 0 0, .int .i64 0, .string (⟨#[]⟩ : ByteArray), .string (⟨#[]⟩ : ByteArray), .string (⟨#[]⟩ : ByteArray), .int .i64 0]) ?_ 5 _ rfl; (with_reducible repeat (first | refine blk_drewN ?_ _ | refine blk_drew ?_ | refine blk_alloc ?_ _)); refine blk_put (cs := #[.string t379, .string t380, .int .i64 t381, .slice Ao14 t382.length co14, .slice none 0 0, .string (⟨#[]⟩ : ByteArray), .string (⟨#[]⟩ : ByteArray), .string (⟨#[]⟩ : ByteArray), .string (⟨#[]⟩ : ByteArray), .bool false, .slice none 0 0, .int .i64 0, .string (⟨#[]⟩ : ByteArray), .string (⟨#[]⟩ : ByteArray), .string (⟨#[]⟩ : ByteArray), .int .i64 0]) ?_ 4 _ rfl; (with_reducible repeat (first | refine blk_drewN ?_ _ | refine blk_drew ?_ | refine blk_alloc ?_ _)); refine blk_put (cs := #[.string t379, .string t380, .int .i64 t381, .slice none 0 0, .slice none 0 0, .string (⟨#[]⟩ : ByteArray), .string (⟨#[]⟩ : ByteArray), .string (⟨#[]⟩ : ByteArray), .string (⟨#[]⟩ : ByteArray), .bool false, .slice none 0 0, .int .i64 0, .string (⟨#[]⟩ : ByteArray), .string (⟨#[]⟩ : ByteArray), .string (⟨#[]⟩ : ByteArray), .int .i64 0]) ?_ 3 _ rfl; (with_reducible repeat (first | refine blk_drewN ?_ _ | refine blk_drew ?_ | refine blk_alloc ?_ _)); refine blk_put (cs := #[.string t379, .string t380, .int .i64 0, .slice none 0 0, .slice none 0 0, .string (⟨#[]⟩ : ByteArray), .string (⟨#[]⟩ : ByteArray), .string (⟨#[]⟩ : ByteArray), .string (⟨#[]⟩ : ByteArray), .bool false, .slice none 0 0, .int .i64 0, .string (⟨#[]⟩ : ByteArray), .string (⟨#[]⟩ : ByteArray), .string (⟨#[]⟩ : ByteArray), .int .i64 0]) ?_ 2 _ rfl; (with_reducible repeat (first | refine blk_drewN ?_ _ | refine blk_drew ?_ | refine blk_alloc ?_ _)); refine blk_put (cs := #[.string t379, .string (⟨#[]⟩ : ByteArray), .int .i64 0, .slice none 0 0, .slice none 0 0, .string (⟨#[]⟩ : ByteArray), .string (⟨#[]⟩ : ByteArray), .string (⟨#[]⟩ : ByteArray), .string (⟨#[]⟩ : ByteArray), .bool false, .slice none 0 0, .int .i64 0, .string (⟨#[]⟩ : ByteArray), .string (⟨#[]⟩ : ByteArray), .string (⟨#[]⟩ : ByteArray), .int .i64 0]) ?_ 1 _ rfl; (with_reducible repeat (first | refine blk_drewN ?_ _ | refine blk_drew ?_ | refine blk_alloc ?_ _)); refine blk_put (cs := #[.string (⟨#[]⟩ : ByteArray), .string (⟨#[]⟩ : ByteArray), .int .i64 0, .slice none 0 0, .slice none 0 0, .string (⟨#[]⟩ : ByteArray), .string (⟨#[]⟩ : ByteArray), .string (⟨#[]⟩ : ByteArray), .string (⟨#[]⟩ : ByteArray), .bool false, .slice none 0 0, .int .i64 0, .string (⟨#[]⟩ : ByteArray), .string (⟨#[]⟩ : ByteArray), .string (⟨#[]⟩ : ByteArray), .int .i64 0]) ?_ 0 _ rfl; (with_reducible repeat (first | refine blk_drewN ?_ _ | refine blk_drew ?_ | refine blk_alloc ?_ _)); exact BK401.out⟩, ⟨by repeat (first | (with_reducible first | exact HB.out | apply below_alloc | apply pw_below_drewN | apply below_drew1 | refine below_set ?_ GE401.out) | exact HB.out)⟩⟩
        case round =>
          clear H'
          try clear c1
          try clear p2
          try clear c4
          try clear c4b0
          try clear c4b1
          try clear c5
          try clear c5b0
          try clear c5b1
          try clear c6
          try clear c6b0
          try clear c7
          try clear c10
          try clear c13
          try clear hcz13_0
          try clear hcz13_1
          try clear hcz13_10
          try clear hcz13_11
          try clear hcz13_12
          try clear hcz13_13
          try clear hcz13_14
          try clear hcz13_15
          try clear hcz13_2
          try clear hcz13_3
          try clear hcz13_4
          try clear hcz13_5
          try clear hcz13_6
          try clear hcz13_7
          try clear hcz13_8
          try clear hcz13_9
          try clear hfz13_0
          try clear hfz13_1
          try clear hfz13_10
          try clear hfz13_11
          try clear hfz13_12
          try clear hfz13_13
          try clear hfz13_14
          try clear hfz13_15
          try clear hfz13_2
          try clear hfz13_3
          try clear hfz13_4
          try clear hfz13_5
          try clear hfz13_6
          try clear hfz13_7
          try clear hfz13_8
          try clear hfz13_9
          try clear p2
          obtain ⟨x6_2, x7_2, x402003_2, x402004_2, u402003, u402004, rfl, rfl, HA, HK2, HO_402003, HO_402004, HO_402010, BK401, HB⟩ := hrel
          cases gk with
          | zero => exact absurd HA.out (by simp [fleuronlaw9_SystemAdds.l0])
          | succ k2 =>
            have H := HA.out
            clear HA
            simp only [fleuronlaw9_SystemAdds.l0] at H
            by_cases c17 : x7_2 < (l0.length : Int)
            · rw [if_pos c17] at H
              have c17b0 : decide (x7_2 < (l0.length : Int)) = true := decide_eq_true c17
              clear c17
              by_cases c18 : 0 ≤ x7_2
              · rw [if_pos c18] at H
                have c18b0 : decide (0 ≤ x7_2) = true := decide_eq_true c18
                clear c18
                replace H := Option.bind_eq_some_iff.mp H
                obtain ⟨t403, A190, H⟩ := H
                replace H : ((some (([wrap64 ((wrap64 (x6_2 + 1)) + t403)] : List Int) : List Int)).bind fun y404 => (if y404.length + x402004_2.length < 17592186044416 then ((some (([strOfNums (([(wrap64 (97 + x7_2)) % 256] : List Int))] : List ByteArray) : List ByteArray)).bind fun y413 => (if y413.length + x402003_2.length < 8796093022208 then (fleuronlaw9_SystemAdds.l0 k2 l0 a1 (wrap64 ((wrap64 (x6_2 + 1)) + t403)) (wrap64 (x7_2 + 1)) t379 t380 t381 (y413 ++ x402003_2) (y404 ++ x402004_2) t388 t389 t390 t391 t392 t393 t396 t397 t398 t399 t400) else (none))) else (none))) = some r := H
                have A19 := Aside0.mk A190
                clear A190
                obtain ⟨y404, hy404⟩ : ∃ y_ : List Int, y_ = (([wrap64 ((wrap64 (x6_2 + 1)) + t403)] : List Int)) := ⟨_, rfl⟩
                replace H : (if y404.length + x402004_2.length < 17592186044416 then ((some (([strOfNums (([(wrap64 (97 + x7_2)) % 256] : List Int))] : List ByteArray) : List ByteArray)).bind fun y413 => (if y413.length + x402003_2.length < 8796093022208 then (fleuronlaw9_SystemAdds.l0 k2 l0 a1 (wrap64 ((wrap64 (x6_2 + 1)) + t403)) (wrap64 (x7_2 + 1)) t379 t380 t381 (y413 ++ x402003_2) (y404 ++ x402004_2) t388 t389 t390 t391 t392 t393 t396 t397 t398 t399 t400) else (none))) else (none)) = some r := by first | (rw [hy404]; with_reducible exact H) | (have H2_ := (Option.bind_some _ _).symm.trans H; rw [hy404]; with_reducible exact H2_) | (have H2_ := (Option.bind_some _ _).symm.trans H; with_reducible exact H2_) | with_reducible exact H | (rw [hy404]; exact H) | exact H
                have Ny404 := Aside0.mk hy404
                clear hy404
                by_cases c20 : y404.length + x402004_2.length < 17592186044416
                · rw [if_pos c20] at H
                  have LMc20 := Aside0.mk c20
                  clear c20
                  obtain ⟨y407, hy407⟩ : ∃ y_ : List Int, y_ = (y404 ++ x402004_2) := ⟨_, rfl⟩
                  replace H : ((some (([strOfNums (([(wrap64 (97 + x7_2)) % 256] : List Int))] : List ByteArray) : List ByteArray)).bind fun y413 => (if y413.length + x402003_2.length < 8796093022208 then (fleuronlaw9_SystemAdds.l0 k2 l0 a1 (wrap64 ((wrap64 (x6_2 + 1)) + t403)) (wrap64 (x7_2 + 1)) t379 t380 t381 (y413 ++ x402003_2) y407 t388 t389 t390 t391 t392 t393 t396 t397 t398 t399 t400) else (none))) = some r := by first | (rw [hy407]; with_reducible exact H) | (have H2_ := (Option.bind_some _ _).symm.trans H; rw [hy407]; with_reducible exact H2_) | (have H2_ := (Option.bind_some _ _).symm.trans H; with_reducible exact H2_) | with_reducible exact H | (rw [hy407]; exact H) | exact H
                  have Ny407 := Aside0.mk hy407
                  clear hy407
                  obtain ⟨y410, hy410⟩ : ∃ y_ : List Int, y_ = (([(wrap64 (97 + x7_2)) % 256] : List Int)) := ⟨_, rfl⟩
                  replace H : ((some (([strOfNums y410] : List ByteArray) : List ByteArray)).bind fun y413 => (if y413.length + x402003_2.length < 8796093022208 then (fleuronlaw9_SystemAdds.l0 k2 l0 a1 (wrap64 ((wrap64 (x6_2 + 1)) + t403)) (wrap64 (x7_2 + 1)) t379 t380 t381 (y413 ++ x402003_2) y407 t388 t389 t390 t391 t392 t393 t396 t397 t398 t399 t400) else (none))) = some r := by first | (rw [hy410]; with_reducible exact H) | (have H2_ := (Option.bind_some _ _).symm.trans H; rw [hy410]; with_reducible exact H2_) | (have H2_ := (Option.bind_some _ _).symm.trans H; with_reducible exact H2_) | with_reducible exact H | (rw [hy410]; exact H) | exact H
                  have Ny410 := Aside0.mk hy410
                  clear hy410
                  obtain ⟨y413, hy413⟩ : ∃ y_ : List ByteArray, y_ = (([strOfNums y410] : List ByteArray)) := ⟨_, rfl⟩
                  replace H : (if y413.length + x402003_2.length < 8796093022208 then (fleuronlaw9_SystemAdds.l0 k2 l0 a1 (wrap64 ((wrap64 (x6_2 + 1)) + t403)) (wrap64 (x7_2 + 1)) t379 t380 t381 (y413 ++ x402003_2) y407 t388 t389 t390 t391 t392 t393 t396 t397 t398 t399 t400) else (none)) = some r := by first | (rw [hy413]; with_reducible exact H) | (have H2_ := (Option.bind_some _ _).symm.trans H; rw [hy413]; with_reducible exact H2_) | (have H2_ := (Option.bind_some _ _).symm.trans H; with_reducible exact H2_) | with_reducible exact H | (rw [hy413]; exact H) | exact H
                  have Ny413 := Aside0.mk hy413
                  clear hy413
                  by_cases c21 : y413.length + x402003_2.length < 8796093022208
                  · rw [if_pos c21] at H
                    have LMc21 := Aside0.mk c21
                    clear c21
                    obtain ⟨y416, hy416⟩ : ∃ y_ : List ByteArray, y_ = (y413 ++ x402003_2) := ⟨_, rfl⟩
                    replace H : (fleuronlaw9_SystemAdds.l0 k2 l0 a1 (wrap64 ((wrap64 (x6_2 + 1)) + t403)) (wrap64 (x7_2 + 1)) t379 t380 t381 y416 y407 t388 t389 t390 t391 t392 t393 t396 t397 t398 t399 t400) = some r := by first | (rw [hy416]; with_reducible exact H) | (have H2_ := (Option.bind_some _ _).symm.trans H; rw [hy416]; with_reducible exact H2_) | (have H2_ := (Option.bind_some _ _).symm.trans H; with_reducible exact H2_) | with_reducible exact H | (rw [hy416]; exact H) | exact H
                    have Ny416 := Aside0.mk hy416
                    clear hy416
                    have H' := Aside0.mk H
                    clear H
                    have p402 : 0 ≤ (x7_2 : Int) := of_decide_eq_true (by first | (with_reducible assumption) | assumption)
                    have q402 : x7_2 < (l0.length : Int) := of_decide_eq_true (by first | (with_reducible assumption) | assumption)
                    obtain ⟨ad402, e402, hx402_0⟩ := Kd.at_int HR0.out x7_2 p402 q402
                    cases e402
                    replace hx402_0 := (HB.out.cell (World.block_lt_of_cell? w _ hx402_0)).trans hx402_0
                    replace p402 := eq_true p402
                    replace q402 := eq_true q402
                    go_wp2_with (first | ((with_reducible refine gate_callee (f := 15) rfl ?_); refine goesL_ (some 43) rfl rfl Try.func15 (by kernel_rfl) rfl #[.int .i64 (rd l0 x7_2), .int .i64 1000] rfl (by (try simp only [List.map_toArray, List.map_cons, List.map_nil]); first | done | rfl | (simp only [List.length_drop, List.length_take]; rfl)) ?_; (with_reducible refine (fleuronalike_Round.calls (rd l0 x7_2) 1000 t403 _ A19.out).mono ?_); rintro e w' ⟨rfl, ⟨nd, rfl⟩⟩; refine ⟨_, rfl, ?_⟩; (try (rw [drewN_self wr]; generalize hq_ : World.drewN wr _ = wr; have n0_ : Aside0 (Kd.R Kd.string 9 wr w.heap.size (fun _ => True) u402003 x402003_2) := ⟨by rw [← hq_]; exact (by (with_reducible repeat (first | apply Kd.R_alloc | apply Kd.R_drewN | apply Kd.R_drew)); exact HO_402003.out)⟩; have n1_ : Aside0 (Kd.R (Kd.int .i64) 3 wr w.heap.size (fun _ => True) u402004 x402004_2) := ⟨by rw [← hq_]; exact (by (with_reducible repeat (first | apply Kd.R_alloc | apply Kd.R_drewN | apply Kd.R_drew)); exact HO_402004.out)⟩; have n2_ : Aside0 (Kd.R k41 41 wr w.heap.size (fun _ => True) (.slice Ao16 t393.length co16) t393) := ⟨by rw [← hq_]; exact (by (with_reducible repeat (first | apply Kd.R_alloc | apply Kd.R_drewN | apply Kd.R_drew)); exact HO_402010.out)⟩; have n3_ : Aside0 (wr.heap[gb401]? = some (.cells #[.string t379, .string t380, .int .i64 t381, u402003, u402004, .string t388, .string t389, .string t390, .string t391, .bool t392, .slice Ao16 t393.length co16, .int .i64 t396, .string t397, .string t398, .string t399, .int .i64 t400] 27 (0, 0))) := ⟨by rw [← hq_]; exact (by (with_reducible repeat (first | refine blk_drewN ?_ _ | refine blk_drew ?_ | refine blk_alloc ?_ _)); exact BK401.out)⟩; have n4_ : Aside0 (Below w.heap.size w wr) := ⟨by rw [← hq_]; exact (by repeat (first | (with_reducible first | exact HB.out | apply below_alloc | apply pw_below_drewN | apply below_drew1 | refine below_set ?_ GE401.out) | exact HB.out))⟩; clear HO_402003 HO_402004 HO_402010 BK401 HB hq_; have HO_402003 := n0_; have HO_402004 := n1_; have HO_402010 := n2_; have BK401 := n3_; have HB := n4_; clear n0_ n1_ n2_ n3_ n4_))) | ((with_reducible refine gate_dst (N := 46) rfl ?_); (try (refine gate_guard (by rfl) ?_; dsimp only)); refine Kd.R_lit (Kd.int .i64) _ 3 ?hg (N := 46) ?hd (xs := ([wrap64 ((wrap64 (x6_2 + 1)) + t403)] : List Int)) (inner := [.int .i64 (wrap64 ((wrap64 (x6_2 + 1)) + t403))]) (ok := fun _ => True) (okp := fun _ => True) ?hr ?hp (fun _ hk => hk) trivial (Below.refl _ _) (Nat.le_refl _) (by simp) ?_; (case hd => rfl); (case hg => rfl); (case hr => first | (go_simp; done) | (go_simp; rfl)); (case hp => exact (Reps.one (show Kd.M (Kd.int .i64) _ _ _ (wrap64 ((wrap64 (x6_2 + 1)) + t403)) [.int .i64 (wrap64 ((wrap64 (x6_2 + 1)) + t403))] from rfl) (Reps.none _ _))); intro v405 w22 ho23 hb hg_ hnew_; clear hg_ hnew_; (first | rw [← Ny404.out] at ho23 | (simp only [Int.reduceToNat] at ho23; rw [← Ny404.out] at ho23)); have n0_ := Aside0.mk (Kd.R_below (by (with_reducible repeat (first | apply Kd.R_alloc | apply Kd.R_drewN | apply Kd.R_drew)); exact HO_402003.out) hb); have n1_ := Aside0.mk (Kd.R_elder' (by (with_reducible repeat (first | apply Kd.R_alloc | apply Kd.R_drewN | apply Kd.R_drew)); exact HO_402004.out) (Kd.R_base ho23) hb); have n2_ := Aside0.mk (Kd.R_below (by (with_reducible repeat (first | apply Kd.R_alloc | apply Kd.R_drewN | apply Kd.R_drew)); exact HO_402010.out) hb); have n3_ := Aside0.mk (Kd.R_lower (Kd.R_new' ho23 (Kd.R_lt (by (with_reducible repeat (first | apply Kd.R_alloc | apply Kd.R_drewN | apply Kd.R_drew)); exact HO_402004.out))) (below_size (by repeat (first | (with_reducible first | exact HB.out | apply below_alloc | apply pw_below_drewN | apply below_drew1 | refine below_set ?_ GE401.out) | exact HB.out)))); have n4_ := Aside0.mk (blk_below (g := gb401) (o := .cells #[.string t379, .string t380, .int .i64 t381, u402003, u402004, .string t388, .string t389, .string t390, .string t391, .bool t392, .slice Ao16 t393.length co16, .int .i64 t396, .string t397, .string t398, .string t399, .int .i64 t400] 27 (0, 0)) (by (with_reducible repeat (first | refine blk_drewN ?_ _ | refine blk_drew ?_ | refine blk_alloc ?_ _)); exact BK401.out) hb); have n5_ := Aside0.mk (below_step (by repeat (first | (with_reducible first | exact HB.out | apply below_alloc | apply pw_below_drewN | apply below_drew1 | refine below_set ?_ GE401.out) | exact HB.out)) hb); clear HO_402003; clear HO_402004; clear HO_402010; clear BK401; clear HB; have HO_402003 := n0_; have HO_402004 := n1_; have HO_402010 := n2_; have HO406 := n3_; have BK401 := n4_; have HB := n5_; clear n0_ n1_ n2_ n3_ n4_ n5_; clear hb ho23; have hcz24_0 : w22.cell? ⟨gb401, 0, none⟩ = some (.string t379) := (blk_cell BK401.out 0).trans rfl; have hcz24_1 : w22.cell? ⟨gb401, 1, none⟩ = some (.string t380) := (blk_cell BK401.out 1).trans rfl; have hcz24_2 : w22.cell? ⟨gb401, 2, none⟩ = some (.int .i64 t381) := (blk_cell BK401.out 2).trans rfl; have hcz24_3 : w22.cell? ⟨gb401, 3, none⟩ = some (u402003) := (blk_cell BK401.out 3).trans rfl; have hcz24_4 : w22.cell? ⟨gb401, 4, none⟩ = some (u402004) := (blk_cell BK401.out 4).trans rfl; have hcz24_5 : w22.cell? ⟨gb401, 5, none⟩ = some (.string t388) := (blk_cell BK401.out 5).trans rfl; have hcz24_6 : w22.cell? ⟨gb401, 6, none⟩ = some (.string t389) := (blk_cell BK401.out 6).trans rfl; have hcz24_7 : w22.cell? ⟨gb401, 7, none⟩ = some (.string t390) := (blk_cell BK401.out 7).trans rfl; have hcz24_8 : w22.cell? ⟨gb401, 8, none⟩ = some (.string t391) := (blk_cell BK401.out 8).trans rfl; have hcz24_9 : w22.cell? ⟨gb401, 9, none⟩ = some (.bool t392) := (blk_cell BK401.out 9).trans rfl; have hcz24_10 : w22.cell? ⟨gb401, 10, none⟩ = some (.slice Ao16 t393.length co16) := (blk_cell BK401.out 10).trans rfl; have hcz24_11 : w22.cell? ⟨gb401, 11, none⟩ = some (.int .i64 t396) := (blk_cell BK401.out 11).trans rfl; have hcz24_12 : w22.cell? ⟨gb401, 12, none⟩ = some (.string t397) := (blk_cell BK401.out 12).trans rfl; have hcz24_13 : w22.cell? ⟨gb401, 13, none⟩ = some (.string t398) := (blk_cell BK401.out 13).trans rfl; have hcz24_14 : w22.cell? ⟨gb401, 14, none⟩ = some (.string t399) := (blk_cell BK401.out 14).trans rfl; have hcz24_15 : w22.cell? ⟨gb401, 15, none⟩ = some (.int .i64 t400) := (blk_cell BK401.out 15).trans rfl; have hfz24_0 := blk_frozen BK401.out 0; have hfz24_1 := blk_frozen BK401.out 1; have hfz24_2 := blk_frozen BK401.out 2; have hfz24_3 := blk_frozen BK401.out 3; have hfz24_4 := blk_frozen BK401.out 4; have hfz24_5 := blk_frozen BK401.out 5; have hfz24_6 := blk_frozen BK401.out 6; have hfz24_7 := blk_frozen BK401.out 7; have hfz24_8 := blk_frozen BK401.out 8; have hfz24_9 := blk_frozen BK401.out 9; have hfz24_10 := blk_frozen BK401.out 10; have hfz24_11 := blk_frozen BK401.out 11; have hfz24_12 := blk_frozen BK401.out 12; have hfz24_13 := blk_frozen BK401.out 13; have hfz24_14 := blk_frozen BK401.out 14; have hfz24_15 := blk_frozen BK401.out 15; obtain ⟨Ao26, co26, eo26⟩ := Kd.R_slice HO_402004.out; subst eo26) | ((with_reducible refine gate_builtin (b := .append) (xs := #[.tmp 46, .tmp 48]) rfl ?_); (try (refine gate_guard (by rfl) ?_; dsimp only)); at_builtin; refine Kd.R_append_rows (Kd.int .i64) (w0 := w) w.heap.size rfl (.tmp 46) (.tmp 48) 23 3 (.int .i64 0) 8 rfl Try.underlying23 info3 rfl (by decide) (by omega) v405 y404 x402004_2 _ _ _ (fun k_ => some k_ ≠ (.slice Ao26 x402004_2.length co26 : Value).ownBlock) (fun _ => False) rfl rfl ?aO ?aR (fun _ _ h => h) (fun _ h => h.elim) ?aF ?aB ?aS ?aL ?_; (case aR => repeat (first | exact (Kd.R_reads' HO_402004.out).2.2 | (with_reducible refine Kd.C_alloc ?_ _) | (with_reducible refine Kd.C_drewN ?_ _) | (with_reducible refine Kd.C_drew ?_))); (case aB => exact (by repeat (first | (with_reducible first | exact HB.out | apply below_alloc | apply pw_below_drewN | apply below_drew1 | refine below_set ?_ GE401.out) | exact HB.out))); (case aF => exact (fun k_ hk => Kd.fresh' (Kd.R_lt (by (with_reducible repeat (first | apply Kd.R_alloc | apply Kd.R_drewN | apply Kd.R_drew)); exact HO_402004.out)) k_ hk)); (case aO => exact (by (with_reducible repeat (first | apply Kd.R_alloc | apply Kd.R_drewN | apply Kd.R_drew)); exact Kd.R_mono HO406.out (fun _ hk => by first | exact hk.2 | simp [hk]))); (case aS => exact (below_size (by repeat (first | (with_reducible first | exact HB.out | apply below_alloc | apply pw_below_drewN | apply below_drew1 | refine below_set ?_ GE401.out) | exact HB.out)))); (case aL => have := LMc20.out; omega); intro v408 w25 ho hb hg hat; rw [← Ny407.out] at ho; have n0_ := Aside0.mk (Kd.R_over' (by (with_reducible repeat (first | apply Kd.R_alloc | apply Kd.R_drewN | apply Kd.R_drew)); exact HO_402003.out) (Kd.R_typed (by (with_reducible repeat (first | apply Kd.R_alloc | apply Kd.R_drewN | apply Kd.R_drew)); exact HO406.out)) (by decide) hg); have n1_ := Aside0.mk (Kd.R_after (ok := (fun _ => True)) (by (with_reducible repeat (first | apply Kd.R_alloc | apply Kd.R_drewN | apply Kd.R_drew)); exact HO_402004.out) hg hat); have n2_ := Aside0.mk (Kd.R_over' (by (with_reducible repeat (first | apply Kd.R_alloc | apply Kd.R_drewN | apply Kd.R_drew)); exact HO_402010.out) (Kd.R_typed (by (with_reducible repeat (first | apply Kd.R_alloc | apply Kd.R_drewN | apply Kd.R_drew)); exact HO406.out)) (by decide) hg); have n3_ := Aside0.mk (blk_grown (g := gb401) (o := .cells #[.string t379, .string t380, .int .i64 t381, u402003, .slice Ao26 x402004_2.length co26, .string t388, .string t389, .string t390, .string t391, .bool t392, .slice Ao16 t393.length co16, .int .i64 t396, .string t397, .string t398, .string t399, .int .i64 t400] 27 (0, 0)) (by (with_reducible repeat (first | refine blk_drewN ?_ _ | refine blk_drew ?_ | refine blk_alloc ?_ _)); exact BK401.out) hg (Kd.R_ne HO406.out BK401.out (by decide))); have n4_ := Aside0.mk (hb); have n5_ := Aside0.mk (ho); clear HO_402003; clear HO_402004; clear HO_402010; clear BK401; clear HB; clear HO406; have HO_402003 := n0_; have HO_402004 := n1_; have HO_402010 := n2_; have BK401 := n3_; have HB := n4_; have HO409 := n5_; clear n0_ n1_ n2_ n3_ n4_ n5_; clear ho hb hg hat; obtain ⟨Ao27, co27, eo27⟩ := Kd.R_slice HO409.out; subst eo27; have hcz28_0 : w25.cell? ⟨gb401, 0, none⟩ = some (.string t379) := (blk_cell BK401.out 0).trans rfl; have hcz28_1 : w25.cell? ⟨gb401, 1, none⟩ = some (.string t380) := (blk_cell BK401.out 1).trans rfl; have hcz28_2 : w25.cell? ⟨gb401, 2, none⟩ = some (.int .i64 t381) := (blk_cell BK401.out 2).trans rfl; have hcz28_3 : w25.cell? ⟨gb401, 3, none⟩ = some (u402003) := (blk_cell BK401.out 3).trans rfl; have hcz28_4 : w25.cell? ⟨gb401, 4, none⟩ = some (.slice Ao26 x402004_2.length co26) := (blk_cell BK401.out 4).trans rfl; have hcz28_5 : w25.cell? ⟨gb401, 5, none⟩ = some (.string t388) := (blk_cell BK401.out 5).trans rfl; have hcz28_6 : w25.cell? ⟨gb401, 6, none⟩ = some (.string t389) := (blk_cell BK401.out 6).trans rfl; have hcz28_7 : w25.cell? ⟨gb401, 7, none⟩ = some (.string t390) := (blk_cell BK401.out 7).trans rfl; have hcz28_8 : w25.cell? ⟨gb401, 8, none⟩ = some (.string t391) := (blk_cell BK401.out 8).trans rfl; have hcz28_9 : w25.cell? ⟨gb401, 9, none⟩ = some (.bool t392) := (blk_cell BK401.out 9).trans rfl; have hcz28_10 : w25.cell? ⟨gb401, 10, none⟩ = some (.slice Ao16 t393.length co16) := (blk_cell BK401.out 10).trans rfl; have hcz28_11 : w25.cell? ⟨gb401, 11, none⟩ = some (.int .i64 t396) := (blk_cell BK401.out 11).trans rfl; have hcz28_12 : w25.cell? ⟨gb401, 12, none⟩ = some (.string t397) := (blk_cell BK401.out 12).trans rfl; have hcz28_13 : w25.cell? ⟨gb401, 13, none⟩ = some (.string t398) := (blk_cell BK401.out 13).trans rfl; have hcz28_14 : w25.cell? ⟨gb401, 14, none⟩ = some (.string t399) := (blk_cell BK401.out 14).trans rfl; have hcz28_15 : w25.cell? ⟨gb401, 15, none⟩ = some (.int .i64 t400) := (blk_cell BK401.out 15).trans rfl; have hfz28_0 := blk_frozen BK401.out 0; have hfz28_1 := blk_frozen BK401.out 1; have hfz28_2 := blk_frozen BK401.out 2; have hfz28_3 := blk_frozen BK401.out 3; have hfz28_4 := blk_frozen BK401.out 4; have hfz28_5 := blk_frozen BK401.out 5; have hfz28_6 := blk_frozen BK401.out 6; have hfz28_7 := blk_frozen BK401.out 7; have hfz28_8 := blk_frozen BK401.out 8; have hfz28_9 := blk_frozen BK401.out 9; have hfz28_10 := blk_frozen BK401.out 10; have hfz28_11 := blk_frozen BK401.out 11; have hfz28_12 := blk_frozen BK401.out 12; have hfz28_13 := blk_frozen BK401.out 13; have hfz28_14 := blk_frozen BK401.out 14; have hfz28_15 := blk_frozen BK401.out 15) | ((with_reducible refine gate_dst (N := 54) rfl ?_); (try (refine gate_guard (by rfl) ?_; dsimp only)); refine Kd.R_lit (Kd.int .u8) _ 5 ?hg (N := 54) ?hd (xs := ([(wrap64 (97 + x7_2)) % 256] : List Int)) (inner := [.int .u8 ((wrap64 (97 + x7_2)) % 256)]) (ok := fun _ => True) (okp := fun _ => True) ?hr ?hp (fun _ hk => hk) trivial (Below.refl _ _) (Nat.le_refl _) (by simp) ?_; (case hd => rfl); (case hg => rfl); (case hr => first | (go_simp; done) | (go_simp; rfl)); (case hp => exact (Reps.one (show Kd.M (Kd.int .u8) _ _ _ ((wrap64 (97 + x7_2)) % 256) [.int .u8 ((wrap64 (97 + x7_2)) % 256)] from rfl) (Reps.none _ _))); intro v411 w29 ho30 hb hg_ hnew_; clear hg_ hnew_; (first | rw [← Ny410.out] at ho30 | (simp only [Int.reduceToNat] at ho30; rw [← Ny410.out] at ho30)); have n0_ := Aside0.mk (Kd.R_below (by (with_reducible repeat (first | apply Kd.R_alloc | apply Kd.R_drewN | apply Kd.R_drew)); exact (Kd.R_mono (Kd.R_far (p := ⟨gb401, 4, none⟩) (Kd.R_types HO_402003.out BK401.out (by decide)) (fun _ hk => hk.2) (.slice Ao27 y407.length co27)) (fun _ h_ => h_.1))) hb); have n1_ := Aside0.mk (Kd.R_below (by (with_reducible repeat (first | apply Kd.R_alloc | apply Kd.R_drewN | apply Kd.R_drew)); exact (Kd.R_mono (Kd.R_far (p := ⟨gb401, 4, none⟩) (Kd.R_types HO_402004.out BK401.out (by decide)) (fun _ hk => hk.2) (.slice Ao27 y407.length co27)) (fun _ h_ => h_.1))) hb); have n2_ := Aside0.mk (Kd.R_below (by (with_reducible repeat (first | apply Kd.R_alloc | apply Kd.R_drewN | apply Kd.R_drew)); exact (Kd.R_mono (Kd.R_far (p := ⟨gb401, 4, none⟩) (Kd.R_types HO_402010.out BK401.out (by decide)) (fun _ hk => hk.2) (.slice Ao27 y407.length co27)) (fun _ h_ => h_.1))) hb); have n3_ := Aside0.mk (Kd.R_below (by (with_reducible repeat (first | apply Kd.R_alloc | apply Kd.R_drewN | apply Kd.R_drew)); exact (Kd.R_mono (Kd.R_far (p := ⟨gb401, 4, none⟩) (Kd.R_types HO409.out BK401.out (by decide)) (fun _ hk => hk.2) (.slice Ao27 y407.length co27)) (fun _ h_ => h_.1))) hb); have n4_ := Aside0.mk (Kd.R_lower ho30 (below_size (by repeat (first | (with_reducible first | exact HB.out | apply below_alloc | apply pw_below_drewN | apply below_drew1 | refine below_set ?_ GE401.out) | exact HB.out)))); have n5_ := Aside0.mk (blk_below (g := gb401) (o := .cells #[.string t379, .string t380, .int .i64 t381, u402003, .slice Ao27 y407.length co27, .string t388, .string t389, .string t390, .string t391, .bool t392, .slice Ao16 t393.length co16, .int .i64 t396, .string t397, .string t398, .string t399, .int .i64 t400] 27 (0, 0)) (by (with_reducible repeat (first | refine blk_drewN ?_ _ | refine blk_drew ?_ | refine blk_alloc ?_ _)); refine blk_put (cs := #[.string t379, .string t380, .int .i64 t381, u402003, .slice Ao26 x402004_2.length co26, .string t388, .string t389, .string t390, .string t391, .bool t392, .slice Ao16 t393.length co16, .int .i64 t396, .string t397, .string t398, .string t399, .int .i64 t400]) ?_ 4 _ rfl; (with_reducible repeat (first | refine blk_drewN ?_ _ | refine blk_drew ?_ | refine blk_alloc ?_ _)); exact BK401.out) hb); have n6_ := Aside0.mk (below_step (by repeat (first | (with_reducible first | exact HB.out | apply below_alloc | apply pw_below_drewN | apply below_drew1 | refine below_set ?_ GE401.out) | exact HB.out)) hb); clear HO_402003; clear HO_402004; clear HO_402010; clear HO409; clear BK401; clear HB; have HO_402003 := n0_; have HO_402004 := n1_; have HO_402010 := n2_; have HO409 := n3_; have HO412 := n4_; have BK401 := n5_; have HB := n6_; clear n0_ n1_ n2_ n3_ n4_ n5_ n6_; clear hb ho30; have hcv31 := own_string (P := Try.prog) Try.underlying32 Try.underlying5 Try.underlying9 (Kd.own_of_R HO412.out)) | ((with_reducible refine gate_dst (N := 56) rfl ?_); (try (refine gate_guard (by rfl) ?_; dsimp only)); refine Kd.R_lit Kd.string _ 9 ?hg (N := 56) ?hd (xs := ([strOfNums y410] : List ByteArray)) (inner := [.string (strOfNums y410)]) (ok := fun _ => True) (okp := fun _ => True) ?hr ?hp (fun _ hk => hk) trivial (Below.refl _ _) (Nat.le_refl _) (by simp) ?_; (case hd => rfl); (case hg => rfl); (case hr => first | (go_simp; done) | (go_simp; rfl)); (case hp => exact (Reps.one (show Kd.M Kd.string _ _ _ (strOfNums y410) [.string (strOfNums y410)] from rfl) (Reps.none _ _))); intro v414 w32 ho33 hb hg_ hnew_; clear hg_ hnew_; (first | rw [← Ny413.out] at ho33 | (simp only [Int.reduceToNat] at ho33; rw [← Ny413.out] at ho33)); have n0_ := Aside0.mk (Kd.R_elder' (by (with_reducible repeat (first | apply Kd.R_alloc | apply Kd.R_drewN | apply Kd.R_drew)); exact HO_402003.out) (Kd.R_base ho33) hb); have n1_ := Aside0.mk (Kd.R_below (by (with_reducible repeat (first | apply Kd.R_alloc | apply Kd.R_drewN | apply Kd.R_drew)); exact HO_402004.out) hb); have n2_ := Aside0.mk (Kd.R_below (by (with_reducible repeat (first | apply Kd.R_alloc | apply Kd.R_drewN | apply Kd.R_drew)); exact HO_402010.out) hb); have n3_ := Aside0.mk (Kd.R_below (by (with_reducible repeat (first | apply Kd.R_alloc | apply Kd.R_drewN | apply Kd.R_drew)); exact HO409.out) hb); have n4_ := Aside0.mk (Kd.R_below (by (with_reducible repeat (first | apply Kd.R_alloc | apply Kd.R_drewN | apply Kd.R_drew)); exact HO412.out) hb); have n5_ := Aside0.mk (Kd.R_lower (Kd.R_new' ho33 (Kd.R_lt (by (with_reducible repeat (first | apply Kd.R_alloc | apply Kd.R_drewN | apply Kd.R_drew)); exact HO_402003.out))) (below_size (by repeat (first | (with_reducible first | exact HB.out | apply below_alloc | apply pw_below_drewN | apply below_drew1 | refine below_set ?_ GE401.out) | exact HB.out)))); have n6_ := Aside0.mk (blk_below (g := gb401) (o := .cells #[.string t379, .string t380, .int .i64 t381, u402003, .slice Ao27 y407.length co27, .string t388, .string t389, .string t390, .string t391, .bool t392, .slice Ao16 t393.length co16, .int .i64 t396, .string t397, .string t398, .string t399, .int .i64 t400] 27 (0, 0)) (by (with_reducible repeat (first | refine blk_drewN ?_ _ | refine blk_drew ?_ | refine blk_alloc ?_ _)); exact BK401.out) hb); have n7_ := Aside0.mk (below_step (by repeat (first | (with_reducible first | exact HB.out | apply below_alloc | apply pw_below_drewN | apply below_drew1 | refine below_set ?_ GE401.out) | exact HB.out)) hb); clear HO_402003; clear HO_402004; clear HO_402010; clear HO409; clear HO412; clear BK401; clear HB; have HO_402003 := n0_; have HO_402004 := n1_; have HO_402010 := n2_; have HO409 := n3_; have HO412 := n4_; have HO415 := n5_; have BK401 := n6_; have HB := n7_; clear n0_ n1_ n2_ n3_ n4_ n5_ n6_ n7_; clear hb ho33; have hcz34_0 : w32.cell? ⟨gb401, 0, none⟩ = some (.string t379) := (blk_cell BK401.out 0).trans rfl; have hcz34_1 : w32.cell? ⟨gb401, 1, none⟩ = some (.string t380) := (blk_cell BK401.out 1).trans rfl; have hcz34_2 : w32.cell? ⟨gb401, 2, none⟩ = some (.int .i64 t381) := (blk_cell BK401.out 2).trans rfl; have hcz34_3 : w32.cell? ⟨gb401, 3, none⟩ = some (u402003) := (blk_cell BK401.out 3).trans rfl; have hcz34_4 : w32.cell? ⟨gb401, 4, none⟩ = some (.slice Ao27 y407.length co27) := (blk_cell BK401.out 4).trans rfl; have hcz34_5 : w32.cell? ⟨gb401, 5, none⟩ = some (.string t388) := (blk_cell BK401.out 5).trans rfl; have hcz34_6 : w32.cell? ⟨gb401, 6, none⟩ = some (.string t389) := (blk_cell BK401.out 6).trans rfl; have hcz34_7 : w32.cell? ⟨gb401, 7, none⟩ = some (.string t390) := (blk_cell BK401.out 7).trans rfl; have hcz34_8 : w32.cell? ⟨gb401, 8, none⟩ = some (.string t391) := (blk_cell BK401.out 8).trans rfl; have hcz34_9 : w32.cell? ⟨gb401, 9, none⟩ = some (.bool t392) := (blk_cell BK401.out 9).trans rfl; have hcz34_10 : w32.cell? ⟨gb401, 10, none⟩ = some (.slice Ao16 t393.length co16) := (blk_cell BK401.out 10).trans rfl; have hcz34_11 : w32.cell? ⟨gb401, 11, none⟩ = some (.int .i64 t396) := (blk_cell BK401.out 11).trans rfl; have hcz34_12 : w32.cell? ⟨gb401, 12, none⟩ = some (.string t397) := (blk_cell BK401.out 12).trans rfl; have hcz34_13 : w32.cell? ⟨gb401, 13, none⟩ = some (.string t398) := (blk_cell BK401.out 13).trans rfl; have hcz34_14 : w32.cell? ⟨gb401, 14, none⟩ = some (.string t399) := (blk_cell BK401.out 14).trans rfl; have hcz34_15 : w32.cell? ⟨gb401, 15, none⟩ = some (.int .i64 t400) := (blk_cell BK401.out 15).trans rfl; have hfz34_0 := blk_frozen BK401.out 0; have hfz34_1 := blk_frozen BK401.out 1; have hfz34_2 := blk_frozen BK401.out 2; have hfz34_3 := blk_frozen BK401.out 3; have hfz34_4 := blk_frozen BK401.out 4; have hfz34_5 := blk_frozen BK401.out 5; have hfz34_6 := blk_frozen BK401.out 6; have hfz34_7 := blk_frozen BK401.out 7; have hfz34_8 := blk_frozen BK401.out 8; have hfz34_9 := blk_frozen BK401.out 9; have hfz34_10 := blk_frozen BK401.out 10; have hfz34_11 := blk_frozen BK401.out 11; have hfz34_12 := blk_frozen BK401.out 12; have hfz34_13 := blk_frozen BK401.out 13; have hfz34_14 := blk_frozen BK401.out 14; have hfz34_15 := blk_frozen BK401.out 15; obtain ⟨Ao36, co36, eo36⟩ := Kd.R_slice HO_402003.out; subst eo36) | ((with_reducible refine gate_builtin (b := .append) (xs := #[.tmp 56, .tmp 58]) rfl ?_); (try (refine gate_guard (by rfl) ?_; dsimp only)); at_builtin; refine Kd.R_append_rows Kd.string (w0 := w) w.heap.size rfl (.tmp 56) (.tmp 58) 22 9 (.string ⟨#[]⟩) 16 rfl Try.underlying22 info9 rfl (by decide) (by omega) v414 y413 x402003_2 _ _ _ (fun k_ => some k_ ≠ (.slice Ao36 x402003_2.length co36 : Value).ownBlock) (fun _ => False) rfl rfl ?aO ?aR (fun _ _ h => h) (fun _ h => h.elim) ?aF ?aB ?aS ?aL ?_; (case aR => repeat (first | exact (Kd.R_reads' HO_402003.out).2.2 | (with_reducible refine Kd.C_alloc ?_ _) | (with_reducible refine Kd.C_drewN ?_ _) | (with_reducible refine Kd.C_drew ?_))); (case aB => exact (by repeat (first | (with_reducible first | exact HB.out | apply below_alloc | apply pw_below_drewN | apply below_drew1 | refine below_set ?_ GE401.out) | exact HB.out))); (case aF => exact (fun k_ hk => Kd.fresh' (Kd.R_lt (by (with_reducible repeat (first | apply Kd.R_alloc | apply Kd.R_drewN | apply Kd.R_drew)); exact HO_402003.out)) k_ hk)); (case aO => exact (by (with_reducible repeat (first | apply Kd.R_alloc | apply Kd.R_drewN | apply Kd.R_drew)); exact Kd.R_mono HO415.out (fun _ hk => by first | exact hk.2 | simp [hk]))); (case aS => exact (below_size (by repeat (first | (with_reducible first | exact HB.out | apply below_alloc | apply pw_below_drewN | apply below_drew1 | refine below_set ?_ GE401.out) | exact HB.out)))); (case aL => have := LMc21.out; omega); intro v417 w35 ho hb hg hat; rw [← Ny416.out] at ho; have n0_ := Aside0.mk (Kd.R_after (ok := (fun _ => True)) (by (with_reducible repeat (first | apply Kd.R_alloc | apply Kd.R_drewN | apply Kd.R_drew)); exact HO_402003.out) hg hat); have n1_ := Aside0.mk (Kd.R_over' (by (with_reducible repeat (first | apply Kd.R_alloc | apply Kd.R_drewN | apply Kd.R_drew)); exact HO_402004.out) (Kd.R_typed (by (with_reducible repeat (first | apply Kd.R_alloc | apply Kd.R_drewN | apply Kd.R_drew)); exact HO415.out)) (by decide) hg); have n2_ := Aside0.mk (Kd.R_over' (by (with_reducible repeat (first | apply Kd.R_alloc | apply Kd.R_drewN | apply Kd.R_drew)); exact HO_402010.out) (Kd.R_typed (by (with_reducible repeat (first | apply Kd.R_alloc | apply Kd.R_drewN | apply Kd.R_drew)); exact HO415.out)) (by decide) hg); have n3_ := Aside0.mk (blk_grown (g := gb401) (o := .cells #[.string t379, .string t380, .int .i64 t381, .slice Ao36 x402003_2.length co36, .slice Ao27 y407.length co27, .string t388, .string t389, .string t390, .string t391, .bool t392, .slice Ao16 t393.length co16, .int .i64 t396, .string t397, .string t398, .string t399, .int .i64 t400] 27 (0, 0)) (by (with_reducible repeat (first | refine blk_drewN ?_ _ | refine blk_drew ?_ | refine blk_alloc ?_ _)); exact BK401.out) hg (Kd.R_ne HO415.out BK401.out (by decide))); have n4_ := Aside0.mk (Kd.R_over' (by (with_reducible repeat (first | apply Kd.R_alloc | apply Kd.R_drewN | apply Kd.R_drew)); exact HO409.out) (Kd.R_typed (by (with_reducible repeat (first | apply Kd.R_alloc | apply Kd.R_drewN | apply Kd.R_drew)); exact HO415.out)) (by decide) hg); have n5_ := Aside0.mk (Kd.R_over' (by (with_reducible repeat (first | apply Kd.R_alloc | apply Kd.R_drewN | apply Kd.R_drew)); exact HO412.out) (Kd.R_typed (by (with_reducible repeat (first | apply Kd.R_alloc | apply Kd.R_drewN | apply Kd.R_drew)); exact HO415.out)) (by decide) hg); have n6_ := Aside0.mk (hb); have n7_ := Aside0.mk (ho); clear HO_402003; clear HO_402004; clear HO_402010; clear BK401; clear HO409; clear HO412; clear HB; clear HO415; have HO_402003 := n0_; have HO_402004 := n1_; have HO_402010 := n2_; have BK401 := n3_; have HO409 := n4_; have HO412 := n5_; have HB := n6_; have HO418 := n7_; clear n0_ n1_ n2_ n3_ n4_ n5_ n6_ n7_; clear ho hb hg hat; obtain ⟨Ao37, co37, eo37⟩ := Kd.R_slice HO418.out; subst eo37; have hcz38_0 : w35.cell? ⟨gb401, 0, none⟩ = some (.string t379) := (blk_cell BK401.out 0).trans rfl; have hcz38_1 : w35.cell? ⟨gb401, 1, none⟩ = some (.string t380) := (blk_cell BK401.out 1).trans rfl; have hcz38_2 : w35.cell? ⟨gb401, 2, none⟩ = some (.int .i64 t381) := (blk_cell BK401.out 2).trans rfl; have hcz38_3 : w35.cell? ⟨gb401, 3, none⟩ = some (.slice Ao36 x402003_2.length co36) := (blk_cell BK401.out 3).trans rfl; have hcz38_4 : w35.cell? ⟨gb401, 4, none⟩ = some (.slice Ao27 y407.length co27) := (blk_cell BK401.out 4).trans rfl; have hcz38_5 : w35.cell? ⟨gb401, 5, none⟩ = some (.string t388) := (blk_cell BK401.out 5).trans rfl; have hcz38_6 : w35.cell? ⟨gb401, 6, none⟩ = some (.string t389) := (blk_cell BK401.out 6).trans rfl; have hcz38_7 : w35.cell? ⟨gb401, 7, none⟩ = some (.string t390) := (blk_cell BK401.out 7).trans rfl; have hcz38_8 : w35.cell? ⟨gb401, 8, none⟩ = some (.string t391) := (blk_cell BK401.out 8).trans rfl; have hcz38_9 : w35.cell? ⟨gb401, 9, none⟩ = some (.bool t392) := (blk_cell BK401.out 9).trans rfl; have hcz38_10 : w35.cell? ⟨gb401, 10, none⟩ = some (.slice Ao16 t393.length co16) := (blk_cell BK401.out 10).trans rfl; have hcz38_11 : w35.cell? ⟨gb401, 11, none⟩ = some (.int .i64 t396) := (blk_cell BK401.out 11).trans rfl; have hcz38_12 : w35.cell? ⟨gb401, 12, none⟩ = some (.string t397) := (blk_cell BK401.out 12).trans rfl; have hcz38_13 : w35.cell? ⟨gb401, 13, none⟩ = some (.string t398) := (blk_cell BK401.out 13).trans rfl; have hcz38_14 : w35.cell? ⟨gb401, 14, none⟩ = some (.string t399) := (blk_cell BK401.out 14).trans rfl; have hcz38_15 : w35.cell? ⟨gb401, 15, none⟩ = some (.int .i64 t400) := (blk_cell BK401.out 15).trans rfl; have hfz38_0 := blk_frozen BK401.out 0; have hfz38_1 := blk_frozen BK401.out 1; have hfz38_2 := blk_frozen BK401.out 2; have hfz38_3 := blk_frozen BK401.out 3; have hfz38_4 := blk_frozen BK401.out 4; have hfz38_5 := blk_frozen BK401.out 5; have hfz38_6 := blk_frozen BK401.out 6; have hfz38_7 := blk_frozen BK401.out 7; have hfz38_8 := blk_frozen BK401.out 8; have hfz38_9 := blk_frozen BK401.out 9; have hfz38_10 := blk_frozen BK401.out 10; have hfz38_11 := blk_frozen BK401.out 11; have hfz38_12 := blk_frozen BK401.out 12; have hfz38_13 := blk_frozen BK401.out 13; have hfz38_14 := blk_frozen BK401.out 14; have hfz38_15 := blk_frozen BK401.out 15))
                    go_roundg k2
                    case measure => have := HJ2.out; have := HK2.out; omega
                    case rel => exact ⟨(wrap64 ((wrap64 (x6_2 + 1)) + t403)), (wrap64 (x7_2 + 1)), (y416), (y407), (.slice Ao37 y416.length co37), (.slice Ao27 y407.length co27), (by first | rfl | (simp; done) | (simp [*]; done)), (by first | rfl | (simp; done) | (simp [*]; done)), H', ⟨by have := HJ2.out; have := HK2.out; omega⟩, ⟨by (with_reducible repeat (first | apply Kd.R_alloc | apply Kd.R_drewN | apply Kd.R_drew)); exact Kd.R_mono (Kd.R_far (p := ⟨gb401, 3, none⟩) (Kd.R_types HO418.out BK401.out (by decide)) (fun _ hk => hk.2) (.slice Ao37 y416.length co37)) (fun _ hk => by first | exact trivial | simp [hk])⟩, ⟨by (with_reducible repeat (first | apply Kd.R_alloc | apply Kd.R_drewN | apply Kd.R_drew)); exact Kd.R_mono (Kd.R_far (p := ⟨gb401, 3, none⟩) (Kd.R_types HO409.out BK401.out (by decide)) (fun _ hk => hk.2) (.slice Ao37 y416.length co37)) (fun _ hk => by first | exact trivial | simp [hk])⟩, ⟨by (with_reducible repeat (first | apply Kd.R_alloc | apply Kd.R_drewN | apply Kd.R_drew)); exact Kd.R_mono (Kd.R_far (p := ⟨gb401, 3, none⟩) (Kd.R_types HO_402010.out BK401.out (by decide)) (fun _ hk => hk.2) (.slice Ao37 y416.length co37)) (fun _ hk => by first | exact trivial | simp [hk])⟩, ⟨by (with_reducible repeat (first | refine blk_drewN ?_ _ | refine blk_drew ?_ | refine blk_alloc ?_ _)); refine blk_put (cs := #[.string t379, .string t380, .int .i64 t381, .slice Ao36 x402003_2.length co36, .slice Ao27 y407.length co27, .string t388, .string t389, .string t390, .string t391, .bool t392, .slice Ao16 t393.length co16, .int .i64 t396, .string t397, .string t398, .string t399, .int .i64 t400]) ?_ 3 _ rfl; (with_reducible repeat (first | refine blk_drewN ?_ _ | refine blk_drew ?_ | refine blk_alloc ?_ _)); exact BK401.out⟩, ⟨by repeat (first | (with_reducible first | exact HB.out | apply below_alloc | apply pw_below_drewN | apply below_drew1 | refine below_set ?_ GE401.out) | exact HB.out)⟩⟩
                  · rw [if_neg c21] at H
                    exact absurd H (by simp)
                · rw [if_neg c20] at H
                  exact absurd H (by simp)
              · rw [if_neg c18] at H
                exact absurd H (by simp)
            · rw [if_neg c17] at H
              have c17b0 : decide (x7_2 < (l0.length : Int)) = false := decide_eq_false c17
              clear c17
              replace H := Option.bind_eq_some_iff.mp H
              obtain ⟨⟨t419, t420⟩, A390, H⟩ := H
              replace H : ((system_May.f k2 t379 t380 t381 x402003_2 x402004_2 t388 t389 t390 t391 t392 t393 t396 t397 t398 t399 t400).bind fun t421 => (if t421 = true then (fleuronlaw9_SystemAdds.l1 k2 t419 t420 a1 (⟨#[]⟩ : ByteArray) 0 t379 t380 t381 x402003_2 x402004_2 t388 t389 t390 t391 t392 t393 t396 t397 t398 t399 t400) else (some false))) = some r := H
              have A39 := Aside0.mk A390
              clear A390
              replace H := Option.bind_eq_some_iff.mp H
              obtain ⟨t421, A400, H⟩ := H
              replace H : (if t421 = true then (fleuronlaw9_SystemAdds.l1 k2 t419 t420 a1 (⟨#[]⟩ : ByteArray) 0 t379 t380 t381 x402003_2 x402004_2 t388 t389 t390 t391 t392 t393 t396 t397 t398 t399 t400) else (some false)) = some r := H
              have A40 := Aside0.mk A400
              clear A400
              by_cases c41 : t421 = true
              · subst c41
                have H1 : (fleuronlaw9_SystemAdds.l1 k2 t419 t420 a1 (⟨#[]⟩ : ByteArray) 0 t379 t380 t381 x402003_2 x402004_2 t388 t389 t390 t391 t392 t393 t396 t397 t398 t399 t400) = some r := by rw [if_pos rfl] at H; exact H
                clear H
                have H := H1
                clear H1
                have H' := Aside0.mk H
                clear H
                have hcz42_0 : wr.cell? ⟨gb401, 0, none⟩ = some (.string t379) := (blk_cell BK401.out 0).trans rfl
                have hcz42_1 : wr.cell? ⟨gb401, 1, none⟩ = some (.string t380) := (blk_cell BK401.out 1).trans rfl
                have hcz42_2 : wr.cell? ⟨gb401, 2, none⟩ = some (.int .i64 t381) := (blk_cell BK401.out 2).trans rfl
                have hcz42_3 : wr.cell? ⟨gb401, 3, none⟩ = some (u402003) := (blk_cell BK401.out 3).trans rfl
                have hcz42_4 : wr.cell? ⟨gb401, 4, none⟩ = some (u402004) := (blk_cell BK401.out 4).trans rfl
                have hcz42_5 : wr.cell? ⟨gb401, 5, none⟩ = some (.string t388) := (blk_cell BK401.out 5).trans rfl
                have hcz42_6 : wr.cell? ⟨gb401, 6, none⟩ = some (.string t389) := (blk_cell BK401.out 6).trans rfl
                have hcz42_7 : wr.cell? ⟨gb401, 7, none⟩ = some (.string t390) := (blk_cell BK401.out 7).trans rfl
                have hcz42_8 : wr.cell? ⟨gb401, 8, none⟩ = some (.string t391) := (blk_cell BK401.out 8).trans rfl
                have hcz42_9 : wr.cell? ⟨gb401, 9, none⟩ = some (.bool t392) := (blk_cell BK401.out 9).trans rfl
                have hcz42_10 : wr.cell? ⟨gb401, 10, none⟩ = some (.slice Ao16 t393.length co16) := (blk_cell BK401.out 10).trans rfl
                have hcz42_11 : wr.cell? ⟨gb401, 11, none⟩ = some (.int .i64 t396) := (blk_cell BK401.out 11).trans rfl
                have hcz42_12 : wr.cell? ⟨gb401, 12, none⟩ = some (.string t397) := (blk_cell BK401.out 12).trans rfl
                have hcz42_13 : wr.cell? ⟨gb401, 13, none⟩ = some (.string t398) := (blk_cell BK401.out 13).trans rfl
                have hcz42_14 : wr.cell? ⟨gb401, 14, none⟩ = some (.string t399) := (blk_cell BK401.out 14).trans rfl
                have hcz42_15 : wr.cell? ⟨gb401, 15, none⟩ = some (.int .i64 t400) := (blk_cell BK401.out 15).trans rfl
                have hfz42_0 := blk_frozen BK401.out 0
                have hfz42_1 := blk_frozen BK401.out 1
                have hfz42_2 := blk_frozen BK401.out 2
                have hfz42_3 := blk_frozen BK401.out 3
                have hfz42_4 := blk_frozen BK401.out 4
                have hfz42_5 := blk_frozen BK401.out 5
                have hfz42_6 := blk_frozen BK401.out 6
                have hfz42_7 := blk_frozen BK401.out 7
                have hfz42_8 := blk_frozen BK401.out 8
                have hfz42_9 := blk_frozen BK401.out 9
                have hfz42_10 := blk_frozen BK401.out 10
                have hfz42_11 := blk_frozen BK401.out 11
                have hfz42_12 := blk_frozen BK401.out 12
                have hfz42_13 := blk_frozen BK401.out 13
                have hfz42_14 := blk_frozen BK401.out 14
                have hfz42_15 := blk_frozen BK401.out 15
                obtain ⟨Ao43, co43, eo43⟩ := Kd.R_slice HO_402003.out
                subst eo43
                obtain ⟨Ao44, co44, eo44⟩ := Kd.R_slice HO_402004.out
                subst eo44
                go_wp2_with (first | ((with_reducible refine gate_callee (f := 11) rfl ?_); refine goesL_ (some 64) rfl rfl Try.func11 (by kernel_rfl) rfl #[.agg #[.string t379, .string t380, .int .i64 t381, .slice Ao43 x402003_2.length co43, .slice Ao44 x402004_2.length co44, .string t388, .string t389, .string t390, .string t391, .bool t392, .slice Ao16 t393.length co16, .int .i64 t396, .string t397, .string t398, .string t399, .int .i64 t400], .int .i64 a1] rfl (by (try simp only [List.map_toArray, List.map_cons, List.map_nil]); first | done | rfl | (simp only [List.length_drop, List.length_take]; rfl)) ?_; (with_reducible refine (system_Signs.calls k2 t379 t380 t381 _ _ x402003_2 _ _ x402004_2 t388 t389 t390 t391 t392 _ _ t393 t396 t397 t398 t399 t400 a1 t419 t420 _ ?side1 ?side2 ?side3 ?side4 ?side5 ?side6 A39.out).mono ?_); (case side1 => repeat (first | exact (Kd.R_reads' HO_402003.out).2.2 | (with_reducible refine Kd.C_alloc ?_ _) | (with_reducible refine Kd.C_drewN ?_ _) | (with_reducible refine Kd.C_drew ?_))); (case side2 => exact (Kd.R_reads' HO_402003.out).2.1); (case side3 => repeat (first | exact (Kd.R_reads' HO_402004.out).2.2 | (with_reducible refine Kd.C_alloc ?_ _) | (with_reducible refine Kd.C_drewN ?_ _) | (with_reducible refine Kd.C_drew ?_))); (case side4 => exact (Kd.R_reads' HO_402004.out).2.1); (case side5 => repeat (first | exact (Kd.R_reads' HO_402010.out).2.2 | (with_reducible refine Kd.C_alloc ?_ _) | (with_reducible refine Kd.C_drewN ?_ _) | (with_reducible refine Kd.C_drew ?_))); (case side6 => exact (Kd.R_reads' HO_402010.out).2.1); rintro e w45 ⟨rfl, hb⟩; refine ⟨_, rfl, ?_⟩; have n0_ := Aside0.mk (Kd.R_below (by (with_reducible repeat (first | apply Kd.R_alloc | apply Kd.R_drewN | apply Kd.R_drew)); exact HO_402003.out) hb); have n1_ := Aside0.mk (Kd.R_below (by (with_reducible repeat (first | apply Kd.R_alloc | apply Kd.R_drewN | apply Kd.R_drew)); exact HO_402004.out) hb); have n2_ := Aside0.mk (Kd.R_below (by (with_reducible repeat (first | apply Kd.R_alloc | apply Kd.R_drewN | apply Kd.R_drew)); exact HO_402010.out) hb); have n3_ := Aside0.mk (blk_below (g := gb401) (o := .cells #[.string t379, .string t380, .int .i64 t381, .slice Ao43 x402003_2.length co43, .slice Ao44 x402004_2.length co44, .string t388, .string t389, .string t390, .string t391, .bool t392, .slice Ao16 t393.length co16, .int .i64 t396, .string t397, .string t398, .string t399, .int .i64 t400] 27 (0, 0)) (by (with_reducible repeat (first | refine blk_drewN ?_ _ | refine blk_drew ?_ | refine blk_alloc ?_ _)); exact BK401.out) hb); have n4_ := Aside0.mk (below_step (by repeat (first | (with_reducible first | exact HB.out | apply below_alloc | apply pw_below_drewN | apply below_drew1 | refine below_set ?_ GE401.out) | exact HB.out)) hb); clear HO_402003; clear HO_402004; clear HO_402010; clear BK401; clear HB; have HO_402003 := n0_; have HO_402004 := n1_; have HO_402010 := n2_; have BK401 := n3_; have HB := n4_; clear n0_ n1_ n2_ n3_ n4_; (try clear hb); (try clear hb2); (try clear hk); (try clear hi); have hcz46_0 : w45.cell? ⟨gb401, 0, none⟩ = some (.string t379) := (blk_cell BK401.out 0).trans rfl; have hcz46_1 : w45.cell? ⟨gb401, 1, none⟩ = some (.string t380) := (blk_cell BK401.out 1).trans rfl; have hcz46_2 : w45.cell? ⟨gb401, 2, none⟩ = some (.int .i64 t381) := (blk_cell BK401.out 2).trans rfl; have hcz46_3 : w45.cell? ⟨gb401, 3, none⟩ = some (.slice Ao43 x402003_2.length co43) := (blk_cell BK401.out 3).trans rfl; have hcz46_4 : w45.cell? ⟨gb401, 4, none⟩ = some (.slice Ao44 x402004_2.length co44) := (blk_cell BK401.out 4).trans rfl; have hcz46_5 : w45.cell? ⟨gb401, 5, none⟩ = some (.string t388) := (blk_cell BK401.out 5).trans rfl; have hcz46_6 : w45.cell? ⟨gb401, 6, none⟩ = some (.string t389) := (blk_cell BK401.out 6).trans rfl; have hcz46_7 : w45.cell? ⟨gb401, 7, none⟩ = some (.string t390) := (blk_cell BK401.out 7).trans rfl; have hcz46_8 : w45.cell? ⟨gb401, 8, none⟩ = some (.string t391) := (blk_cell BK401.out 8).trans rfl; have hcz46_9 : w45.cell? ⟨gb401, 9, none⟩ = some (.bool t392) := (blk_cell BK401.out 9).trans rfl; have hcz46_10 : w45.cell? ⟨gb401, 10, none⟩ = some (.slice Ao16 t393.length co16) := (blk_cell BK401.out 10).trans rfl; have hcz46_11 : w45.cell? ⟨gb401, 11, none⟩ = some (.int .i64 t396) := (blk_cell BK401.out 11).trans rfl; have hcz46_12 : w45.cell? ⟨gb401, 12, none⟩ = some (.string t397) := (blk_cell BK401.out 12).trans rfl; have hcz46_13 : w45.cell? ⟨gb401, 13, none⟩ = some (.string t398) := (blk_cell BK401.out 13).trans rfl; have hcz46_14 : w45.cell? ⟨gb401, 14, none⟩ = some (.string t399) := (blk_cell BK401.out 14).trans rfl; have hcz46_15 : w45.cell? ⟨gb401, 15, none⟩ = some (.int .i64 t400) := (blk_cell BK401.out 15).trans rfl; have hfz46_0 := blk_frozen BK401.out 0; have hfz46_1 := blk_frozen BK401.out 1; have hfz46_2 := blk_frozen BK401.out 2; have hfz46_3 := blk_frozen BK401.out 3; have hfz46_4 := blk_frozen BK401.out 4; have hfz46_5 := blk_frozen BK401.out 5; have hfz46_6 := blk_frozen BK401.out 6; have hfz46_7 := blk_frozen BK401.out 7; have hfz46_8 := blk_frozen BK401.out 8; have hfz46_9 := blk_frozen BK401.out 9; have hfz46_10 := blk_frozen BK401.out 10; have hfz46_11 := blk_frozen BK401.out 11; have hfz46_12 := blk_frozen BK401.out 12; have hfz46_13 := blk_frozen BK401.out 13; have hfz46_14 := blk_frozen BK401.out 14; have hfz46_15 := blk_frozen BK401.out 15) | ((with_reducible refine gate_callee (f := 12) rfl ?_); refine goesL_ (some 68) rfl rfl Try.func12 (by kernel_rfl) rfl #[.agg #[.string t379, .string t380, .int .i64 t381, .slice Ao43 x402003_2.length co43, .slice Ao44 x402004_2.length co44, .string t388, .string t389, .string t390, .string t391, .bool t392, .slice Ao16 t393.length co16, .int .i64 t396, .string t397, .string t398, .string t399, .int .i64 t400]] rfl (by (try simp only [List.map_toArray, List.map_cons, List.map_nil]); first | done | rfl | (simp only [List.length_drop, List.length_take]; rfl)) ?_; (with_reducible refine (system_May.calls k2 t379 t380 t381 _ _ x402003_2 _ _ x402004_2 t388 t389 t390 t391 t392 _ _ t393 t396 t397 t398 t399 t400 true _ ?side1 ?side2 ?side3 ?side4 ?side5 ?side6 A40.out).mono ?_); (case side1 => repeat (first | exact (Kd.R_reads' HO_402003.out).2.2 | (with_reducible refine Kd.C_alloc ?_ _) | (with_reducible refine Kd.C_drewN ?_ _) | (with_reducible refine Kd.C_drew ?_))); (case side2 => exact (Kd.R_reads' HO_402003.out).2.1); (case side3 => repeat (first | exact (Kd.R_reads' HO_402004.out).2.2 | (with_reducible refine Kd.C_alloc ?_ _) | (with_reducible refine Kd.C_drewN ?_ _) | (with_reducible refine Kd.C_drew ?_))); (case side4 => exact (Kd.R_reads' HO_402004.out).2.1); (case side5 => repeat (first | exact (Kd.R_reads' HO_402010.out).2.2 | (with_reducible refine Kd.C_alloc ?_ _) | (with_reducible refine Kd.C_drewN ?_ _) | (with_reducible refine Kd.C_drew ?_))); (case side6 => exact (Kd.R_reads' HO_402010.out).2.1); rintro e w47 ⟨rfl, hb⟩; refine ⟨_, rfl, ?_⟩; have n0_ := Aside0.mk (Kd.R_below (by (with_reducible repeat (first | apply Kd.R_alloc | apply Kd.R_drewN | apply Kd.R_drew)); exact HO_402003.out) hb); have n1_ := Aside0.mk (Kd.R_below (by (with_reducible repeat (first | apply Kd.R_alloc | apply Kd.R_drewN | apply Kd.R_drew)); exact HO_402004.out) hb); have n2_ := Aside0.mk (Kd.R_below (by (with_reducible repeat (first | apply Kd.R_alloc | apply Kd.R_drewN | apply Kd.R_drew)); exact HO_402010.out) hb); have n3_ := Aside0.mk (blk_below (g := gb401) (o := .cells #[.string t379, .string t380, .int .i64 t381, .slice Ao43 x402003_2.length co43, .slice Ao44 x402004_2.length co44, .string t388, .string t389, .string t390, .string t391, .bool t392, .slice Ao16 t393.length co16, .int .i64 t396, .string t397, .string t398, .string t399, .int .i64 t400] 27 (0, 0)) (by (with_reducible repeat (first | refine blk_drewN ?_ _ | refine blk_drew ?_ | refine blk_alloc ?_ _)); exact BK401.out) hb); have n4_ := Aside0.mk (below_step (by repeat (first | (with_reducible first | exact HB.out | apply below_alloc | apply pw_below_drewN | apply below_drew1 | refine below_set ?_ GE401.out) | exact HB.out)) hb); clear HO_402003; clear HO_402004; clear HO_402010; clear BK401; clear HB; have HO_402003 := n0_; have HO_402004 := n1_; have HO_402010 := n2_; have BK401 := n3_; have HB := n4_; clear n0_ n1_ n2_ n3_ n4_; (try clear hb); (try clear hb2); (try clear hk); (try clear hi)))
                go_loopg [10, 11, 12] k2 (fun kq v10 v11 v12 w' => ∃ (x10_3 : Int) (x11_3 : ByteArray) (x12_3 : Int), v10 = .int .i64 x10_3 ∧ v11 = .string x11_3 ∧ v12 = .int .i64 x12_3 ∧ Aside0 (fleuronlaw9_SystemAdds.l1 kq t419 t420 x10_3 x11_3 x12_3 t379 t380 t381 x402003_2 x402004_2 t388 t389 t390 t391 t392 t393 t396 t397 t398 t399 t400 = some r) ∧ Aside0 (kq ≤ k2) ∧ Aside0 (Kd.R Kd.string 9 w' w.heap.size (fun _ => True) (.slice Ao43 x402003_2.length co43) x402003_2) ∧ Aside0 (Kd.R (Kd.int .i64) 3 w' w.heap.size (fun _ => True) (.slice Ao44 x402004_2.length co44) x402004_2) ∧ Aside0 (Kd.R k41 41 w' w.heap.size (fun _ => True) (.slice Ao16 t393.length co16) t393) ∧ Aside0 (w'.heap[gb401]? = some (.cells #[.string t379, .string t380, .int .i64 t381, (.slice Ao43 x402003_2.length co43), (.slice Ao44 x402004_2.length co44), .string t388, .string t389, .string t390, .string t391, .bool t392, (.slice Ao16 t393.length co16), .int .i64 t396, .string t397, .string t398, .string t399, .int .i64 t400] 27 (0, 0))) ∧ Aside0 (Below w.heap.size w w'))
                case atStart => exact ⟨(a1), ((⟨#[]⟩ : ByteArray)), (0), (by first | rfl | (simp; done) | (simp [*]; done)), (by first | rfl | (simp; done) | (simp [*]; done)), (by first | rfl | (simp; done) | (simp [*]; done)), H', ⟨Nat.le_refl _⟩, ⟨by (with_reducible repeat (first | apply Kd.R_alloc | apply Kd.R_drewN | apply Kd.R_drew)); exact HO_402003.out⟩, ⟨by (with_reducible repeat (first | apply Kd.R_alloc | apply Kd.R_drewN | apply Kd.R_drew)); exact HO_402004.out⟩, ⟨by (with_reducible repeat (first | apply Kd.R_alloc | apply Kd.R_drewN | apply Kd.R_drew)); exact HO_402010.out⟩, ⟨by (with_reducible repeat (first | refine blk_drewN ?_ _ | refine blk_drew ?_ | refine blk_alloc ?_ _)); exact BK401.out⟩, ⟨by repeat (first | (with_reducible first | exact HB.out | apply below_alloc | apply pw_below_drewN | apply below_drew1 | refine below_set ?_ GE401.out) | exact HB.out)⟩⟩
                case round =>
                  clear H'
                  try clear c1
                  try clear c2
                  try clear p2
                  try clear hcv3
                  try clear c4
                  try clear c4b0
                  try clear c4b1
                  try clear p4
                  try clear q4
                  try clear hx4
                  try clear c5
                  try clear c5b0
                  try clear c5b1
                  try clear c6
                  try clear c6b0
                  try clear p6
                  try clear c7
                  try clear c10
                  try clear c11
                  try clear c12
                  try clear c13
                  try clear c15
                  try clear c17
                  try clear c17b0
                  try clear c18
                  try clear c18b0
                  try clear c20
                  try clear c21
                  try clear hcv31
                  try clear p40
                  try clear q40
                  try clear hx40
                  try clear c41
                  try clear hcz13_0
                  try clear hcz13_1
                  try clear hcz13_10
                  try clear hcz13_11
                  try clear hcz13_12
                  try clear hcz13_13
                  try clear hcz13_14
                  try clear hcz13_15
                  try clear hcz13_2
                  try clear hcz13_3
                  try clear hcz13_4
                  try clear hcz13_5
                  try clear hcz13_6
                  try clear hcz13_7
                  try clear hcz13_8
                  try clear hcz13_9
                  try clear hcz24_0
                  try clear hcz24_1
                  try clear hcz24_10
                  try clear hcz24_11
                  try clear hcz24_12
                  try clear hcz24_13
                  try clear hcz24_14
                  try clear hcz24_15
                  try clear hcz24_2
                  try clear hcz24_3
                  try clear hcz24_4
                  try clear hcz24_5
                  try clear hcz24_6
                  try clear hcz24_7
                  try clear hcz24_8
                  try clear hcz24_9
                  try clear hcz28_0
                  try clear hcz28_1
                  try clear hcz28_10
                  try clear hcz28_11
                  try clear hcz28_12
                  try clear hcz28_13
                  try clear hcz28_14
                  try clear hcz28_15
                  try clear hcz28_2
                  try clear hcz28_3
                  try clear hcz28_4
                  try clear hcz28_5
                  try clear hcz28_6
                  try clear hcz28_7
                  try clear hcz28_8
                  try clear hcz28_9
                  try clear hcz34_0
                  try clear hcz34_1
                  try clear hcz34_10
                  try clear hcz34_11
                  try clear hcz34_12
                  try clear hcz34_13
                  try clear hcz34_14
                  try clear hcz34_15
                  try clear hcz34_2
                  try clear hcz34_3
                  try clear hcz34_4
                  try clear hcz34_5
                  try clear hcz34_6
                  try clear hcz34_7
                  try clear hcz34_8
                  try clear hcz34_9
                  try clear hcz38_0
                  try clear hcz38_1
                  try clear hcz38_10
                  try clear hcz38_11
                  try clear hcz38_12
                  try clear hcz38_13
                  try clear hcz38_14
                  try clear hcz38_15
                  try clear hcz38_2
                  try clear hcz38_3
                  try clear hcz38_4
                  try clear hcz38_5
                  try clear hcz38_6
                  try clear hcz38_7
                  try clear hcz38_8
                  try clear hcz38_9
                  try clear hcz42_0
                  try clear hcz42_1
                  try clear hcz42_10
                  try clear hcz42_11
                  try clear hcz42_12
                  try clear hcz42_13
                  try clear hcz42_14
                  try clear hcz42_15
                  try clear hcz42_2
                  try clear hcz42_3
                  try clear hcz42_4
                  try clear hcz42_5
                  try clear hcz42_6
                  try clear hcz42_7
                  try clear hcz42_8
                  try clear hcz42_9
                  try clear hcz46_0
                  try clear hcz46_1
                  try clear hcz46_10
                  try clear hcz46_11
                  try clear hcz46_12
                  try clear hcz46_13
                  try clear hcz46_14
                  try clear hcz46_15
                  try clear hcz46_2
                  try clear hcz46_3
                  try clear hcz46_4
                  try clear hcz46_5
                  try clear hcz46_6
                  try clear hcz46_7
                  try clear hcz46_8
                  try clear hcz46_9
                  try clear hfz13_0
                  try clear hfz13_1
                  try clear hfz13_10
                  try clear hfz13_11
                  try clear hfz13_12
                  try clear hfz13_13
                  try clear hfz13_14
                  try clear hfz13_15
                  try clear hfz13_2
                  try clear hfz13_3
                  try clear hfz13_4
                  try clear hfz13_5
                  try clear hfz13_6
                  try clear hfz13_7
                  try clear hfz13_8
                  try clear hfz13_9
                  try clear hfz24_0
                  try clear hfz24_1
                  try clear hfz24_10
                  try clear hfz24_11
                  try clear hfz24_12
                  try clear hfz24_13
                  try clear hfz24_14
                  try clear hfz24_15
                  try clear hfz24_2
                  try clear hfz24_3
                  try clear hfz24_4
                  try clear hfz24_5
                  try clear hfz24_6
                  try clear hfz24_7
                  try clear hfz24_8
                  try clear hfz24_9
                  try clear hfz28_0
                  try clear hfz28_1
                  try clear hfz28_10
                  try clear hfz28_11
                  try clear hfz28_12
                  try clear hfz28_13
                  try clear hfz28_14
                  try clear hfz28_15
                  try clear hfz28_2
                  try clear hfz28_3
                  try clear hfz28_4
                  try clear hfz28_5
                  try clear hfz28_6
                  try clear hfz28_7
                  try clear hfz28_8
                  try clear hfz28_9
                  try clear hfz34_0
                  try clear hfz34_1
                  try clear hfz34_10
                  try clear hfz34_11
                  try clear hfz34_12
                  try clear hfz34_13
                  try clear hfz34_14
                  try clear hfz34_15
                  try clear hfz34_2
                  try clear hfz34_3
                  try clear hfz34_4
                  try clear hfz34_5
                  try clear hfz34_6
                  try clear hfz34_7
                  try clear hfz34_8
                  try clear hfz34_9
                  try clear hfz38_0
                  try clear hfz38_1
                  try clear hfz38_10
                  try clear hfz38_11
                  try clear hfz38_12
                  try clear hfz38_13
                  try clear hfz38_14
                  try clear hfz38_15
                  try clear hfz38_2
                  try clear hfz38_3
                  try clear hfz38_4
                  try clear hfz38_5
                  try clear hfz38_6
                  try clear hfz38_7
                  try clear hfz38_8
                  try clear hfz38_9
                  try clear hfz42_0
                  try clear hfz42_1
                  try clear hfz42_10
                  try clear hfz42_11
                  try clear hfz42_12
                  try clear hfz42_13
                  try clear hfz42_14
                  try clear hfz42_15
                  try clear hfz42_2
                  try clear hfz42_3
                  try clear hfz42_4
                  try clear hfz42_5
                  try clear hfz42_6
                  try clear hfz42_7
                  try clear hfz42_8
                  try clear hfz42_9
                  try clear hfz46_0
                  try clear hfz46_1
                  try clear hfz46_10
                  try clear hfz46_11
                  try clear hfz46_12
                  try clear hfz46_13
                  try clear hfz46_14
                  try clear hfz46_15
                  try clear hfz46_2
                  try clear hfz46_3
                  try clear hfz46_4
                  try clear hfz46_5
                  try clear hfz46_6
                  try clear hfz46_7
                  try clear hfz46_8
                  try clear hfz46_9
                  try clear hx402_0
                  try clear p2
                  try clear p402
                  try clear q402
                  obtain ⟨x10_3, x11_3, x12_3, rfl, rfl, rfl, HA, HK3, HO_402003, HO_402004, HO_402010, BK401, HB⟩ := hrel
                  cases gk with
                  | zero => exact absurd HA.out (by simp [fleuronlaw9_SystemAdds.l1])
                  | succ k3 =>
                    have H := HA.out
                    clear HA
                    simp only [fleuronlaw9_SystemAdds.l1] at H
                    by_cases c48 : x12_3 < (x402004_2.length : Int)
                    · rw [if_pos c48] at H
                      have c48b0 : decide (x12_3 < (x402004_2.length : Int)) = true := decide_eq_true c48
                      clear c48
                      have H' := Aside0.mk H
                      clear H
                      have hcz49_0 : wr.cell? ⟨gb401, 0, none⟩ = some (.string t379) := (blk_cell BK401.out 0).trans rfl
                      have hcz49_1 : wr.cell? ⟨gb401, 1, none⟩ = some (.string t380) := (blk_cell BK401.out 1).trans rfl
                      have hcz49_2 : wr.cell? ⟨gb401, 2, none⟩ = some (.int .i64 t381) := (blk_cell BK401.out 2).trans rfl
                      have hcz49_3 : wr.cell? ⟨gb401, 3, none⟩ = some (.slice Ao43 x402003_2.length co43) := (blk_cell BK401.out 3).trans rfl
                      have hcz49_4 : wr.cell? ⟨gb401, 4, none⟩ = some (.slice Ao44 x402004_2.length co44) := (blk_cell BK401.out 4).trans rfl
                      have hcz49_5 : wr.cell? ⟨gb401, 5, none⟩ = some (.string t388) := (blk_cell BK401.out 5).trans rfl
                      have hcz49_6 : wr.cell? ⟨gb401, 6, none⟩ = some (.string t389) := (blk_cell BK401.out 6).trans rfl
                      have hcz49_7 : wr.cell? ⟨gb401, 7, none⟩ = some (.string t390) := (blk_cell BK401.out 7).trans rfl
                      have hcz49_8 : wr.cell? ⟨gb401, 8, none⟩ = some (.string t391) := (blk_cell BK401.out 8).trans rfl
                      have hcz49_9 : wr.cell? ⟨gb401, 9, none⟩ = some (.bool t392) := (blk_cell BK401.out 9).trans rfl
                      have hcz49_10 : wr.cell? ⟨gb401, 10, none⟩ = some (.slice Ao16 t393.length co16) := (blk_cell BK401.out 10).trans rfl
                      have hcz49_11 : wr.cell? ⟨gb401, 11, none⟩ = some (.int .i64 t396) := (blk_cell BK401.out 11).trans rfl
                      have hcz49_12 : wr.cell? ⟨gb401, 12, none⟩ = some (.string t397) := (blk_cell BK401.out 12).trans rfl
                      have hcz49_13 : wr.cell? ⟨gb401, 13, none⟩ = some (.string t398) := (blk_cell BK401.out 13).trans rfl
                      have hcz49_14 : wr.cell? ⟨gb401, 14, none⟩ = some (.string t399) := (blk_cell BK401.out 14).trans rfl
                      have hcz49_15 : wr.cell? ⟨gb401, 15, none⟩ = some (.int .i64 t400) := (blk_cell BK401.out 15).trans rfl
                      have hfz49_0 := blk_frozen BK401.out 0
                      have hfz49_1 := blk_frozen BK401.out 1
                      have hfz49_2 := blk_frozen BK401.out 2
                      have hfz49_3 := blk_frozen BK401.out 3
                      have hfz49_4 := blk_frozen BK401.out 4
                      have hfz49_5 := blk_frozen BK401.out 5
                      have hfz49_6 := blk_frozen BK401.out 6
                      have hfz49_7 := blk_frozen BK401.out 7
                      have hfz49_8 := blk_frozen BK401.out 8
                      have hfz49_9 := blk_frozen BK401.out 9
                      have hfz49_10 := blk_frozen BK401.out 10
                      have hfz49_11 := blk_frozen BK401.out 11
                      have hfz49_12 := blk_frozen BK401.out 12
                      have hfz49_13 := blk_frozen BK401.out 13
                      have hfz49_14 := blk_frozen BK401.out 14
                      have hfz49_15 := blk_frozen BK401.out 15
                      go_wp2
                      go_loopg [10, 11] k3 (fun kq v10 v11 w' => ∃ (x10_4 : Int) (x11_4 : ByteArray), v10 = .int .i64 x10_4 ∧ v11 = .string x11_4 ∧ Aside0 (fleuronlaw9_SystemAdds.l2 kq t419 t420 x10_4 x11_4 x12_3 t379 t380 t381 x402003_2 x402004_2 t388 t389 t390 t391 t392 t393 t396 t397 t398 t399 t400 = some r) ∧ Aside0 (kq ≤ k3) ∧ Aside0 (Kd.R Kd.string 9 w' w.heap.size (fun _ => True) (.slice Ao43 x402003_2.length co43) x402003_2) ∧ Aside0 (Kd.R (Kd.int .i64) 3 w' w.heap.size (fun _ => True) (.slice Ao44 x402004_2.length co44) x402004_2) ∧ Aside0 (Kd.R k41 41 w' w.heap.size (fun _ => True) (.slice Ao16 t393.length co16) t393) ∧ Aside0 (w'.heap[gb401]? = some (.cells #[.string t379, .string t380, .int .i64 t381, (.slice Ao43 x402003_2.length co43), (.slice Ao44 x402004_2.length co44), .string t388, .string t389, .string t390, .string t391, .bool t392, (.slice Ao16 t393.length co16), .int .i64 t396, .string t397, .string t398, .string t399, .int .i64 t400] 27 (0, 0))) ∧ Aside0 (Below w.heap.size w w'))
                      case atStart => exact ⟨(x10_3), (x11_3), (by first | rfl | (simp; done) | (simp [*]; done)), (by first | rfl | (simp; done) | (simp [*]; done)), H', ⟨Nat.le_refl _⟩, ⟨by (with_reducible repeat (first | apply Kd.R_alloc | apply Kd.R_drewN | apply Kd.R_drew)); exact HO_402003.out⟩, ⟨by (with_reducible repeat (first | apply Kd.R_alloc | apply Kd.R_drewN | apply Kd.R_drew)); exact HO_402004.out⟩, ⟨by (with_reducible repeat (first | apply Kd.R_alloc | apply Kd.R_drewN | apply Kd.R_drew)); exact HO_402010.out⟩, ⟨by (with_reducible repeat (first | refine blk_drewN ?_ _ | refine blk_drew ?_ | refine blk_alloc ?_ _)); exact BK401.out⟩, ⟨by repeat (first | (with_reducible first | exact HB.out | apply below_alloc | apply pw_below_drewN | apply below_drew1 | refine below_set ?_ GE401.out) | exact HB.out)⟩⟩
                      case round =>
                        clear H'
                        try clear c1
                        try clear c2
                        try clear p2
                        try clear hcv3
                        try clear c4
                        try clear c4b0
                        try clear c4b1
                        try clear p4
                        try clear q4
                        try clear hx4
                        try clear c5
                        try clear c5b0
                        try clear c5b1
                        try clear c6
                        try clear c6b0
                        try clear p6
                        try clear c7
                        try clear c10
                        try clear c11
                        try clear c12
                        try clear c13
                        try clear c15
                        try clear c17
                        try clear c17b0
                        try clear c18
                        try clear c18b0
                        try clear c20
                        try clear c21
                        try clear hcv31
                        try clear p40
                        try clear q40
                        try clear hx40
                        try clear c41
                        try clear c48
                        try clear c48b0
                        try clear hcz13_0
                        try clear hcz13_1
                        try clear hcz13_10
                        try clear hcz13_11
                        try clear hcz13_12
                        try clear hcz13_13
                        try clear hcz13_14
                        try clear hcz13_15
                        try clear hcz13_2
                        try clear hcz13_3
                        try clear hcz13_4
                        try clear hcz13_5
                        try clear hcz13_6
                        try clear hcz13_7
                        try clear hcz13_8
                        try clear hcz13_9
                        try clear hcz24_0
                        try clear hcz24_1
                        try clear hcz24_10
                        try clear hcz24_11
                        try clear hcz24_12
                        try clear hcz24_13
                        try clear hcz24_14
                        try clear hcz24_15
                        try clear hcz24_2
                        try clear hcz24_3
                        try clear hcz24_4
                        try clear hcz24_5
                        try clear hcz24_6
                        try clear hcz24_7
                        try clear hcz24_8
                        try clear hcz24_9
                        try clear hcz28_0
                        try clear hcz28_1
                        try clear hcz28_10
                        try clear hcz28_11
                        try clear hcz28_12
                        try clear hcz28_13
                        try clear hcz28_14
                        try clear hcz28_15
                        try clear hcz28_2
                        try clear hcz28_3
                        try clear hcz28_4
                        try clear hcz28_5
                        try clear hcz28_6
                        try clear hcz28_7
                        try clear hcz28_8
                        try clear hcz28_9
                        try clear hcz34_0
                        try clear hcz34_1
                        try clear hcz34_10
                        try clear hcz34_11
                        try clear hcz34_12
                        try clear hcz34_13
                        try clear hcz34_14
                        try clear hcz34_15
                        try clear hcz34_2
                        try clear hcz34_3
                        try clear hcz34_4
                        try clear hcz34_5
                        try clear hcz34_6
                        try clear hcz34_7
                        try clear hcz34_8
                        try clear hcz34_9
                        try clear hcz38_0
                        try clear hcz38_1
                        try clear hcz38_10
                        try clear hcz38_11
                        try clear hcz38_12
                        try clear hcz38_13
                        try clear hcz38_14
                        try clear hcz38_15
                        try clear hcz38_2
                        try clear hcz38_3
                        try clear hcz38_4
                        try clear hcz38_5
                        try clear hcz38_6
                        try clear hcz38_7
                        try clear hcz38_8
                        try clear hcz38_9
                        try clear hcz42_0
                        try clear hcz42_1
                        try clear hcz42_10
                        try clear hcz42_11
                        try clear hcz42_12
                        try clear hcz42_13
                        try clear hcz42_14
                        try clear hcz42_15
                        try clear hcz42_2
                        try clear hcz42_3
                        try clear hcz42_4
                        try clear hcz42_5
                        try clear hcz42_6
                        try clear hcz42_7
                        try clear hcz42_8
                        try clear hcz42_9
                        try clear hcz46_0
                        try clear hcz46_1
                        try clear hcz46_10
                        try clear hcz46_11
                        try clear hcz46_12
                        try clear hcz46_13
                        try clear hcz46_14
                        try clear hcz46_15
                        try clear hcz46_2
                        try clear hcz46_3
                        try clear hcz46_4
                        try clear hcz46_5
                        try clear hcz46_6
                        try clear hcz46_7
                        try clear hcz46_8
                        try clear hcz46_9
                        try clear hcz49_0
                        try clear hcz49_1
                        try clear hcz49_10
                        try clear hcz49_11
                        try clear hcz49_12
                        try clear hcz49_13
                        try clear hcz49_14
                        try clear hcz49_15
                        try clear hcz49_2
                        try clear hcz49_3
                        try clear hcz49_4
                        try clear hcz49_5
                        try clear hcz49_6
                        try clear hcz49_7
                        try clear hcz49_8
                        try clear hcz49_9
                        try clear hfz13_0
                        try clear hfz13_1
                        try clear hfz13_10
                        try clear hfz13_11
                        try clear hfz13_12
                        try clear hfz13_13
                        try clear hfz13_14
                        try clear hfz13_15
                        try clear hfz13_2
                        try clear hfz13_3
                        try clear hfz13_4
                        try clear hfz13_5
                        try clear hfz13_6
                        try clear hfz13_7
                        try clear hfz13_8
                        try clear hfz13_9
                        try clear hfz24_0
                        try clear hfz24_1
                        try clear hfz24_10
                        try clear hfz24_11
                        try clear hfz24_12
                        try clear hfz24_13
                        try clear hfz24_14
                        try clear hfz24_15
                        try clear hfz24_2
                        try clear hfz24_3
                        try clear hfz24_4
                        try clear hfz24_5
                        try clear hfz24_6
                        try clear hfz24_7
                        try clear hfz24_8
                        try clear hfz24_9
                        try clear hfz28_0
                        try clear hfz28_1
                        try clear hfz28_10
                        try clear hfz28_11
                        try clear hfz28_12
                        try clear hfz28_13
                        try clear hfz28_14
                        try clear hfz28_15
                        try clear hfz28_2
                        try clear hfz28_3
                        try clear hfz28_4
                        try clear hfz28_5
                        try clear hfz28_6
                        try clear hfz28_7
                        try clear hfz28_8
                        try clear hfz28_9
                        try clear hfz34_0
                        try clear hfz34_1
                        try clear hfz34_10
                        try clear hfz34_11
                        try clear hfz34_12
                        try clear hfz34_13
                        try clear hfz34_14
                        try clear hfz34_15
                        try clear hfz34_2
                        try clear hfz34_3
                        try clear hfz34_4
                        try clear hfz34_5
                        try clear hfz34_6
                        try clear hfz34_7
                        try clear hfz34_8
                        try clear hfz34_9
                        try clear hfz38_0
                        try clear hfz38_1
                        try clear hfz38_10
                        try clear hfz38_11
                        try clear hfz38_12
                        try clear hfz38_13
                        try clear hfz38_14
                        try clear hfz38_15
                        try clear hfz38_2
                        try clear hfz38_3
                        try clear hfz38_4
                        try clear hfz38_5
                        try clear hfz38_6
                        try clear hfz38_7
                        try clear hfz38_8
                        try clear hfz38_9
                        try clear hfz42_0
                        try clear hfz42_1
                        try clear hfz42_10
                        try clear hfz42_11
                        try clear hfz42_12
                        try clear hfz42_13
                        try clear hfz42_14
                        try clear hfz42_15
                        try clear hfz42_2
                        try clear hfz42_3
                        try clear hfz42_4
                        try clear hfz42_5
                        try clear hfz42_6
                        try clear hfz42_7
                        try clear hfz42_8
                        try clear hfz42_9
                        try clear hfz46_0
                        try clear hfz46_1
                        try clear hfz46_10
                        try clear hfz46_11
                        try clear hfz46_12
                        try clear hfz46_13
                        try clear hfz46_14
                        try clear hfz46_15
                        try clear hfz46_2
                        try clear hfz46_3
                        try clear hfz46_4
                        try clear hfz46_5
                        try clear hfz46_6
                        try clear hfz46_7
                        try clear hfz46_8
                        try clear hfz46_9
                        try clear hfz49_0
                        try clear hfz49_1
                        try clear hfz49_10
                        try clear hfz49_11
                        try clear hfz49_12
                        try clear hfz49_13
                        try clear hfz49_14
                        try clear hfz49_15
                        try clear hfz49_2
                        try clear hfz49_3
                        try clear hfz49_4
                        try clear hfz49_5
                        try clear hfz49_6
                        try clear hfz49_7
                        try clear hfz49_8
                        try clear hfz49_9
                        try clear hx402_0
                        try clear p2
                        try clear p4
                        try clear p40
                        try clear p402
                        try clear p6
                        try clear q4
                        try clear q40
                        try clear q402
                        obtain ⟨x10_4, x11_4, rfl, rfl, HA, HK4, HO_402003, HO_402004, HO_402010, BK401, HB⟩ := hrel
                        cases gk with
                        | zero => exact absurd HA.out (by simp [fleuronlaw9_SystemAdds.l2])
                        | succ k4 =>
                          have H := HA.out
                          clear HA
                          simp only [fleuronlaw9_SystemAdds.l2] at H
                          by_cases c50 : 0 ≤ x12_3
                          · rw [if_pos c50] at H
                            have c50b0 : decide (0 ≤ x12_3) = true := decide_eq_true c50
                            clear c50
                            by_cases c51 : x12_3 < (x402004_2.length : Int)
                            · rw [if_pos c51] at H
                              have c51b0 : decide (x12_3 < (x402004_2.length : Int)) = true := decide_eq_true c51
                              clear c51
                              by_cases c52 : x10_4 ≥ (rd x402004_2 x12_3)
                              · rw [if_pos c52] at H
                                have c52b0 : decide ((rd x402004_2 x12_3) ≤ x10_4) = true := decide_eq_true c52
                                clear c52
                                by_cases c53 : (x11_4.size : Int) ≤ 60
                                · rw [if_pos c53] at H
                                  have c53b0 : decide ((x11_4.size : Int) ≤ 60) = true := decide_eq_true c53
                                  have c53b1 : decide (x11_4.size ≤ 60) = true := decide_eq_true (by omega)
                                  clear c53
                                  by_cases c54 : x12_3 < (x402003_2.length : Int)
                                  · rw [if_pos c54] at H
                                    have c54b0 : decide (x12_3 < (x402003_2.length : Int)) = true := decide_eq_true c54
                                    clear c54
                                    by_cases c55 : x11_4.size + (rdOf ByteArray.empty x402003_2 x12_3).size ≤ 9223372036854775807
                                    · rw [if_pos c55] at H
                                      have c55b0 := eq_true c55
                                      have c55b1 : decide (x11_4.size + (rdOf ByteArray.empty x402003_2 x12_3).size ≤ 9223372036854775807) = true := decide_eq_true c55
                                      try have c55b2 : (9223372036854775807 < x11_4.size + (rdOf ByteArray.empty x402003_2 x12_3).size) = False := eq_false (Nat.not_lt.2 c55)
                                      have H' := Aside0.mk H
                                      clear H
                                      have hcz56_0 : wr.cell? ⟨gb401, 0, none⟩ = some (.string t379) := (blk_cell BK401.out 0).trans rfl
                                      have hcz56_1 : wr.cell? ⟨gb401, 1, none⟩ = some (.string t380) := (blk_cell BK401.out 1).trans rfl
                                      have hcz56_2 : wr.cell? ⟨gb401, 2, none⟩ = some (.int .i64 t381) := (blk_cell BK401.out 2).trans rfl
                                      have hcz56_3 : wr.cell? ⟨gb401, 3, none⟩ = some (.slice Ao43 x402003_2.length co43) := (blk_cell BK401.out 3).trans rfl
                                      have hcz56_4 : wr.cell? ⟨gb401, 4, none⟩ = some (.slice Ao44 x402004_2.length co44) := (blk_cell BK401.out 4).trans rfl
                                      have hcz56_5 : wr.cell? ⟨gb401, 5, none⟩ = some (.string t388) := (blk_cell BK401.out 5).trans rfl
                                      have hcz56_6 : wr.cell? ⟨gb401, 6, none⟩ = some (.string t389) := (blk_cell BK401.out 6).trans rfl
                                      have hcz56_7 : wr.cell? ⟨gb401, 7, none⟩ = some (.string t390) := (blk_cell BK401.out 7).trans rfl
                                      have hcz56_8 : wr.cell? ⟨gb401, 8, none⟩ = some (.string t391) := (blk_cell BK401.out 8).trans rfl
                                      have hcz56_9 : wr.cell? ⟨gb401, 9, none⟩ = some (.bool t392) := (blk_cell BK401.out 9).trans rfl
                                      have hcz56_10 : wr.cell? ⟨gb401, 10, none⟩ = some (.slice Ao16 t393.length co16) := (blk_cell BK401.out 10).trans rfl
                                      have hcz56_11 : wr.cell? ⟨gb401, 11, none⟩ = some (.int .i64 t396) := (blk_cell BK401.out 11).trans rfl
                                      have hcz56_12 : wr.cell? ⟨gb401, 12, none⟩ = some (.string t397) := (blk_cell BK401.out 12).trans rfl
                                      have hcz56_13 : wr.cell? ⟨gb401, 13, none⟩ = some (.string t398) := (blk_cell BK401.out 13).trans rfl
                                      have hcz56_14 : wr.cell? ⟨gb401, 14, none⟩ = some (.string t399) := (blk_cell BK401.out 14).trans rfl
                                      have hcz56_15 : wr.cell? ⟨gb401, 15, none⟩ = some (.int .i64 t400) := (blk_cell BK401.out 15).trans rfl
                                      have hfz56_0 := blk_frozen BK401.out 0
                                      have hfz56_1 := blk_frozen BK401.out 1
                                      have hfz56_2 := blk_frozen BK401.out 2
                                      have hfz56_3 := blk_frozen BK401.out 3
                                      have hfz56_4 := blk_frozen BK401.out 4
                                      have hfz56_5 := blk_frozen BK401.out 5
                                      have hfz56_6 := blk_frozen BK401.out 6
                                      have hfz56_7 := blk_frozen BK401.out 7
                                      have hfz56_8 := blk_frozen BK401.out 8
                                      have hfz56_9 := blk_frozen BK401.out 9
                                      have hfz56_10 := blk_frozen BK401.out 10
                                      have hfz56_11 := blk_frozen BK401.out 11
                                      have hfz56_12 := blk_frozen BK401.out 12
                                      have hfz56_13 := blk_frozen BK401.out 13
                                      have hfz56_14 := blk_frozen BK401.out 14
                                      have hfz56_15 := blk_frozen BK401.out 15
                                      have p422 : 0 ≤ (x12_3 : Int) := of_decide_eq_true (by first | (with_reducible assumption) | assumption)
                                      have q422 : x12_3 < (x402004_2.length : Int) := of_decide_eq_true (by first | (with_reducible assumption) | assumption)
                                      obtain ⟨ad422, e422, hx422_0⟩ := Kd.at_int (Kd.R_reads' HO_402004.out).2.2 x12_3 p422 q422
                                      cases e422
                                      replace p422 := eq_true p422
                                      replace q422 := eq_true q422
                                      have p423 : 0 ≤ (x12_3 : Int) := of_decide_eq_true (by first | (with_reducible assumption) | assumption)
                                      have q423 : x12_3 < (x402003_2.length : Int) := of_decide_eq_true (by first | (with_reducible assumption) | assumption)
                                      obtain ⟨ad423, e423, hx423_0⟩ := Kd.at_string (Kd.R_reads' HO_402003.out).2.2 x12_3 p423 q423
                                      cases e423
                                      replace p423 := eq_true p423
                                      replace q423 := eq_true q423
                                      have p424 : 0 ≤ (x12_3 : Int) := of_decide_eq_true (by first | (with_reducible assumption) | assumption)
                                      have q424 : x12_3 < (x402004_2.length : Int) := of_decide_eq_true (by first | (with_reducible assumption) | assumption)
                                      obtain ⟨ad424, e424, hx424_0⟩ := Kd.at_int (Kd.R_reads' HO_402004.out).2.2 x12_3 p424 q424
                                      obtain rfl : ad422 = ad424 := (by injection e424)
                                      replace p424 := eq_true p424
                                      replace q424 := eq_true q424
                                      go_wp2
                                      go_roundg k4
                                      case measure => have := HJ2.out; have := HK2.out; have := HK3.out; have := HK4.out; omega
                                      case rel => exact ⟨(wrap64 (x10_4 - (rd x402004_2 x12_3))), (x11_4 ++ (rdOf ByteArray.empty x402003_2 x12_3)), (by first | rfl | (simp; done) | (simp [*]; done)), (by first | rfl | (simp; done) | (simp [*]; done)), H', ⟨by have := HJ2.out; have := HK2.out; have := HK3.out; have := HK4.out; omega⟩, ⟨by (with_reducible repeat (first | apply Kd.R_alloc | apply Kd.R_drewN | apply Kd.R_drew)); exact HO_402003.out⟩, ⟨by (with_reducible repeat (first | apply Kd.R_alloc | apply Kd.R_drewN | apply Kd.R_drew)); exact HO_402004.out⟩, ⟨by (with_reducible repeat (first | apply Kd.R_alloc | apply Kd.R_drewN | apply Kd.R_drew)); exact HO_402010.out⟩, ⟨by (with_reducible repeat (first | refine blk_drewN ?_ _ | refine blk_drew ?_ | refine blk_alloc ?_ _)); exact BK401.out⟩, ⟨by repeat (first | (with_reducible first | exact HB.out | apply below_alloc | apply pw_below_drewN | apply below_drew1 | refine below_set ?_ GE401.out) | exact HB.out)⟩⟩
                                    · rw [if_neg c55] at H
                                      exact absurd H (by simp)
                                  · rw [if_neg c54] at H
                                    exact absurd H (by simp)
                                · rw [if_neg c53] at H
                                  have c53b0 : decide ((x11_4.size : Int) ≤ 60) = false := decide_eq_false c53
                                  have c53b1 : decide (x11_4.size ≤ 60) = false := decide_eq_false (by omega)
                                  clear c53
                                  have H' := Aside0.mk H
                                  clear H
                                  have hcz57_0 : wr.cell? ⟨gb401, 0, none⟩ = some (.string t379) := (blk_cell BK401.out 0).trans rfl
                                  have hcz57_1 : wr.cell? ⟨gb401, 1, none⟩ = some (.string t380) := (blk_cell BK401.out 1).trans rfl
                                  have hcz57_2 : wr.cell? ⟨gb401, 2, none⟩ = some (.int .i64 t381) := (blk_cell BK401.out 2).trans rfl
                                  have hcz57_3 : wr.cell? ⟨gb401, 3, none⟩ = some (.slice Ao43 x402003_2.length co43) := (blk_cell BK401.out 3).trans rfl
                                  have hcz57_4 : wr.cell? ⟨gb401, 4, none⟩ = some (.slice Ao44 x402004_2.length co44) := (blk_cell BK401.out 4).trans rfl
                                  have hcz57_5 : wr.cell? ⟨gb401, 5, none⟩ = some (.string t388) := (blk_cell BK401.out 5).trans rfl
                                  have hcz57_6 : wr.cell? ⟨gb401, 6, none⟩ = some (.string t389) := (blk_cell BK401.out 6).trans rfl
                                  have hcz57_7 : wr.cell? ⟨gb401, 7, none⟩ = some (.string t390) := (blk_cell BK401.out 7).trans rfl
                                  have hcz57_8 : wr.cell? ⟨gb401, 8, none⟩ = some (.string t391) := (blk_cell BK401.out 8).trans rfl
                                  have hcz57_9 : wr.cell? ⟨gb401, 9, none⟩ = some (.bool t392) := (blk_cell BK401.out 9).trans rfl
                                  have hcz57_10 : wr.cell? ⟨gb401, 10, none⟩ = some (.slice Ao16 t393.length co16) := (blk_cell BK401.out 10).trans rfl
                                  have hcz57_11 : wr.cell? ⟨gb401, 11, none⟩ = some (.int .i64 t396) := (blk_cell BK401.out 11).trans rfl
                                  have hcz57_12 : wr.cell? ⟨gb401, 12, none⟩ = some (.string t397) := (blk_cell BK401.out 12).trans rfl
                                  have hcz57_13 : wr.cell? ⟨gb401, 13, none⟩ = some (.string t398) := (blk_cell BK401.out 13).trans rfl
                                  have hcz57_14 : wr.cell? ⟨gb401, 14, none⟩ = some (.string t399) := (blk_cell BK401.out 14).trans rfl
                                  have hcz57_15 : wr.cell? ⟨gb401, 15, none⟩ = some (.int .i64 t400) := (blk_cell BK401.out 15).trans rfl
                                  have hfz57_0 := blk_frozen BK401.out 0
                                  have hfz57_1 := blk_frozen BK401.out 1
                                  have hfz57_2 := blk_frozen BK401.out 2
                                  have hfz57_3 := blk_frozen BK401.out 3
                                  have hfz57_4 := blk_frozen BK401.out 4
                                  have hfz57_5 := blk_frozen BK401.out 5
                                  have hfz57_6 := blk_frozen BK401.out 6
                                  have hfz57_7 := blk_frozen BK401.out 7
                                  have hfz57_8 := blk_frozen BK401.out 8
                                  have hfz57_9 := blk_frozen BK401.out 9
                                  have hfz57_10 := blk_frozen BK401.out 10
                                  have hfz57_11 := blk_frozen BK401.out 11
                                  have hfz57_12 := blk_frozen BK401.out 12
                                  have hfz57_13 := blk_frozen BK401.out 13
                                  have hfz57_14 := blk_frozen BK401.out 14
                                  have hfz57_15 := blk_frozen BK401.out 15
                                  have p422 : 0 ≤ (x12_3 : Int) := of_decide_eq_true (by first | (with_reducible assumption) | assumption)
                                  have q422 : x12_3 < (x402004_2.length : Int) := of_decide_eq_true (by first | (with_reducible assumption) | assumption)
                                  obtain ⟨ad422, e422, hx422_0⟩ := Kd.at_int (Kd.R_reads' HO_402004.out).2.2 x12_3 p422 q422
                                  cases e422
                                  replace p422 := eq_true p422
                                  replace q422 := eq_true q422
                                  go_wp2
                                  go_roundg k4
                                  case measure => have := HJ2.out; have := HK2.out; have := HK3.out; have := HK4.out; omega
                                  case rel => exact ⟨(x10_4), (x11_4), (wrap64 (x12_3 + 1)), (by first | rfl | (simp; done) | (simp [*]; done)), (by first | rfl | (simp; done) | (simp [*]; done)), (by first | rfl | (simp; done) | (simp [*]; done)), H', ⟨by have := HJ2.out; have := HK2.out; have := HK3.out; have := HK4.out; omega⟩, ⟨by (with_reducible repeat (first | apply Kd.R_alloc | apply Kd.R_drewN | apply Kd.R_drew)); exact HO_402003.out⟩, ⟨by (with_reducible repeat (first | apply Kd.R_alloc | apply Kd.R_drewN | apply Kd.R_drew)); exact HO_402004.out⟩, ⟨by (with_reducible repeat (first | apply Kd.R_alloc | apply Kd.R_drewN | apply Kd.R_drew)); exact HO_402010.out⟩, ⟨by (with_reducible repeat (first | refine blk_drewN ?_ _ | refine blk_drew ?_ | refine blk_alloc ?_ _)); exact BK401.out⟩, ⟨by repeat (first | (with_reducible first | exact HB.out | apply below_alloc | apply pw_below_drewN | apply below_drew1 | refine below_set ?_ GE401.out) | exact HB.out)⟩⟩
                              · rw [if_neg c52] at H
                                have c52b0 : decide ((rd x402004_2 x12_3) ≤ x10_4) = false := decide_eq_false c52
                                clear c52
                                have H' := Aside0.mk H
                                clear H
                                have hcz58_0 : wr.cell? ⟨gb401, 0, none⟩ = some (.string t379) := (blk_cell BK401.out 0).trans rfl
                                have hcz58_1 : wr.cell? ⟨gb401, 1, none⟩ = some (.string t380) := (blk_cell BK401.out 1).trans rfl
                                have hcz58_2 : wr.cell? ⟨gb401, 2, none⟩ = some (.int .i64 t381) := (blk_cell BK401.out 2).trans rfl
                                have hcz58_3 : wr.cell? ⟨gb401, 3, none⟩ = some (.slice Ao43 x402003_2.length co43) := (blk_cell BK401.out 3).trans rfl
                                have hcz58_4 : wr.cell? ⟨gb401, 4, none⟩ = some (.slice Ao44 x402004_2.length co44) := (blk_cell BK401.out 4).trans rfl
                                have hcz58_5 : wr.cell? ⟨gb401, 5, none⟩ = some (.string t388) := (blk_cell BK401.out 5).trans rfl
                                have hcz58_6 : wr.cell? ⟨gb401, 6, none⟩ = some (.string t389) := (blk_cell BK401.out 6).trans rfl
                                have hcz58_7 : wr.cell? ⟨gb401, 7, none⟩ = some (.string t390) := (blk_cell BK401.out 7).trans rfl
                                have hcz58_8 : wr.cell? ⟨gb401, 8, none⟩ = some (.string t391) := (blk_cell BK401.out 8).trans rfl
                                have hcz58_9 : wr.cell? ⟨gb401, 9, none⟩ = some (.bool t392) := (blk_cell BK401.out 9).trans rfl
                                have hcz58_10 : wr.cell? ⟨gb401, 10, none⟩ = some (.slice Ao16 t393.length co16) := (blk_cell BK401.out 10).trans rfl
                                have hcz58_11 : wr.cell? ⟨gb401, 11, none⟩ = some (.int .i64 t396) := (blk_cell BK401.out 11).trans rfl
                                have hcz58_12 : wr.cell? ⟨gb401, 12, none⟩ = some (.string t397) := (blk_cell BK401.out 12).trans rfl
                                have hcz58_13 : wr.cell? ⟨gb401, 13, none⟩ = some (.string t398) := (blk_cell BK401.out 13).trans rfl
                                have hcz58_14 : wr.cell? ⟨gb401, 14, none⟩ = some (.string t399) := (blk_cell BK401.out 14).trans rfl
                                have hcz58_15 : wr.cell? ⟨gb401, 15, none⟩ = some (.int .i64 t400) := (blk_cell BK401.out 15).trans rfl
                                have hfz58_0 := blk_frozen BK401.out 0
                                have hfz58_1 := blk_frozen BK401.out 1
                                have hfz58_2 := blk_frozen BK401.out 2
                                have hfz58_3 := blk_frozen BK401.out 3
                                have hfz58_4 := blk_frozen BK401.out 4
                                have hfz58_5 := blk_frozen BK401.out 5
                                have hfz58_6 := blk_frozen BK401.out 6
                                have hfz58_7 := blk_frozen BK401.out 7
                                have hfz58_8 := blk_frozen BK401.out 8
                                have hfz58_9 := blk_frozen BK401.out 9
                                have hfz58_10 := blk_frozen BK401.out 10
                                have hfz58_11 := blk_frozen BK401.out 11
                                have hfz58_12 := blk_frozen BK401.out 12
                                have hfz58_13 := blk_frozen BK401.out 13
                                have hfz58_14 := blk_frozen BK401.out 14
                                have hfz58_15 := blk_frozen BK401.out 15
                                have p422 : 0 ≤ (x12_3 : Int) := of_decide_eq_true (by first | (with_reducible assumption) | assumption)
                                have q422 : x12_3 < (x402004_2.length : Int) := of_decide_eq_true (by first | (with_reducible assumption) | assumption)
                                obtain ⟨ad422, e422, hx422_0⟩ := Kd.at_int (Kd.R_reads' HO_402004.out).2.2 x12_3 p422 q422
                                cases e422
                                replace p422 := eq_true p422
                                replace q422 := eq_true q422
                                go_wp2
                                go_roundg k4
                                case measure => have := HJ2.out; have := HK2.out; have := HK3.out; have := HK4.out; omega
                                case rel => exact ⟨(x10_4), (x11_4), (wrap64 (x12_3 + 1)), (by first | rfl | (simp; done) | (simp [*]; done)), (by first | rfl | (simp; done) | (simp [*]; done)), (by first | rfl | (simp; done) | (simp [*]; done)), H', ⟨by have := HJ2.out; have := HK2.out; have := HK3.out; have := HK4.out; omega⟩, ⟨by (with_reducible repeat (first | apply Kd.R_alloc | apply Kd.R_drewN | apply Kd.R_drew)); exact HO_402003.out⟩, ⟨by (with_reducible repeat (first | apply Kd.R_alloc | apply Kd.R_drewN | apply Kd.R_drew)); exact HO_402004.out⟩, ⟨by (with_reducible repeat (first | apply Kd.R_alloc | apply Kd.R_drewN | apply Kd.R_drew)); exact HO_402010.out⟩, ⟨by (with_reducible repeat (first | refine blk_drewN ?_ _ | refine blk_drew ?_ | refine blk_alloc ?_ _)); exact BK401.out⟩, ⟨by repeat (first | (with_reducible first | exact HB.out | apply below_alloc | apply pw_below_drewN | apply below_drew1 | refine below_set ?_ GE401.out) | exact HB.out)⟩⟩
                            · rw [if_neg c51] at H
                              exact absurd H (by simp)
                          · rw [if_neg c50] at H
                            exact absurd H (by simp)
                    · rw [if_neg c48] at H
                      have c48b0 : decide (x12_3 < (x402004_2.length : Int)) = false := decide_eq_false c48
                      clear c48
                      have HC59 := Aside0.mk H
                      clear H
                      have hcz60_0 : wr.cell? ⟨gb401, 0, none⟩ = some (.string t379) := (blk_cell BK401.out 0).trans rfl
                      have hcz60_1 : wr.cell? ⟨gb401, 1, none⟩ = some (.string t380) := (blk_cell BK401.out 1).trans rfl
                      have hcz60_2 : wr.cell? ⟨gb401, 2, none⟩ = some (.int .i64 t381) := (blk_cell BK401.out 2).trans rfl
                      have hcz60_3 : wr.cell? ⟨gb401, 3, none⟩ = some (.slice Ao43 x402003_2.length co43) := (blk_cell BK401.out 3).trans rfl
                      have hcz60_4 : wr.cell? ⟨gb401, 4, none⟩ = some (.slice Ao44 x402004_2.length co44) := (blk_cell BK401.out 4).trans rfl
                      have hcz60_5 : wr.cell? ⟨gb401, 5, none⟩ = some (.string t388) := (blk_cell BK401.out 5).trans rfl
                      have hcz60_6 : wr.cell? ⟨gb401, 6, none⟩ = some (.string t389) := (blk_cell BK401.out 6).trans rfl
                      have hcz60_7 : wr.cell? ⟨gb401, 7, none⟩ = some (.string t390) := (blk_cell BK401.out 7).trans rfl
                      have hcz60_8 : wr.cell? ⟨gb401, 8, none⟩ = some (.string t391) := (blk_cell BK401.out 8).trans rfl
                      have hcz60_9 : wr.cell? ⟨gb401, 9, none⟩ = some (.bool t392) := (blk_cell BK401.out 9).trans rfl
                      have hcz60_10 : wr.cell? ⟨gb401, 10, none⟩ = some (.slice Ao16 t393.length co16) := (blk_cell BK401.out 10).trans rfl
                      have hcz60_11 : wr.cell? ⟨gb401, 11, none⟩ = some (.int .i64 t396) := (blk_cell BK401.out 11).trans rfl
                      have hcz60_12 : wr.cell? ⟨gb401, 12, none⟩ = some (.string t397) := (blk_cell BK401.out 12).trans rfl
                      have hcz60_13 : wr.cell? ⟨gb401, 13, none⟩ = some (.string t398) := (blk_cell BK401.out 13).trans rfl
                      have hcz60_14 : wr.cell? ⟨gb401, 14, none⟩ = some (.string t399) := (blk_cell BK401.out 14).trans rfl
                      have hcz60_15 : wr.cell? ⟨gb401, 15, none⟩ = some (.int .i64 t400) := (blk_cell BK401.out 15).trans rfl
                      have hfz60_0 := blk_frozen BK401.out 0
                      have hfz60_1 := blk_frozen BK401.out 1
                      have hfz60_2 := blk_frozen BK401.out 2
                      have hfz60_3 := blk_frozen BK401.out 3
                      have hfz60_4 := blk_frozen BK401.out 4
                      have hfz60_5 := blk_frozen BK401.out 5
                      have hfz60_6 := blk_frozen BK401.out 6
                      have hfz60_7 := blk_frozen BK401.out 7
                      have hfz60_8 := blk_frozen BK401.out 8
                      have hfz60_9 := blk_frozen BK401.out 9
                      have hfz60_10 := blk_frozen BK401.out 10
                      have hfz60_11 := blk_frozen BK401.out 11
                      have hfz60_12 := blk_frozen BK401.out 12
                      have hfz60_13 := blk_frozen BK401.out 13
                      have hfz60_14 := blk_frozen BK401.out 14
                      have hfz60_15 := blk_frozen BK401.out 15
                      go_upto_region 21 with (fail)
                      go_cut [110] (fun v110 wc => ∃ (kq : Nat) (x110_58 : Bool), v110 = .bool x110_58 ∧ Aside0 (fleuronlaw9_SystemAdds.j4 kq t419 t420 x11_3 x110_58 = some r) ∧ Aside0 (kq ≤ k3) ∧ Aside0 (Kd.R Kd.string 9 wc w.heap.size (fun _ => True) (.slice Ao43 x402003_2.length co43) x402003_2) ∧ Aside0 (Kd.R (Kd.int .i64) 3 wc w.heap.size (fun _ => True) (.slice Ao44 x402004_2.length co44) x402004_2) ∧ Aside0 (Kd.R k41 41 wc w.heap.size (fun _ => True) (.slice Ao16 t393.length co16) t393) ∧ Aside0 (wc.heap[gb401]? = some (.cells #[.string t379, .string t380, .int .i64 t381, (.slice Ao43 x402003_2.length co43), (.slice Ao44 x402004_2.length co44), .string t388, .string t389, .string t390, .string t391, .bool t392, (.slice Ao16 t393.length co16), .int .i64 t396, .string t397, .string t398, .string t399, .int .i64 t400] 27 (0, 0))) ∧ Aside0 (Below w.heap.size w wc))
                      case first =>
                        have H := HC59.out
                        clear HC59
                        by_cases c61 : x10_3 > 0
                        · rw [if_pos c61] at H
                          have c61b0 : decide (0 < x10_3) = true := decide_eq_true c61
                          clear c61
                          (first | rw [c61b0] | (simp only [i64_w, i32_w]; rw [c61b0]) | skip)
                          have H' := Aside0.mk H
                          clear H
                          go_wp2
                          go_meet
                          case rel => exact ⟨_, (true), (by first | rfl | (simp; done) | (simp [*]; done)), H', ⟨by have := HJ2.out; have := HK2.out; have := HK3.out; first | omega | exact Nat.le_refl _⟩, ⟨by (with_reducible repeat (first | apply Kd.R_alloc | apply Kd.R_drewN | apply Kd.R_drew)); exact HO_402003.out⟩, ⟨by (with_reducible repeat (first | apply Kd.R_alloc | apply Kd.R_drewN | apply Kd.R_drew)); exact HO_402004.out⟩, ⟨by (with_reducible repeat (first | apply Kd.R_alloc | apply Kd.R_drewN | apply Kd.R_drew)); exact HO_402010.out⟩, ⟨by (with_reducible repeat (first | refine blk_drewN ?_ _ | refine blk_drew ?_ | refine blk_alloc ?_ _)); exact BK401.out⟩, ⟨by repeat (first | (with_reducible first | exact HB.out | apply below_alloc | apply pw_below_drewN | apply below_drew1 | refine below_set ?_ GE401.out) | exact HB.out)⟩⟩
                        · rw [if_neg c61] at H
                          have c61b0 : decide (0 < x10_3) = false := decide_eq_false c61
                          clear c61
                          (first | rw [c61b0] | (simp only [i64_w, i32_w]; rw [c61b0]) | skip)
                          have H' := Aside0.mk H
                          clear H
                          go_wp2
                          go_meet
                          case rel => exact ⟨_, (decide ((x11_3.size : Int) > 60)), (by first | rfl | (simp; done) | (simp [*]; done)), H', ⟨by have := HJ2.out; have := HK2.out; have := HK3.out; first | omega | exact Nat.le_refl _⟩, ⟨by (with_reducible repeat (first | apply Kd.R_alloc | apply Kd.R_drewN | apply Kd.R_drew)); exact HO_402003.out⟩, ⟨by (with_reducible repeat (first | apply Kd.R_alloc | apply Kd.R_drewN | apply Kd.R_drew)); exact HO_402004.out⟩, ⟨by (with_reducible repeat (first | apply Kd.R_alloc | apply Kd.R_drewN | apply Kd.R_drew)); exact HO_402010.out⟩, ⟨by (with_reducible repeat (first | refine blk_drewN ?_ _ | refine blk_drew ?_ | refine blk_alloc ?_ _)); exact BK401.out⟩, ⟨by repeat (first | (with_reducible first | exact HB.out | apply below_alloc | apply pw_below_drewN | apply below_drew1 | refine below_set ?_ GE401.out) | exact HB.out)⟩⟩
                      case rest =>
                        clear HC59
                        try clear c1
                        try clear c2
                        try clear p2
                        try clear hcv3
                        try clear c4
                        try clear c4b0
                        try clear c4b1
                        try clear p4
                        try clear q4
                        try clear hx4
                        try clear c5
                        try clear c5b0
                        try clear c5b1
                        try clear c6
                        try clear c6b0
                        try clear p6
                        try clear c7
                        try clear c10
                        try clear c11
                        try clear c12
                        try clear c13
                        try clear c15
                        try clear c17
                        try clear c17b0
                        try clear c18
                        try clear c18b0
                        try clear c20
                        try clear c21
                        try clear hcv31
                        try clear p40
                        try clear q40
                        try clear hx40
                        try clear c41
                        try clear p42
                        try clear q42
                        try clear hx42
                        try clear c48
                        try clear c48b0
                        try clear c50
                        try clear c50b0
                        try clear c51
                        try clear c51b0
                        try clear c52
                        try clear c52b0
                        try clear c53
                        try clear c53b0
                        try clear c53b1
                        try clear c54
                        try clear c54b0
                        try clear c55
                        try clear c55b0
                        try clear c55b1
                        try clear c55b2
                        try clear c61
                        try clear c61b0
                        try clear hcz13_0
                        try clear hcz13_1
                        try clear hcz13_10
                        try clear hcz13_11
                        try clear hcz13_12
                        try clear hcz13_13
                        try clear hcz13_14
                        try clear hcz13_15
                        try clear hcz13_2
                        try clear hcz13_3
                        try clear hcz13_4
                        try clear hcz13_5
                        try clear hcz13_6
                        try clear hcz13_7
                        try clear hcz13_8
                        try clear hcz13_9
                        try clear hcz24_0
                        try clear hcz24_1
                        try clear hcz24_10
                        try clear hcz24_11
                        try clear hcz24_12
                        try clear hcz24_13
                        try clear hcz24_14
                        try clear hcz24_15
                        try clear hcz24_2
                        try clear hcz24_3
                        try clear hcz24_4
                        try clear hcz24_5
                        try clear hcz24_6
                        try clear hcz24_7
                        try clear hcz24_8
                        try clear hcz24_9
                        try clear hcz28_0
                        try clear hcz28_1
                        try clear hcz28_10
                        try clear hcz28_11
                        try clear hcz28_12
                        try clear hcz28_13
                        try clear hcz28_14
                        try clear hcz28_15
                        try clear hcz28_2
                        try clear hcz28_3
                        try clear hcz28_4
                        try clear hcz28_5
                        try clear hcz28_6
                        try clear hcz28_7
                        try clear hcz28_8
                        try clear hcz28_9
                        try clear hcz34_0
                        try clear hcz34_1
                        try clear hcz34_10
                        try clear hcz34_11
                        try clear hcz34_12
                        try clear hcz34_13
                        try clear hcz34_14
                        try clear hcz34_15
                        try clear hcz34_2
                        try clear hcz34_3
                        try clear hcz34_4
                        try clear hcz34_5
                        try clear hcz34_6
                        try clear hcz34_7
                        try clear hcz34_8
                        try clear hcz34_9
                        try clear hcz38_0
                        try clear hcz38_1
                        try clear hcz38_10
                        try clear hcz38_11
                        try clear hcz38_12
                        try clear hcz38_13
                        try clear hcz38_14
                        try clear hcz38_15
                        try clear hcz38_2
                        try clear hcz38_3
                        try clear hcz38_4
                        try clear hcz38_5
                        try clear hcz38_6
                        try clear hcz38_7
                        try clear hcz38_8
                        try clear hcz38_9
                        try clear hcz42_0
                        try clear hcz42_1
                        try clear hcz42_10
                        try clear hcz42_11
                        try clear hcz42_12
                        try clear hcz42_13
                        try clear hcz42_14
                        try clear hcz42_15
                        try clear hcz42_2
                        try clear hcz42_3
                        try clear hcz42_4
                        try clear hcz42_5
                        try clear hcz42_6
                        try clear hcz42_7
                        try clear hcz42_8
                        try clear hcz42_9
                        try clear hcz46_0
                        try clear hcz46_1
                        try clear hcz46_10
                        try clear hcz46_11
                        try clear hcz46_12
                        try clear hcz46_13
                        try clear hcz46_14
                        try clear hcz46_15
                        try clear hcz46_2
                        try clear hcz46_3
                        try clear hcz46_4
                        try clear hcz46_5
                        try clear hcz46_6
                        try clear hcz46_7
                        try clear hcz46_8
                        try clear hcz46_9
                        try clear hcz49_0
                        try clear hcz49_1
                        try clear hcz49_10
                        try clear hcz49_11
                        try clear hcz49_12
                        try clear hcz49_13
                        try clear hcz49_14
                        try clear hcz49_15
                        try clear hcz49_2
                        try clear hcz49_3
                        try clear hcz49_4
                        try clear hcz49_5
                        try clear hcz49_6
                        try clear hcz49_7
                        try clear hcz49_8
                        try clear hcz49_9
                        try clear hcz56_0
                        try clear hcz56_1
                        try clear hcz56_10
                        try clear hcz56_11
                        try clear hcz56_12
                        try clear hcz56_13
                        try clear hcz56_14
                        try clear hcz56_15
                        try clear hcz56_2
                        try clear hcz56_3
                        try clear hcz56_4
                        try clear hcz56_5
                        try clear hcz56_6
                        try clear hcz56_7
                        try clear hcz56_8
                        try clear hcz56_9
                        try clear hcz57_0
                        try clear hcz57_1
                        try clear hcz57_10
                        try clear hcz57_11
                        try clear hcz57_12
                        try clear hcz57_13
                        try clear hcz57_14
                        try clear hcz57_15
                        try clear hcz57_2
                        try clear hcz57_3
                        try clear hcz57_4
                        try clear hcz57_5
                        try clear hcz57_6
                        try clear hcz57_7
                        try clear hcz57_8
                        try clear hcz57_9
                        try clear hcz58_0
                        try clear hcz58_1
                        try clear hcz58_10
                        try clear hcz58_11
                        try clear hcz58_12
                        try clear hcz58_13
                        try clear hcz58_14
                        try clear hcz58_15
                        try clear hcz58_2
                        try clear hcz58_3
                        try clear hcz58_4
                        try clear hcz58_5
                        try clear hcz58_6
                        try clear hcz58_7
                        try clear hcz58_8
                        try clear hcz58_9
                        try clear hcz60_0
                        try clear hcz60_1
                        try clear hcz60_10
                        try clear hcz60_11
                        try clear hcz60_12
                        try clear hcz60_13
                        try clear hcz60_14
                        try clear hcz60_15
                        try clear hcz60_2
                        try clear hcz60_3
                        try clear hcz60_4
                        try clear hcz60_5
                        try clear hcz60_6
                        try clear hcz60_7
                        try clear hcz60_8
                        try clear hcz60_9
                        try clear hfz13_0
                        try clear hfz13_1
                        try clear hfz13_10
                        try clear hfz13_11
                        try clear hfz13_12
                        try clear hfz13_13
                        try clear hfz13_14
                        try clear hfz13_15
                        try clear hfz13_2
                        try clear hfz13_3
                        try clear hfz13_4
                        try clear hfz13_5
                        try clear hfz13_6
                        try clear hfz13_7
                        try clear hfz13_8
                        try clear hfz13_9
                        try clear hfz24_0
                        try clear hfz24_1
                        try clear hfz24_10
                        try clear hfz24_11
                        try clear hfz24_12
                        try clear hfz24_13
                        try clear hfz24_14
                        try clear hfz24_15
                        try clear hfz24_2
                        try clear hfz24_3
                        try clear hfz24_4
                        try clear hfz24_5
                        try clear hfz24_6
                        try clear hfz24_7
                        try clear hfz24_8
                        try clear hfz24_9
                        try clear hfz28_0
                        try clear hfz28_1
                        try clear hfz28_10
                        try clear hfz28_11
                        try clear hfz28_12
                        try clear hfz28_13
                        try clear hfz28_14
                        try clear hfz28_15
                        try clear hfz28_2
                        try clear hfz28_3
                        try clear hfz28_4
                        try clear hfz28_5
                        try clear hfz28_6
                        try clear hfz28_7
                        try clear hfz28_8
                        try clear hfz28_9
                        try clear hfz34_0
                        try clear hfz34_1
                        try clear hfz34_10
                        try clear hfz34_11
                        try clear hfz34_12
                        try clear hfz34_13
                        try clear hfz34_14
                        try clear hfz34_15
                        try clear hfz34_2
                        try clear hfz34_3
                        try clear hfz34_4
                        try clear hfz34_5
                        try clear hfz34_6
                        try clear hfz34_7
                        try clear hfz34_8
                        try clear hfz34_9
                        try clear hfz38_0
                        try clear hfz38_1
                        try clear hfz38_10
                        try clear hfz38_11
                        try clear hfz38_12
                        try clear hfz38_13
                        try clear hfz38_14
                        try clear hfz38_15
                        try clear hfz38_2
                        try clear hfz38_3
                        try clear hfz38_4
                        try clear hfz38_5
                        try clear hfz38_6
                        try clear hfz38_7
                        try clear hfz38_8
                        try clear hfz38_9
                        try clear hfz42_0
                        try clear hfz42_1
                        try clear hfz42_10
                        try clear hfz42_11
                        try clear hfz42_12
                        try clear hfz42_13
                        try clear hfz42_14
                        try clear hfz42_15
                        try clear hfz42_2
                        try clear hfz42_3
                        try clear hfz42_4
                        try clear hfz42_5
                        try clear hfz42_6
                        try clear hfz42_7
                        try clear hfz42_8
                        try clear hfz42_9
                        try clear hfz46_0
                        try clear hfz46_1
                        try clear hfz46_10
                        try clear hfz46_11
                        try clear hfz46_12
                        try clear hfz46_13
                        try clear hfz46_14
                        try clear hfz46_15
                        try clear hfz46_2
                        try clear hfz46_3
                        try clear hfz46_4
                        try clear hfz46_5
                        try clear hfz46_6
                        try clear hfz46_7
                        try clear hfz46_8
                        try clear hfz46_9
                        try clear hfz49_0
                        try clear hfz49_1
                        try clear hfz49_10
                        try clear hfz49_11
                        try clear hfz49_12
                        try clear hfz49_13
                        try clear hfz49_14
                        try clear hfz49_15
                        try clear hfz49_2
                        try clear hfz49_3
                        try clear hfz49_4
                        try clear hfz49_5
                        try clear hfz49_6
                        try clear hfz49_7
                        try clear hfz49_8
                        try clear hfz49_9
                        try clear hfz56_0
                        try clear hfz56_1
                        try clear hfz56_10
                        try clear hfz56_11
                        try clear hfz56_12
                        try clear hfz56_13
                        try clear hfz56_14
                        try clear hfz56_15
                        try clear hfz56_2
                        try clear hfz56_3
                        try clear hfz56_4
                        try clear hfz56_5
                        try clear hfz56_6
                        try clear hfz56_7
                        try clear hfz56_8
                        try clear hfz56_9
                        try clear hfz57_0
                        try clear hfz57_1
                        try clear hfz57_10
                        try clear hfz57_11
                        try clear hfz57_12
                        try clear hfz57_13
                        try clear hfz57_14
                        try clear hfz57_15
                        try clear hfz57_2
                        try clear hfz57_3
                        try clear hfz57_4
                        try clear hfz57_5
                        try clear hfz57_6
                        try clear hfz57_7
                        try clear hfz57_8
                        try clear hfz57_9
                        try clear hfz58_0
                        try clear hfz58_1
                        try clear hfz58_10
                        try clear hfz58_11
                        try clear hfz58_12
                        try clear hfz58_13
                        try clear hfz58_14
                        try clear hfz58_15
                        try clear hfz58_2
                        try clear hfz58_3
                        try clear hfz58_4
                        try clear hfz58_5
                        try clear hfz58_6
                        try clear hfz58_7
                        try clear hfz58_8
                        try clear hfz58_9
                        try clear hfz60_0
                        try clear hfz60_1
                        try clear hfz60_10
                        try clear hfz60_11
                        try clear hfz60_12
                        try clear hfz60_13
                        try clear hfz60_14
                        try clear hfz60_15
                        try clear hfz60_2
                        try clear hfz60_3
                        try clear hfz60_4
                        try clear hfz60_5
                        try clear hfz60_6
                        try clear hfz60_7
                        try clear hfz60_8
                        try clear hfz60_9
                        try clear hx402_0
                        try clear hx422_0
                        try clear hx423_0
                        try clear hx424_0
                        try clear p2
                        try clear p4
                        try clear p40
                        try clear p402
                        try clear p422
                        try clear p423
                        try clear p424
                        try clear p6
                        try clear q4
                        try clear q40
                        try clear q402
                        try clear q422
                        try clear q423
                        try clear q424
                        obtain ⟨kq, x110_58, rfl, HA, HJ58, HO_402003, HO_402004, HO_402010, BK401, HB⟩ := hcut
                        cases kq with
                        | zero => exact absurd HA.out (by simp [fleuronlaw9_SystemAdds.j4])
                        | succ kj58 =>
                          have H := HA.out
                          clear HA
                          simp only [fleuronlaw9_SystemAdds.j4] at H
                          by_cases c62 : x110_58 = true
                          · subst c62
                            have H1 : (if t420 = true then (some false) else (if t419.toList = ([] : List UInt8) then ((fleuronlaw9_awake.f).bind fun t425 => (some t425)) else (some false))) = some r := by rw [if_pos rfl] at H; exact H
                            clear H
                            have H := H1
                            clear H1
                            by_cases c63 : t420 = true
                            · subst c63
                              have H1 : (some false) = some r := by rw [if_pos rfl] at H; exact H
                              clear H
                              have H := H1
                              clear H1
                              exact absurd ((Option.some.inj H).trans ht_.out) (by decide)
                            · replace c63 := Bool.eq_false_iff.mpr c63
                              subst c63
                              have H1 : (if t419.toList = ([] : List UInt8) then ((fleuronlaw9_awake.f).bind fun t425 => (some t425)) else (some false)) = some r := by rw [if_neg (show ¬ (false = true) by decide)] at H; exact H
                              clear H
                              have H := H1
                              clear H1
                              by_cases c64 : t419.toList = ([] : List UInt8)
                              · rw [if_pos c64] at H
                                have c64b0 : (t419.toList == ([] : List UInt8)) = true := beq_iff_eq.mpr c64
                                have c64b1 : (t419.toList != ([] : List UInt8)) = false := bne_eq_false_iff_eq.mpr c64
                                clear c64
                                replace H := Option.bind_eq_some_iff.mp H
                                obtain ⟨t425, A650, H⟩ := H
                                replace H : (some t425) = some r := H
                                have A65 := Aside0.mk A650
                                clear A650
                                obtain rfl := Option.some.inj H
                                go_wp2_with (first | (go_at_call 10; (with_reducible refine (fleuronlaw9_awake.calls  t425 _ A65.out ht_.out).mono ?_); rintro e w66 ⟨rfl, hb⟩; have n0_ := Aside0.mk (Kd.R_below (by (with_reducible repeat (first | apply Kd.R_alloc | apply Kd.R_drewN | apply Kd.R_drew)); exact HO_402003.out) hb); have n1_ := Aside0.mk (Kd.R_below (by (with_reducible repeat (first | apply Kd.R_alloc | apply Kd.R_drewN | apply Kd.R_drew)); exact HO_402004.out) hb); have n2_ := Aside0.mk (Kd.R_below (by (with_reducible repeat (first | apply Kd.R_alloc | apply Kd.R_drewN | apply Kd.R_drew)); exact HO_402010.out) hb); have n3_ := Aside0.mk (blk_below (g := gb401) (o := .cells #[.string t379, .string t380, .int .i64 t381, .slice Ao43 x402003_2.length co43, .slice Ao44 x402004_2.length co44, .string t388, .string t389, .string t390, .string t391, .bool t392, .slice Ao16 t393.length co16, .int .i64 t396, .string t397, .string t398, .string t399, .int .i64 t400] 27 (0, 0)) (by (with_reducible repeat (first | refine blk_drewN ?_ _ | refine blk_drew ?_ | refine blk_alloc ?_ _)); exact BK401.out) hb); have n4_ := Aside0.mk (below_step (by repeat (first | (with_reducible first | exact HB.out | apply below_alloc | apply pw_below_drewN | apply below_drew1 | refine below_set ?_ GE401.out) | exact HB.out)) hb); clear HO_402003; clear HO_402004; clear HO_402010; clear BK401; clear HB; have HO_402003 := n0_; have HO_402004 := n1_; have HO_402010 := n2_; have BK401 := n3_; have HB := n4_; clear n0_ n1_ n2_ n3_ n4_; (try clear hb); (try clear hb2); (try clear hk); (try clear hi)))
                                go_ret
                                exact ⟨by first | rfl | (simp [errW_none, errW_some] <;> rfl) | (simp [*, errW_none, errW_some] <;> rfl), by repeat (first | (with_reducible first | exact HB.out | apply below_alloc | apply pw_below_drewN | apply below_drew1 | refine below_set ?_ GE401.out) | exact HB.out)⟩
                              · rw [if_neg c64] at H
                                have c64b0 : (t419.toList == ([] : List UInt8)) = false := beq_eq_false_iff_ne.mpr c64
                                have c64b1 : (t419.toList != ([] : List UInt8)) = true := bne_iff_ne.mpr c64
                                exact absurd ((Option.some.inj H).trans ht_.out) (by decide)
                          · replace c62 := Bool.eq_false_iff.mpr c62
                            subst c62
                            have H1 : (if t420 = true then (if t419.toList = x11_3.toList then ((fleuronlaw9_awake.f).bind fun t426 => (some t426)) else (some false)) else (some false)) = some r := by rw [if_neg (show ¬ (false = true) by decide)] at H; exact H
                            clear H
                            have H := H1
                            clear H1
                            by_cases c67 : t420 = true
                            · subst c67
                              have H1 : (if t419.toList = x11_3.toList then ((fleuronlaw9_awake.f).bind fun t426 => (some t426)) else (some false)) = some r := by rw [if_pos rfl] at H; exact H
                              clear H
                              have H := H1
                              clear H1
                              by_cases c68 : t419.toList = x11_3.toList
                              · rw [if_pos c68] at H
                                have c68b0 : (t419.toList == x11_3.toList) = true := beq_iff_eq.mpr c68
                                have c68b1 : (t419.toList != x11_3.toList) = false := bne_eq_false_iff_eq.mpr c68
                                clear c68
                                replace H := Option.bind_eq_some_iff.mp H
                                obtain ⟨t426, A690, H⟩ := H
                                replace H : (some t426) = some r := H
                                have A69 := Aside0.mk A690
                                clear A690
                                obtain rfl := Option.some.inj H
                                go_wp2_with (first | (go_at_call 10; (with_reducible refine (fleuronlaw9_awake.calls  t426 _ A69.out ht_.out).mono ?_); rintro e w70 ⟨rfl, hb⟩; have n0_ := Aside0.mk (Kd.R_below (by (with_reducible repeat (first | apply Kd.R_alloc | apply Kd.R_drewN | apply Kd.R_drew)); exact HO_402003.out) hb); have n1_ := Aside0.mk (Kd.R_below (by (with_reducible repeat (first | apply Kd.R_alloc | apply Kd.R_drewN | apply Kd.R_drew)); exact HO_402004.out) hb); have n2_ := Aside0.mk (Kd.R_below (by (with_reducible repeat (first | apply Kd.R_alloc | apply Kd.R_drewN | apply Kd.R_drew)); exact HO_402010.out) hb); have n3_ := Aside0.mk (blk_below (g := gb401) (o := .cells #[.string t379, .string t380, .int .i64 t381, .slice Ao43 x402003_2.length co43, .slice Ao44 x402004_2.length co44, .string t388, .string t389, .string t390, .string t391, .bool t392, .slice Ao16 t393.length co16, .int .i64 t396, .string t397, .string t398, .string t399, .int .i64 t400] 27 (0, 0)) (by (with_reducible repeat (first | refine blk_drewN ?_ _ | refine blk_drew ?_ | refine blk_alloc ?_ _)); exact BK401.out) hb); have n4_ := Aside0.mk (below_step (by repeat (first | (with_reducible first | exact HB.out | apply below_alloc | apply pw_below_drewN | apply below_drew1 | refine below_set ?_ GE401.out) | exact HB.out)) hb); clear HO_402003; clear HO_402004; clear HO_402010; clear BK401; clear HB; have HO_402003 := n0_; have HO_402004 := n1_; have HO_402010 := n2_; have BK401 := n3_; have HB := n4_; clear n0_ n1_ n2_ n3_ n4_; (try clear hb); (try clear hb2); (try clear hk); (try clear hi)))
                                go_ret
                                exact ⟨by first | rfl | (simp [errW_none, errW_some] <;> rfl) | (simp [*, errW_none, errW_some] <;> rfl), by repeat (first | (with_reducible first | exact HB.out | apply below_alloc | apply pw_below_drewN | apply below_drew1 | refine below_set ?_ GE401.out) | exact HB.out)⟩
                              · rw [if_neg c68] at H
                                have c68b0 : (t419.toList == x11_3.toList) = false := beq_eq_false_iff_ne.mpr c68
                                have c68b1 : (t419.toList != x11_3.toList) = true := bne_iff_ne.mpr c68
                                exact absurd ((Option.some.inj H).trans ht_.out) (by decide)
                            · replace c67 := Bool.eq_false_iff.mpr c67
                              subst c67
                              have H1 : (some false) = some r := by rw [if_neg (show ¬ (false = true) by decide)] at H; exact H
                              clear H
                              have H := H1
                              clear H1
                              exact absurd ((Option.some.inj H).trans ht_.out) (by decide)
              · replace c41 := Bool.eq_false_iff.mpr c41
                subst c41
                have H1 : (some false) = some r := by rw [if_neg (show ¬ (false = true) by decide)] at H; exact H
                clear H
                have H := H1
                clear H1
                exact absurd ((Option.some.inj H).trans ht_.out) (by decide)

/-- THE ONE PURE STATEMENT of fleuronlaw9_SystemAdds: yours. -/
def fleuronlaw9_SystemAdds.Pure : Prop := ∀ (l0 : List Int) (a1 : Int), l0.length ≤ maxLen → l0.length * 8 ≤ 140737488351232 → (∀ x ∈ l0, (Lit.int .i64 x).wf = true) → (Lit.int .i64 a1).wf = true → ∃ k, fleuronlaw9_SystemAdds.f k l0 a1 = some true
theorem fleuronlaw9_SystemAdds.walk (P : fleuronlaw9_SystemAdds.Pure) (a0 : Option Addr) (len0 cap0 : Nat) (z0 : List Int) (a1 : Int) (w : World) (w0 : (a0 = none ∧ len0 = 0 ∧ cap0 = 0 ∧ z0 = []) ∨ ∃ x, a0 = some x ∧ len0 ≤ cap0 ∧ cap0 ≤ maxLen ∧ z0.length = cap0 ∧ (∀ i, i < z0.length → w.cell? (x.add i) = some (.int .i64 (z0.getD i 0))) ∧ ∀ n ∈ z0, (Lit.int .i64 n).wf = true) (y0 : len0 * 8 ≤ 140737488351232) (w1 : (Lit.int .i64 a1).wf = true) :
    Calls Try.prog 7 #[.slice a0 len0 cap0, .int .i64 a1] w fun e w' => e = .returned (.bool true) ∧ Below w.heap.size w w' := by
  obtain ⟨l0, rfl, hr0, hm0, hw0, hc0⟩ := ReadsInt.ofRowC w0
  obtain ⟨k, h⟩ := P l0 a1 hm0 y0 hw0 w1
  refine (fleuronlaw9_SystemAdds.calls k _ _ l0 a1 true w (Kd.C_of_reads (d := (0 : Int)) (h1 := fun _ => rfl) hr0) hc0 h rfl).mono ?_
  rintro e w' ⟨rfl, hd⟩
  exact ⟨rfl, hd⟩

end Go.Proofs.Ytalegejfellbdaa.Print
