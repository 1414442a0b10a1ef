/- Written by a program of this session out of the translation, with contracts given by hand beside. -/
import Derived.Test.YtohnoohnppeooaaPrint0
import Derived.Test.YtohnoohnppeooaaPrint1
import Derived.Test.YtohnoohnppeooaaPrint2
import Derived.Test.YtohnoohnppeooaaPrint3
import Derived.Test.YtohnoohnppeooaaPrint4
import Derived.Test.YtohnoohnppeooaaPrint5
import Derived.Test.YtohnoohnppeooaaPrint6
import Derived.Test.YtohnoohnppeooaaPrint7
import Derived.Test.YtohnoohnppeooaaPrint8
import Derived.Test.YtohnoohnppeooaaPrint9
import Derived.Test.YtohnoohnppeooaaPrint10
namespace Go.Proofs.Ytohnoohnppeooaa.Print
open Go.RowKit Go.Proofs.YtohnoohnppeooaaW.PrintWords Go.Proofs.YtohnoohnppeooaaW.PrintLast Go.Proofs.YtohnoohnppeooaaW.PrintMore
attribute [local go_sem] max2_int min2_int max_two min_two max_three min_three max_four min_four   -- for this text's walks alone
set_option linter.unusedVariables false
set_option linter.unusedSimpArgs false

/-! ### fleuronlaw1_PointsRead: function 3 -/
def fleuronlaw1_PointsRead.j0 : Nat → List Int → Int → ByteArray → Bool → Option (Bool)
  | 0, _, _, _, _ => none
  | k + 1, x0, x1, x2, x18 => if x18 = true then ((fleuronlaw1_awake.f k).bind fun t130 => (some t130)) else ((points_Hex.f k x1).bind fun bt131 => ((fleuronref1_Hex.f k x1).bind fun bt133 => ((points_Read.f x0).bind fun t135 => ((fleuronref1_Read.f x0).bind fun t138 => ((fleuronlaw1_same.f k t135 t138).bind fun t141 => (if t141 = true then ((points_Put.f x1).bind fun t142 => ((fleuronref1_Put.f x1).bind fun t143 => (if t142.toList = t143.toList then ((points_Letter.f x1).bind fun t144 => ((fleuronref1_Letter.f x1).bind fun t145 => (if (t144 == t145) = true then ((points_Digit.f x1).bind fun t146 => ((fleuronref1_Digit.f x1).bind fun t147 => (if (t146 == t147) = true then ((points_Name.f x1).bind fun t148 => ((fleuronref1_Name.f x1).bind fun t149 => (if (t148 == t149) = true then (if bt131.1 = bt133.1 then (if (bt131.2 == bt133.2) = true then ((points_White.f x1).bind fun t150 => ((fleuronref1_White.f x1).bind fun t151 => (if (t150 == t151) = true then ((points_Lower.f x2).bind fun t152 => ((fleuronref1_Lower.f x2).bind fun t153 => (if t152.toList = t153.toList then ((fleuronlaw1_awake.f k).bind fun t154 => (some t154)) else (some false)))) else (some false)))) else (some false)) else (some false)) else (some false)))) else (some false)))) else (some false)))) else (some false)))) else (some false)))))))
def fleuronlaw1_PointsRead.f (k : Nat) (l0 : List Int) (a1 : Int) (a2 : ByteArray) : Option (Bool) := if (l0.length : Int) > 3000 then (fleuronlaw1_PointsRead.j0 k l0 a1 a2 true) else (fleuronlaw1_PointsRead.j0 k l0 a1 a2 (decide ((a2.size : Int) > 1000)))
theorem fleuronlaw1_PointsRead.mono_l : ∀ k, (∀ y0 y1 y2 y3, LeO (fleuronlaw1_PointsRead.j0 k y0 y1 y2 y3) (fleuronlaw1_PointsRead.j0 (k + 1) y0 y1 y2 y3))
  | 0 => fun _ _ _ _ r h => by simp [fleuronlaw1_PointsRead.j0] at h
  | k + 1 => by
    have ih0 := fleuronlaw1_PointsRead.mono_l k
    · intro y0 y1 y2 y3
      unfold fleuronlaw1_PointsRead.j0
      repeat' first
      | (with_reducible exact ih0 _ _ _ _)
      | (with_reducible exact fleuronlaw1_awake.mono _)
      | (with_reducible exact fleuronlaw1_same.mono _ _ _)
      | (with_reducible exact fleuronref1_Hex.mono _ _)
      | (with_reducible exact points_Hex.mono _ _)
      | (with_reducible exact LeO.refl _)
      | (with_reducible exact LeO.none _)
      | (with_reducible refine LeO.ite ?_ ?_)
      | (with_reducible refine LeO.bind ?_ (fun _ => ?_))
      | exact ih0 _ _ _ _
      | exact fleuronlaw1_awake.mono _
      | exact fleuronlaw1_same.mono _ _ _
      | exact fleuronref1_Hex.mono _ _
      | exact points_Hex.mono _ _
      | exact LeO.none _
      | refine LeO.ite ?_ ?_
      | refine LeO.bind ?_ (fun _ => ?_)
theorem fleuronlaw1_PointsRead.mono : ∀ a0 a1 a2 k, LeO (fleuronlaw1_PointsRead.f k a0 a1 a2) (fleuronlaw1_PointsRead.f (k + 1) a0 a1 a2) := by
  intro a0 a1 a2 k
  have ih0 := fleuronlaw1_PointsRead.mono_l k
  unfold fleuronlaw1_PointsRead.f
  repeat' first
      | (with_reducible exact ih0 _ _ _ _)
      | (with_reducible exact fleuronlaw1_awake.mono _)
      | (with_reducible exact fleuronlaw1_same.mono _ _ _)
      | (with_reducible exact fleuronref1_Hex.mono _ _)
      | (with_reducible exact points_Hex.mono _ _)
      | (with_reducible exact LeO.refl _)
      | (with_reducible exact LeO.none _)
      | (with_reducible refine LeO.ite ?_ ?_)
      | (with_reducible refine LeO.bind ?_ (fun _ => ?_))
      | exact ih0 _ _ _ _
      | exact fleuronlaw1_awake.mono _
      | exact fleuronlaw1_same.mono _ _ _
      | exact fleuronref1_Hex.mono _ _
      | exact points_Hex.mono _ _
      | exact LeO.none _
      | refine LeO.ite ?_ ?_
      | refine LeO.bind ?_ (fun _ => ?_)
set_option maxHeartbeats 8000000 in
set_option maxRecDepth 100000 in
theorem fleuronlaw1_PointsRead.calls (k : Nat) (A0 : Option Addr) (c0 : Nat) (l0 : List Int) (a1 : Int) (a2 : ByteArray) (r : Bool) (w : World) (hr0 : Kd.C (Kd.int .u8) w A0 l0.length l0) (hc0 : l0.length ≤ c0) (h : fleuronlaw1_PointsRead.f k l0 a1 a2 = some r) (ht0_ : r = true) :
    Calls Try.prog 3 #[.slice A0 l0.length c0, .int .i32 a1, .string a2] w fun e w' => e = .returned (.bool r) ∧ Below w.heap.size w w' := by
  have HR0 := Aside0.mk hr0
  have HC0 := Aside0.mk hc0
  clear hr0 hc0
  have HB := Aside0.mk (Below.refl w.heap.size w)
  have H : (if (l0.length : Int) > 3000 then (fleuronlaw1_PointsRead.j0 k l0 a1 a2 true) else (fleuronlaw1_PointsRead.j0 k l0 a1 a2 (decide ((a2.size : Int) > 1000)))) = some r := h
  clear h
  have ht_ := Aside0.mk ht0_
  clear ht0_
  have HC4 := Aside0.mk H
  clear H
  go_enter Try.func3, Try.ntmps3
  go_upto_region 1 with (fail)
  go_cut [18] (fun v18 wc => ∃ (kq : Nat) (x18_3 : Bool), v18 = .bool x18_3 ∧ Aside0 (fleuronlaw1_PointsRead.j0 kq l0 a1 a2 x18_3 = some r) ∧ Aside0 (kq ≤ k) ∧ Aside0 (Below w.heap.size w wc))
  case first =>
    have H := HC4.out
    clear HC4
    by_cases c5 : (l0.length : Int) > 3000
    · rw [if_pos c5] at H
      have c5b0 : decide (3000 < (l0.length : Int)) = true := decide_eq_true c5
      have c5b1 : decide (3000 < l0.length) = true := decide_eq_true (by omega)
      clear c5
      (first | rw [c5b0] | (simp only [i64_w, i32_w]; rw [c5b0]) | skip)
      have H' := Aside0.mk H
      clear H
      go_wp2
      go_meet
      case rel => exact ⟨_, (true), (by first | rfl | (simp; done) | (simp [*]; done)), H', ⟨by first | omega | exact Nat.le_refl _⟩, ⟨by repeat (first | (with_reducible first | exact HB.out | apply below_alloc | apply pw_below_drewN | apply below_drew1) | exact HB.out)⟩⟩
    · rw [if_neg c5] at H
      have c5b0 : decide (3000 < (l0.length : Int)) = false := decide_eq_false c5
      have c5b1 : decide (3000 < l0.length) = false := decide_eq_false (by omega)
      clear c5
      (first | rw [c5b0] | (simp only [i64_w, i32_w]; rw [c5b0]) | skip)
      have H' := Aside0.mk H
      clear H
      go_wp2
      go_meet
      case rel => exact ⟨_, (decide ((a2.size : Int) > 1000)), (by first | rfl | (simp; done) | (simp [*]; done)), H', ⟨by first | omega | exact Nat.le_refl _⟩, ⟨by repeat (first | (with_reducible first | exact HB.out | apply below_alloc | apply pw_below_drewN | apply below_drew1) | exact HB.out)⟩⟩
  case rest =>
    clear HC4
    try clear p2
    try clear c3
    try clear c5
    try clear c5b0
    try clear c5b1
    obtain ⟨kq, x18_3, rfl, HA, HJ3, HB⟩ := hcut
    cases kq with
    | zero => exact absurd HA.out (by simp [fleuronlaw1_PointsRead.j0])
    | succ kj3 =>
      have H := HA.out
      clear HA
      simp only [fleuronlaw1_PointsRead.j0] at H
      by_cases c6 : x18_3 = true
      · subst c6
        have H1 : ((fleuronlaw1_awake.f kj3).bind fun t130 => (some t130)) = some r := by rw [if_pos rfl] at H; exact H
        clear H
        have H := H1
        clear H1
        replace H := Option.bind_eq_some_iff.mp H
        obtain ⟨t130, A70, H⟩ := H
        replace H : (some t130) = some r := H
        have A7 := Aside0.mk A70
        clear A70
        obtain rfl := Option.some.inj H
        go_wp2_with (first | ((with_reducible refine gate_callee (f := 8) rfl ?_); refine goesL_ (some 19) rfl rfl Try.func8 (by kernel_rfl) rfl #[] rfl (by (try simp only [List.map_toArray, List.map_cons, List.map_nil]); first | done | rfl | (simp only [List.length_drop, List.length_take]; rfl)) ?_; (with_reducible refine (fleuronlaw1_awake.calls kj3  t130 _ A7.out ht_.out).mono ?_); rintro e w8 ⟨rfl, hb⟩; refine ⟨_, rfl, ?_⟩; have n0_ := Aside0.mk (below_step (by repeat (first | (with_reducible first | exact HB.out | apply below_alloc | apply pw_below_drewN | apply below_drew1) | exact HB.out)) hb); clear HB; have HB := n0_; clear n0_; (try clear hb); (try clear hb2); (try clear hk); (try clear hi)))
        go_ret
        exact ⟨by first | rfl | (simp [errW_none, errW_some] <;> rfl) | (simp [*, errW_none, errW_some] <;> rfl), by repeat (first | (with_reducible first | exact HB.out | apply below_alloc | apply pw_below_drewN | apply below_drew1) | exact HB.out)⟩
      · replace c6 := Bool.eq_false_iff.mpr c6
        subst c6
        have H1 : ((points_Hex.f kj3 a1).bind fun bt131 => ((fleuronref1_Hex.f kj3 a1).bind fun bt133 => ((points_Read.f l0).bind fun t135 => ((fleuronref1_Read.f l0).bind fun t138 => ((fleuronlaw1_same.f kj3 t135 t138).bind fun t141 => (if t141 = true then ((points_Put.f a1).bind fun t142 => ((fleuronref1_Put.f a1).bind fun t143 => (if t142.toList = t143.toList then ((points_Letter.f a1).bind fun t144 => ((fleuronref1_Letter.f a1).bind fun t145 => (if (t144 == t145) = true then ((points_Digit.f a1).bind fun t146 => ((fleuronref1_Digit.f a1).bind fun t147 => (if (t146 == t147) = true then ((points_Name.f a1).bind fun t148 => ((fleuronref1_Name.f a1).bind fun t149 => (if (t148 == t149) = true then (if bt131.1 = bt133.1 then (if (bt131.2 == bt133.2) = true then ((points_White.f a1).bind fun t150 => ((fleuronref1_White.f a1).bind fun t151 => (if (t150 == t151) = true then ((points_Lower.f a2).bind fun t152 => ((fleuronref1_Lower.f a2).bind fun t153 => (if t152.toList = t153.toList then ((fleuronlaw1_awake.f kj3).bind fun t154 => (some t154)) else (some false)))) else (some false)))) else (some false)) else (some false)) else (some false)))) else (some false)))) else (some false)))) else (some false)))) else (some false))))))) = some r := by rw [if_neg (show ¬ (false = true) by decide)] at H; exact H
        clear H
        have H := H1
        clear H1
        replace H := Option.bind_eq_some_iff.mp H
        obtain ⟨⟨t131, t132⟩, A90, H⟩ := H
        replace H : ((fleuronref1_Hex.f kj3 a1).bind fun bt133 => ((points_Read.f l0).bind fun t135 => ((fleuronref1_Read.f l0).bind fun t138 => ((fleuronlaw1_same.f kj3 t135 t138).bind fun t141 => (if t141 = true then ((points_Put.f a1).bind fun t142 => ((fleuronref1_Put.f a1).bind fun t143 => (if t142.toList = t143.toList then ((points_Letter.f a1).bind fun t144 => ((fleuronref1_Letter.f a1).bind fun t145 => (if (t144 == t145) = true then ((points_Digit.f a1).bind fun t146 => ((fleuronref1_Digit.f a1).bind fun t147 => (if (t146 == t147) = true then ((points_Name.f a1).bind fun t148 => ((fleuronref1_Name.f a1).bind fun t149 => (if (t148 == t149) = true then (if t131 = bt133.1 then (if (t132 == bt133.2) = true then ((points_White.f a1).bind fun t150 => ((fleuronref1_White.f a1).bind fun t151 => (if (t150 == t151) = true then ((points_Lower.f a2).bind fun t152 => ((fleuronref1_Lower.f a2).bind fun t153 => (if t152.toList = t153.toList then ((fleuronlaw1_awake.f kj3).bind fun t154 => (some t154)) else (some false)))) else (some false)))) else (some false)) else (some false)) else (some false)))) else (some false)))) else (some false)))) else (some false)))) else (some false)))))) = some r := H
        have A9 := Aside0.mk A90
        clear A90
        replace H := Option.bind_eq_some_iff.mp H
        obtain ⟨⟨t133, t134⟩, A100, H⟩ := H
        replace H : ((points_Read.f l0).bind fun t135 => ((fleuronref1_Read.f l0).bind fun t138 => ((fleuronlaw1_same.f kj3 t135 t138).bind fun t141 => (if t141 = true then ((points_Put.f a1).bind fun t142 => ((fleuronref1_Put.f a1).bind fun t143 => (if t142.toList = t143.toList then ((points_Letter.f a1).bind fun t144 => ((fleuronref1_Letter.f a1).bind fun t145 => (if (t144 == t145) = true then ((points_Digit.f a1).bind fun t146 => ((fleuronref1_Digit.f a1).bind fun t147 => (if (t146 == t147) = true then ((points_Name.f a1).bind fun t148 => ((fleuronref1_Name.f a1).bind fun t149 => (if (t148 == t149) = true then (if t131 = t133 then (if (t132 == t134) = true then ((points_White.f a1).bind fun t150 => ((fleuronref1_White.f a1).bind fun t151 => (if (t150 == t151) = true then ((points_Lower.f a2).bind fun t152 => ((fleuronref1_Lower.f a2).bind fun t153 => (if t152.toList = t153.toList then ((fleuronlaw1_awake.f kj3).bind fun t154 => (some t154)) else (some false)))) else (some false)))) else (some false)) else (some false)) else (some false)))) else (some false)))) else (some false)))) else (some false)))) else (some false))))) = some r := H
        have A10 := Aside0.mk A100
        clear A100
        replace H := Option.bind_eq_some_iff.mp H
        obtain ⟨t135, A110, H⟩ := H
        replace H : ((fleuronref1_Read.f l0).bind fun t138 => ((fleuronlaw1_same.f kj3 t135 t138).bind fun t141 => (if t141 = true then ((points_Put.f a1).bind fun t142 => ((fleuronref1_Put.f a1).bind fun t143 => (if t142.toList = t143.toList then ((points_Letter.f a1).bind fun t144 => ((fleuronref1_Letter.f a1).bind fun t145 => (if (t144 == t145) = true then ((points_Digit.f a1).bind fun t146 => ((fleuronref1_Digit.f a1).bind fun t147 => (if (t146 == t147) = true then ((points_Name.f a1).bind fun t148 => ((fleuronref1_Name.f a1).bind fun t149 => (if (t148 == t149) = true then (if t131 = t133 then (if (t132 == t134) = true then ((points_White.f a1).bind fun t150 => ((fleuronref1_White.f a1).bind fun t151 => (if (t150 == t151) = true then ((points_Lower.f a2).bind fun t152 => ((fleuronref1_Lower.f a2).bind fun t153 => (if t152.toList = t153.toList then ((fleuronlaw1_awake.f kj3).bind fun t154 => (some t154)) else (some false)))) else (some false)))) else (some false)) else (some false)) else (some false)))) else (some false)))) else (some false)))) else (some false)))) else (some false)))) = some r := H
        have A11 := Aside0.mk A110
        clear A110
        replace H := Option.bind_eq_some_iff.mp H
        obtain ⟨t138, A120, H⟩ := H
        replace H : ((fleuronlaw1_same.f kj3 t135 t138).bind fun t141 => (if t141 = true then ((points_Put.f a1).bind fun t142 => ((fleuronref1_Put.f a1).bind fun t143 => (if t142.toList = t143.toList then ((points_Letter.f a1).bind fun t144 => ((fleuronref1_Letter.f a1).bind fun t145 => (if (t144 == t145) = true then ((points_Digit.f a1).bind fun t146 => ((fleuronref1_Digit.f a1).bind fun t147 => (if (t146 == t147) = true then ((points_Name.f a1).bind fun t148 => ((fleuronref1_Name.f a1).bind fun t149 => (if (t148 == t149) = true then (if t131 = t133 then (if (t132 == t134) = true then ((points_White.f a1).bind fun t150 => ((fleuronref1_White.f a1).bind fun t151 => (if (t150 == t151) = true then ((points_Lower.f a2).bind fun t152 => ((fleuronref1_Lower.f a2).bind fun t153 => (if t152.toList = t153.toList then ((fleuronlaw1_awake.f kj3).bind fun t154 => (some t154)) else (some false)))) else (some false)))) else (some false)) else (some false)) else (some false)))) else (some false)))) else (some false)))) else (some false)))) else (some false))) = some r := H
        have A12 := Aside0.mk A120
        clear A120
        replace H := Option.bind_eq_some_iff.mp H
        obtain ⟨t141, A130, H⟩ := H
        replace H : (if t141 = true then ((points_Put.f a1).bind fun t142 => ((fleuronref1_Put.f a1).bind fun t143 => (if t142.toList = t143.toList then ((points_Letter.f a1).bind fun t144 => ((fleuronref1_Letter.f a1).bind fun t145 => (if (t144 == t145) = true then ((points_Digit.f a1).bind fun t146 => ((fleuronref1_Digit.f a1).bind fun t147 => (if (t146 == t147) = true then ((points_Name.f a1).bind fun t148 => ((fleuronref1_Name.f a1).bind fun t149 => (if (t148 == t149) = true then (if t131 = t133 then (if (t132 == t134) = true then ((points_White.f a1).bind fun t150 => ((fleuronref1_White.f a1).bind fun t151 => (if (t150 == t151) = true then ((points_Lower.f a2).bind fun t152 => ((fleuronref1_Lower.f a2).bind fun t153 => (if t152.toList = t153.toList then ((fleuronlaw1_awake.f kj3).bind fun t154 => (some t154)) else (some false)))) else (some false)))) else (some false)) else (some false)) else (some false)))) else (some false)))) else (some false)))) else (some false)))) else (some false)) = some r := H
        have A13 := Aside0.mk A130
        clear A130
        by_cases c14 : t141 = true
        · subst c14
          have H1 : ((points_Put.f a1).bind fun t142 => ((fleuronref1_Put.f a1).bind fun t143 => (if t142.toList = t143.toList then ((points_Letter.f a1).bind fun t144 => ((fleuronref1_Letter.f a1).bind fun t145 => (if (t144 == t145) = true then ((points_Digit.f a1).bind fun t146 => ((fleuronref1_Digit.f a1).bind fun t147 => (if (t146 == t147) = true then ((points_Name.f a1).bind fun t148 => ((fleuronref1_Name.f a1).bind fun t149 => (if (t148 == t149) = true then (if t131 = t133 then (if (t132 == t134) = true then ((points_White.f a1).bind fun t150 => ((fleuronref1_White.f a1).bind fun t151 => (if (t150 == t151) = true then ((points_Lower.f a2).bind fun t152 => ((fleuronref1_Lower.f a2).bind fun t153 => (if t152.toList = t153.toList then ((fleuronlaw1_awake.f kj3).bind fun t154 => (some t154)) else (some false)))) else (some false)))) else (some false)) else (some false)) else (some false)))) else (some false)))) else (some false)))) else (some false)))) = some r := by rw [if_pos rfl] at H; exact H
          clear H
          have H := H1
          clear H1
          replace H := Option.bind_eq_some_iff.mp H
          obtain ⟨t142, A150, H⟩ := H
          replace H : ((fleuronref1_Put.f a1).bind fun t143 => (if t142.toList = t143.toList then ((points_Letter.f a1).bind fun t144 => ((fleuronref1_Letter.f a1).bind fun t145 => (if (t144 == t145) = true then ((points_Digit.f a1).bind fun t146 => ((fleuronref1_Digit.f a1).bind fun t147 => (if (t146 == t147) = true then ((points_Name.f a1).bind fun t148 => ((fleuronref1_Name.f a1).bind fun t149 => (if (t148 == t149) = true then (if t131 = t133 then (if (t132 == t134) = true then ((points_White.f a1).bind fun t150 => ((fleuronref1_White.f a1).bind fun t151 => (if (t150 == t151) = true then ((points_Lower.f a2).bind fun t152 => ((fleuronref1_Lower.f a2).bind fun t153 => (if t152.toList = t153.toList then ((fleuronlaw1_awake.f kj3).bind fun t154 => (some t154)) else (some false)))) else (some false)))) else (some false)) else (some false)) else (some false)))) else (some false)))) else (some false)))) else (some false))) = some r := H
          have A15 := Aside0.mk A150
          clear A150
          replace H := Option.bind_eq_some_iff.mp H
          obtain ⟨t143, A160, H⟩ := H
          replace H : (if t142.toList = t143.toList then ((points_Letter.f a1).bind fun t144 => ((fleuronref1_Letter.f a1).bind fun t145 => (if (t144 == t145) = true then ((points_Digit.f a1).bind fun t146 => ((fleuronref1_Digit.f a1).bind fun t147 => (if (t146 == t147) = true then ((points_Name.f a1).bind fun t148 => ((fleuronref1_Name.f a1).bind fun t149 => (if (t148 == t149) = true then (if t131 = t133 then (if (t132 == t134) = true then ((points_White.f a1).bind fun t150 => ((fleuronref1_White.f a1).bind fun t151 => (if (t150 == t151) = true then ((points_Lower.f a2).bind fun t152 => ((fleuronref1_Lower.f a2).bind fun t153 => (if t152.toList = t153.toList then ((fleuronlaw1_awake.f kj3).bind fun t154 => (some t154)) else (some false)))) else (some false)))) else (some false)) else (some false)) else (some false)))) else (some false)))) else (some false)))) else (some false)) = some r := H
          have A16 := Aside0.mk A160
          clear A160
          by_cases c17 : t142.toList = t143.toList
          · rw [if_pos c17] at H
            have c17b0 : (t142.toList == t143.toList) = true := beq_iff_eq.mpr c17
            have c17b1 : (t142.toList != t143.toList) = false := bne_eq_false_iff_eq.mpr c17
            clear c17
            replace H := Option.bind_eq_some_iff.mp H
            obtain ⟨t144, A180, H⟩ := H
            replace H : ((fleuronref1_Letter.f a1).bind fun t145 => (if (t144 == t145) = true then ((points_Digit.f a1).bind fun t146 => ((fleuronref1_Digit.f a1).bind fun t147 => (if (t146 == t147) = true then ((points_Name.f a1).bind fun t148 => ((fleuronref1_Name.f a1).bind fun t149 => (if (t148 == t149) = true then (if t131 = t133 then (if (t132 == t134) = true then ((points_White.f a1).bind fun t150 => ((fleuronref1_White.f a1).bind fun t151 => (if (t150 == t151) = true then ((points_Lower.f a2).bind fun t152 => ((fleuronref1_Lower.f a2).bind fun t153 => (if t152.toList = t153.toList then ((fleuronlaw1_awake.f kj3).bind fun t154 => (some t154)) else (some false)))) else (some false)))) else (some false)) else (some false)) else (some false)))) else (some false)))) else (some false))) = some r := H
            have A18 := Aside0.mk A180
            clear A180
            replace H := Option.bind_eq_some_iff.mp H
            obtain ⟨t145, A190, H⟩ := H
            replace H : (if (t144 == t145) = true then ((points_Digit.f a1).bind fun t146 => ((fleuronref1_Digit.f a1).bind fun t147 => (if (t146 == t147) = true then ((points_Name.f a1).bind fun t148 => ((fleuronref1_Name.f a1).bind fun t149 => (if (t148 == t149) = true then (if t131 = t133 then (if (t132 == t134) = true then ((points_White.f a1).bind fun t150 => ((fleuronref1_White.f a1).bind fun t151 => (if (t150 == t151) = true then ((points_Lower.f a2).bind fun t152 => ((fleuronref1_Lower.f a2).bind fun t153 => (if t152.toList = t153.toList then ((fleuronlaw1_awake.f kj3).bind fun t154 => (some t154)) else (some false)))) else (some false)))) else (some false)) else (some false)) else (some false)))) else (some false)))) else (some false)) = some r := H
            have A19 := Aside0.mk A190
            clear A190
            by_cases c20 : (t144 == t145) = true
            · rw [if_pos c20] at H
              have c20b0 : (t144 == t145) = true := c20
              (try (have c20b1 : decide (t144 = t145) = true := by simpa using c20))
              (try (have c20b2 : (t144 == t145) = true := by simpa using c20))
              clear c20
              replace H := Option.bind_eq_some_iff.mp H
              obtain ⟨t146, A210, H⟩ := H
              replace H : ((fleuronref1_Digit.f a1).bind fun t147 => (if (t146 == t147) = true then ((points_Name.f a1).bind fun t148 => ((fleuronref1_Name.f a1).bind fun t149 => (if (t148 == t149) = true then (if t131 = t133 then (if (t132 == t134) = true then ((points_White.f a1).bind fun t150 => ((fleuronref1_White.f a1).bind fun t151 => (if (t150 == t151) = true then ((points_Lower.f a2).bind fun t152 => ((fleuronref1_Lower.f a2).bind fun t153 => (if t152.toList = t153.toList then ((fleuronlaw1_awake.f kj3).bind fun t154 => (some t154)) else (some false)))) else (some false)))) else (some false)) else (some false)) else (some false)))) else (some false))) = some r := H
              have A21 := Aside0.mk A210
              clear A210
              replace H := Option.bind_eq_some_iff.mp H
              obtain ⟨t147, A220, H⟩ := H
              replace H : (if (t146 == t147) = true then ((points_Name.f a1).bind fun t148 => ((fleuronref1_Name.f a1).bind fun t149 => (if (t148 == t149) = true then (if t131 = t133 then (if (t132 == t134) = true then ((points_White.f a1).bind fun t150 => ((fleuronref1_White.f a1).bind fun t151 => (if (t150 == t151) = true then ((points_Lower.f a2).bind fun t152 => ((fleuronref1_Lower.f a2).bind fun t153 => (if t152.toList = t153.toList then ((fleuronlaw1_awake.f kj3).bind fun t154 => (some t154)) else (some false)))) else (some false)))) else (some false)) else (some false)) else (some false)))) else (some false)) = some r := H
              have A22 := Aside0.mk A220
              clear A220
              by_cases c23 : (t146 == t147) = true
              · rw [if_pos c23] at H
                have c23b0 : (t146 == t147) = true := c23
                (try (have c23b1 : decide (t146 = t147) = true := by simpa using c23))
                (try (have c23b2 : (t146 == t147) = true := by simpa using c23))
                clear c23
                replace H := Option.bind_eq_some_iff.mp H
                obtain ⟨t148, A240, H⟩ := H
                replace H : ((fleuronref1_Name.f a1).bind fun t149 => (if (t148 == t149) = true then (if t131 = t133 then (if (t132 == t134) = true then ((points_White.f a1).bind fun t150 => ((fleuronref1_White.f a1).bind fun t151 => (if (t150 == t151) = true then ((points_Lower.f a2).bind fun t152 => ((fleuronref1_Lower.f a2).bind fun t153 => (if t152.toList = t153.toList then ((fleuronlaw1_awake.f kj3).bind fun t154 => (some t154)) else (some false)))) else (some false)))) else (some false)) else (some false)) else (some false))) = some r := H
                have A24 := Aside0.mk A240
                clear A240
                replace H := Option.bind_eq_some_iff.mp H
                obtain ⟨t149, A250, H⟩ := H
                replace H : (if (t148 == t149) = true then (if t131 = t133 then (if (t132 == t134) = true then ((points_White.f a1).bind fun t150 => ((fleuronref1_White.f a1).bind fun t151 => (if (t150 == t151) = true then ((points_Lower.f a2).bind fun t152 => ((fleuronref1_Lower.f a2).bind fun t153 => (if t152.toList = t153.toList then ((fleuronlaw1_awake.f kj3).bind fun t154 => (some t154)) else (some false)))) else (some false)))) else (some false)) else (some false)) else (some false)) = some r := H
                have A25 := Aside0.mk A250
                clear A250
                by_cases c26 : (t148 == t149) = true
                · rw [if_pos c26] at H
                  have c26b0 : (t148 == t149) = true := c26
                  (try (have c26b1 : decide (t148 = t149) = true := by simpa using c26))
                  (try (have c26b2 : (t148 == t149) = true := by simpa using c26))
                  clear c26
                  by_cases c27 : t131 = t133
                  · rw [if_pos c27] at H
                    have c27b0 : (t131 == t133) = true := beq_iff_eq.mpr c27
                    have c27b1 : (t131 != t133) = false := bne_eq_false_iff_eq.mpr c27
                    clear c27
                    by_cases c28 : (t132 == t134) = true
                    · rw [if_pos c28] at H
                      have c28b0 : (t132 == t134) = true := c28
                      (try (have c28b1 : decide (t132 = t134) = true := by simpa using c28))
                      (try (have c28b2 : (t132 == t134) = true := by simpa using c28))
                      clear c28
                      replace H := Option.bind_eq_some_iff.mp H
                      obtain ⟨t150, A290, H⟩ := H
                      replace H : ((fleuronref1_White.f a1).bind fun t151 => (if (t150 == t151) = true then ((points_Lower.f a2).bind fun t152 => ((fleuronref1_Lower.f a2).bind fun t153 => (if t152.toList = t153.toList then ((fleuronlaw1_awake.f kj3).bind fun t154 => (some t154)) else (some false)))) else (some false))) = some r := H
                      have A29 := Aside0.mk A290
                      clear A290
                      replace H := Option.bind_eq_some_iff.mp H
                      obtain ⟨t151, A300, H⟩ := H
                      replace H : (if (t150 == t151) = true then ((points_Lower.f a2).bind fun t152 => ((fleuronref1_Lower.f a2).bind fun t153 => (if t152.toList = t153.toList then ((fleuronlaw1_awake.f kj3).bind fun t154 => (some t154)) else (some false)))) else (some false)) = some r := H
                      have A30 := Aside0.mk A300
                      clear A300
                      by_cases c31 : (t150 == t151) = true
                      · rw [if_pos c31] at H
                        have c31b0 : (t150 == t151) = true := c31
                        (try (have c31b1 : decide (t150 = t151) = true := by simpa using c31))
                        (try (have c31b2 : (t150 == t151) = true := by simpa using c31))
                        clear c31
                        replace H := Option.bind_eq_some_iff.mp H
                        obtain ⟨t152, A320, H⟩ := H
                        replace H : ((fleuronref1_Lower.f a2).bind fun t153 => (if t152.toList = t153.toList then ((fleuronlaw1_awake.f kj3).bind fun t154 => (some t154)) else (some false))) = some r := H
                        have A32 := Aside0.mk A320
                        clear A320
                        replace H := Option.bind_eq_some_iff.mp H
                        obtain ⟨t153, A330, H⟩ := H
                        replace H : (if t152.toList = t153.toList then ((fleuronlaw1_awake.f kj3).bind fun t154 => (some t154)) else (some false)) = some r := H
                        have A33 := Aside0.mk A330
                        clear A330
                        by_cases c34 : t152.toList = t153.toList
                        · rw [if_pos c34] at H
                          have c34b0 : (t152.toList == t153.toList) = true := beq_iff_eq.mpr c34
                          have c34b1 : (t152.toList != t153.toList) = false := bne_eq_false_iff_eq.mpr c34
                          clear c34
                          replace H := Option.bind_eq_some_iff.mp H
                          obtain ⟨t154, A350, H⟩ := H
                          replace H : (some t154) = some r := H
                          have A35 := Aside0.mk A350
                          clear A350
                          obtain rfl := Option.some.inj H
                          go_wp2_with (first | ((with_reducible refine gate_callee (f := 9) rfl ?_); refine goesL_ (some 22) rfl rfl Try.func9 (by kernel_rfl) rfl #[.int .i32 a1] rfl (by (try simp only [List.map_toArray, List.map_cons, List.map_nil]); first | done | rfl | (simp only [List.length_drop, List.length_take]; rfl)) ?_; (with_reducible refine (points_Hex.calls kj3 a1 t131 t132 _ A9.out).mono ?_); rintro e w' ⟨rfl, ⟨nd, rfl⟩⟩; refine ⟨_, rfl, ?_⟩) | ((with_reducible refine gate_callee (f := 10) rfl ?_); refine goesL_ (some 27) rfl rfl Try.func10 (by kernel_rfl) rfl #[.int .i32 a1] rfl (by (try simp only [List.map_toArray, List.map_cons, List.map_nil]); first | done | rfl | (simp only [List.length_drop, List.length_take]; rfl)) ?_; (with_reducible refine (fleuronref1_Hex.calls kj3 a1 t133 t134 _ A10.out).mono ?_); rintro e w' ⟨rfl, ⟨nd, rfl⟩⟩; refine ⟨_, rfl, ?_⟩) | ((with_reducible refine gate_callee (f := 12) rfl ?_); refine goesL_ (some 31) rfl rfl Try.func12 (by kernel_rfl) rfl #[.slice A0 l0.length c0] rfl (by (try simp only [List.map_toArray, List.map_cons, List.map_nil]); first | done | rfl | (simp only [List.length_drop, List.length_take]; rfl)) ?_; (with_reducible refine (points_Read.calls _ _ l0 t135 _ ?side1 ?side2 A11.out).mono ?_); (case side1 => repeat (first | exact (Kd.C_below HR0.out (by repeat (first | (with_reducible first | exact HB.out | apply below_alloc | apply pw_below_drewN | apply below_drew1) | exact HB.out))) | (with_reducible refine Kd.C_alloc ?_ _) | (with_reducible refine Kd.C_drewN ?_ _) | (with_reducible refine Kd.C_drew ?_))); (case side2 => exact HC0.out); rintro e w36 ⟨v136, rfl, ho0, hb⟩; refine ⟨_, rfl, ?_⟩; have n0_ := Aside0.mk (Kd.R_lower ho0 (below_size (by repeat (first | (with_reducible first | exact HB.out | apply below_alloc | apply pw_below_drewN | apply below_drew1) | exact HB.out)))); have n1_ := Aside0.mk (below_step (by repeat (first | (with_reducible first | exact HB.out | apply below_alloc | apply pw_below_drewN | apply below_drew1) | exact HB.out)) hb); clear HB; have HO137 := n0_; have HB := n1_; clear n0_ n1_; (try clear hb); (try clear hb2); (try clear hk); (try clear hi); (try clear ho0)) | ((with_reducible refine gate_callee (f := 13) rfl ?_); refine goesL_ (some 33) rfl rfl Try.func13 (by kernel_rfl) rfl #[.slice A0 l0.length c0] rfl (by (try simp only [List.map_toArray, List.map_cons, List.map_nil]); first | done | rfl | (simp only [List.length_drop, List.length_take]; rfl)) ?_; (with_reducible refine (fleuronref1_Read.calls _ _ l0 t138 _ ?side1 ?side2 A12.out).mono ?_); (case side1 => repeat (first | exact (Kd.C_below HR0.out HB.out) | (with_reducible refine Kd.C_alloc ?_ _) | (with_reducible refine Kd.C_drewN ?_ _) | (with_reducible refine Kd.C_drew ?_))); (case side2 => exact HC0.out); rintro e w37 ⟨v139, rfl, ho0, hb⟩; refine ⟨_, rfl, ?_⟩; have n0_ := Aside0.mk (Kd.R_elder' (by (with_reducible repeat (first | apply Kd.R_alloc | apply Kd.R_drewN | apply Kd.R_drew)); exact HO137.out) (Kd.R_base ho0) hb); have n1_ := Aside0.mk (Kd.R_lower (Kd.R_new' ho0 (Kd.R_lt (by (with_reducible repeat (first | apply Kd.R_alloc | apply Kd.R_drewN | apply Kd.R_drew)); exact HO137.out))) (below_size (by repeat (first | (with_reducible first | exact HB.out | apply below_alloc | apply pw_below_drewN | apply below_drew1) | exact HB.out)))); have n2_ := Aside0.mk (below_step (by repeat (first | (with_reducible first | exact HB.out | apply below_alloc | apply pw_below_drewN | apply below_drew1) | exact HB.out)) hb); clear HO137; clear HB; have HO137 := n0_; have HO140 := n1_; have HB := n2_; clear n0_ n1_ n2_; (try clear hb); (try clear hb2); (try clear hk); (try clear hi); (try clear ho0); obtain ⟨Ao38, co38, eo38⟩ := Kd.R_slice HO137.out; subst eo38; obtain ⟨Ao39, co39, eo39⟩ := Kd.R_slice HO140.out; subst eo39) | ((with_reducible refine gate_callee (f := 11) rfl ?_); refine goesL_ (some 34) rfl rfl Try.func11 (by kernel_rfl) rfl #[.slice Ao38 t135.length co38, .slice Ao39 t138.length co39] rfl (by (try simp only [List.map_toArray, List.map_cons, List.map_nil]); first | done | rfl | (simp only [List.length_drop, List.length_take]; rfl)) ?_; (with_reducible refine (fleuronlaw1_same.calls kj3 _ _ t135 _ _ t138 true _ ?side1 ?side2 ?side3 ?side4 A13.out).mono ?_); (case side1 => repeat (first | exact (Kd.R_reads' HO137.out).2.2 | (with_reducible refine Kd.C_alloc ?_ _) | (with_reducible refine Kd.C_drewN ?_ _) | (with_reducible refine Kd.C_drew ?_))); (case side2 => exact (Kd.R_reads' HO137.out).2.1); (case side3 => repeat (first | exact (Kd.R_reads' HO140.out).2.2 | (with_reducible refine Kd.C_alloc ?_ _) | (with_reducible refine Kd.C_drewN ?_ _) | (with_reducible refine Kd.C_drew ?_))); (case side4 => exact (Kd.R_reads' HO140.out).2.1); rintro e w' ⟨rfl, ⟨nd, rfl⟩⟩; refine ⟨_, rfl, ?_⟩) | (go_at_call 14; (with_reducible refine (points_Put.calls a1 t142 _ A15.out).mono ?_); rintro e w40 ⟨rfl, hb⟩; have n0_ := Aside0.mk (Kd.R_below (by (with_reducible repeat (first | apply Kd.R_alloc | apply Kd.R_drewN | apply Kd.R_drew)); exact HO137.out) hb); have n1_ := Aside0.mk (Kd.R_below (by (with_reducible repeat (first | apply Kd.R_alloc | apply Kd.R_drewN | apply Kd.R_drew)); exact HO140.out) hb); have n2_ := Aside0.mk (below_step (by repeat (first | (with_reducible first | exact HB.out | apply below_alloc | apply pw_below_drewN | apply below_drew1) | exact HB.out)) hb); clear HO137; clear HO140; clear HB; have HO137 := n0_; have HO140 := n1_; have HB := n2_; clear n0_ n1_ n2_; (try clear hb); (try clear hb2); (try clear hk); (try clear hi)) | (go_at_call 15; (with_reducible refine (fleuronref1_Put.calls a1 t143 _ A16.out).mono ?_); rintro e w41 ⟨rfl, hb⟩; have n0_ := Aside0.mk (Kd.R_below (by (with_reducible repeat (first | apply Kd.R_alloc | apply Kd.R_drewN | apply Kd.R_drew)); exact HO137.out) hb); have n1_ := Aside0.mk (Kd.R_below (by (with_reducible repeat (first | apply Kd.R_alloc | apply Kd.R_drewN | apply Kd.R_drew)); exact HO140.out) hb); have n2_ := Aside0.mk (below_step (by repeat (first | (with_reducible first | exact HB.out | apply below_alloc | apply pw_below_drewN | apply below_drew1) | exact HB.out)) hb); clear HO137; clear HO140; clear HB; have HO137 := n0_; have HO140 := n1_; have HB := n2_; clear n0_ n1_ n2_; (try clear hb); (try clear hb2); (try clear hk); (try clear hi)) | (go_at_call 16; (with_reducible refine (points_Letter.calls a1 t144 _ A18.out).mono ?_); rintro e w' ⟨rfl, ⟨nd, rfl⟩⟩) | (go_at_call 17; (with_reducible refine (fleuronref1_Letter.calls a1 t145 _ A19.out).mono ?_); rintro e w' ⟨rfl, ⟨nd, rfl⟩⟩) | (go_at_call 18; (with_reducible refine (points_Digit.calls a1 t146 _ A21.out).mono ?_); rintro e w' ⟨rfl, ⟨nd, rfl⟩⟩) | (go_at_call 19; (with_reducible refine (fleuronref1_Digit.calls a1 t147 _ A22.out).mono ?_); rintro e w' ⟨rfl, ⟨nd, rfl⟩⟩) | (go_at_call 20; (with_reducible refine (points_Name.calls a1 t148 _ A24.out).mono ?_); rintro e w' ⟨rfl, ⟨nd, rfl⟩⟩) | (go_at_call 21; (with_reducible refine (fleuronref1_Name.calls a1 t149 _ A25.out).mono ?_); rintro e w' ⟨rfl, ⟨nd, rfl⟩⟩) | (go_at_call 22; (with_reducible refine (points_White.calls a1 t150 _ A29.out).mono ?_); rintro e w' ⟨rfl, ⟨nd, rfl⟩⟩) | (go_at_call 23; (with_reducible refine (fleuronref1_White.calls a1 t151 _ A30.out).mono ?_); rintro e w' ⟨rfl, ⟨nd, rfl⟩⟩) | (go_at_call 24; (with_reducible refine (points_Lower.calls a2 t152 _ A32.out).mono ?_); rintro e w42 ⟨rfl, hb⟩; have n0_ := Aside0.mk (Kd.R_below (by (with_reducible repeat (first | apply Kd.R_alloc | apply Kd.R_drewN | apply Kd.R_drew)); exact HO137.out) hb); have n1_ := Aside0.mk (Kd.R_below (by (with_reducible repeat (first | apply Kd.R_alloc | apply Kd.R_drewN | apply Kd.R_drew)); exact HO140.out) hb); have n2_ := Aside0.mk (below_step (by repeat (first | (with_reducible first | exact HB.out | apply below_alloc | apply pw_below_drewN | apply below_drew1) | exact HB.out)) hb); clear HO137; clear HO140; clear HB; have HO137 := n0_; have HO140 := n1_; have HB := n2_; clear n0_ n1_ n2_; (try clear hb); (try clear hb2); (try clear hk); (try clear hi)) | (go_at_call 25; (with_reducible refine (fleuronref1_Lower.calls a2 t153 _ A33.out).mono ?_); rintro e w43 ⟨rfl, hb⟩; have n0_ := Aside0.mk (Kd.R_below (by (with_reducible repeat (first | apply Kd.R_alloc | apply Kd.R_drewN | apply Kd.R_drew)); exact HO137.out) hb); have n1_ := Aside0.mk (Kd.R_below (by (with_reducible repeat (first | apply Kd.R_alloc | apply Kd.R_drewN | apply Kd.R_drew)); exact HO140.out) hb); have n2_ := Aside0.mk (below_step (by repeat (first | (with_reducible first | exact HB.out | apply below_alloc | apply pw_below_drewN | apply below_drew1) | exact HB.out)) hb); clear HO137; clear HO140; clear HB; have HO137 := n0_; have HO140 := n1_; have HB := n2_; clear n0_ n1_ n2_; (try clear hb); (try clear hb2); (try clear hk); (try clear hi)) | (go_at_call 8; (with_reducible refine (fleuronlaw1_awake.calls kj3  t154 _ A35.out ht_.out).mono ?_); rintro e w44 ⟨rfl, hb⟩; have n0_ := Aside0.mk (Kd.R_below (by (with_reducible repeat (first | apply Kd.R_alloc | apply Kd.R_drewN | apply Kd.R_drew)); exact HO137.out) hb); have n1_ := Aside0.mk (Kd.R_below (by (with_reducible repeat (first | apply Kd.R_alloc | apply Kd.R_drewN | apply Kd.R_drew)); exact HO140.out) hb); have n2_ := Aside0.mk (below_step (by repeat (first | (with_reducible first | exact HB.out | apply below_alloc | apply pw_below_drewN | apply below_drew1) | exact HB.out)) hb); clear HO137; clear HO140; clear HB; have HO137 := n0_; have HO140 := n1_; have HB := n2_; clear n0_ n1_ n2_; (try clear hb); (try clear hb2); (try clear hk); (try clear hi)))
                          go_ret
                          exact ⟨by first | rfl | (simp [errW_none, errW_some] <;> rfl) | (simp [*, errW_none, errW_some] <;> rfl), by repeat (first | (with_reducible first | exact HB.out | apply below_alloc | apply pw_below_drewN | apply below_drew1) | exact HB.out)⟩
                        · rw [if_neg c34] at H
                          have c34b0 : (t152.toList == t153.toList) = false := beq_eq_false_iff_ne.mpr c34
                          have c34b1 : (t152.toList != t153.toList) = true := bne_iff_ne.mpr c34
                          exact absurd ((Option.some.inj H).trans ht_.out) (by decide)
                      · rw [if_neg c31] at H
                        have c31b0 : (t150 == t151) = false := by simpa using c31
                        (try (have c31b1 : decide (t150 = t151) = false := by simpa using c31))
                        (try (have c31b2 : (t150 == t151) = false := by simpa using c31))
                        (try (have c31b3 : ¬ (t150 = t151) := by simpa using c31))
                        clear c31
                        exact absurd ((Option.some.inj H).trans ht_.out) (by decide)
                    · rw [if_neg c28] at H
                      have c28b0 : (t132 == t134) = false := by simpa using c28
                      (try (have c28b1 : decide (t132 = t134) = false := by simpa using c28))
                      (try (have c28b2 : (t132 == t134) = false := by simpa using c28))
                      (try (have c28b3 : ¬ (t132 = t134) := by simpa using c28))
                      clear c28
                      exact absurd ((Option.some.inj H).trans ht_.out) (by decide)
                  · rw [if_neg c27] at H
                    have c27b0 : (t131 == t133) = false := beq_eq_false_iff_ne.mpr c27
                    have c27b1 : (t131 != t133) = true := bne_iff_ne.mpr c27
                    exact absurd ((Option.some.inj H).trans ht_.out) (by decide)
                · rw [if_neg c26] at H
                  have c26b0 : (t148 == t149) = false := by simpa using c26
                  (try (have c26b1 : decide (t148 = t149) = false := by simpa using c26))
                  (try (have c26b2 : (t148 == t149) = false := by simpa using c26))
                  (try (have c26b3 : ¬ (t148 = t149) := by simpa using c26))
                  clear c26
                  exact absurd ((Option.some.inj H).trans ht_.out) (by decide)
              · rw [if_neg c23] at H
                have c23b0 : (t146 == t147) = false := by simpa using c23
                (try (have c23b1 : decide (t146 = t147) = false := by simpa using c23))
                (try (have c23b2 : (t146 == t147) = false := by simpa using c23))
                (try (have c23b3 : ¬ (t146 = t147) := by simpa using c23))
                clear c23
                exact absurd ((Option.some.inj H).trans ht_.out) (by decide)
            · rw [if_neg c20] at H
              have c20b0 : (t144 == t145) = false := by simpa using c20
              (try (have c20b1 : decide (t144 = t145) = false := by simpa using c20))
              (try (have c20b2 : (t144 == t145) = false := by simpa using c20))
              (try (have c20b3 : ¬ (t144 = t145) := by simpa using c20))
              clear c20
              exact absurd ((Option.some.inj H).trans ht_.out) (by decide)
          · rw [if_neg c17] at H
            have c17b0 : (t142.toList == t143.toList) = false := beq_eq_false_iff_ne.mpr c17
            have c17b1 : (t142.toList != t143.toList) = true := bne_iff_ne.mpr c17
            exact absurd ((Option.some.inj H).trans ht_.out) (by decide)
        · replace c14 := Bool.eq_false_iff.mpr c14
          subst c14
          have H1 : (some false) = some r := by rw [if_neg (show ¬ (false = true) by decide)] at H; exact H
          clear H
          have H := H1
          clear H1
          exact absurd ((Option.some.inj H).trans ht_.out) (by decide)

/-- THE ONE PURE STATEMENT of fleuronlaw1_PointsRead: yours. -/
def fleuronlaw1_PointsRead.Pure : Prop := ∀ (l0 : List Int) (a1 : Int) (a2 : ByteArray), l0.length ≤ maxLen → l0.length * 1 ≤ 140737488351232 → (∀ x ∈ l0, (Lit.int .u8 x).wf = true) → (Lit.int .i32 a1).wf = true → a2.size ≤ 140737488351232 → ∃ k, fleuronlaw1_PointsRead.f k l0 a1 a2 = some true
theorem fleuronlaw1_PointsRead.walk (P : fleuronlaw1_PointsRead.Pure) (a0 : Option Addr) (len0 cap0 : Nat) (z0 : List Int) (a1 : Int) (a2 : ByteArray) (w : World) (w0 : (a0 = none ∧ len0 = 0 ∧ cap0 = 0 ∧ z0 = []) ∨ ∃ x, a0 = some x ∧ len0 ≤ cap0 ∧ cap0 ≤ maxLen ∧ z0.length = cap0 ∧ (∀ i, i < z0.length → w.cell? (x.add i) = some (.int .u8 (z0.getD i 0))) ∧ ∀ n ∈ z0, (Lit.int .u8 n).wf = true) (y0 : len0 * 1 ≤ 140737488351232) (w1 : (Lit.int .i32 a1).wf = true) (w2 : a2.size ≤ 140737488351232) :
    Calls Try.prog 3 #[.slice a0 len0 cap0, .int .i32 a1, .string a2] w fun e w' => e = .returned (.bool true) ∧ Below w.heap.size w w' := by
  obtain ⟨l0, rfl, hr0, hm0, hw0, hc0⟩ := ReadsInt.ofRowC w0
  obtain ⟨k, h⟩ := P l0 a1 a2 hm0 y0 hw0 w1 w2
  refine (fleuronlaw1_PointsRead.calls k _ _ l0 a1 a2 true w (Kd.C_of_reads (d := (0 : Int)) (h1 := fun _ => rfl) hr0) hc0 h rfl).mono ?_
  rintro e w' ⟨rfl, hd⟩
  exact ⟨rfl, hd⟩

/-! ### fleuronlaw1_PointsLines: function 5 -/
def fleuronlaw1_PointsLines.l0 : Nat → List Int → List Int → List Int → Int → Option (Bool)
  | 0, _, _, _, _ => none
  | k + 1, x0, x3, x4, x5 => if x5 < (x0.length : Int) then (if 0 ≤ x5 then ((some (([(⟨#[13, 10]⟩ : ByteArray), (⟨#[10]⟩ : ByteArray), (⟨#[12]⟩ : ByteArray), (⟨#[13]⟩ : ByteArray)] : List ByteArray) : List ByteArray)).bind fun y157 => (if 0 ≤ (Int.tmod (wrap64 ((Int.tmod (rd x0 x5) 4) + 4)) 4) then (if (Int.tmod (wrap64 ((Int.tmod (rd x0 x5) 4) + 4)) 4) < (y157.length : Int) then (if x3.length + (rdOf ByteArray.empty y157 (Int.tmod (wrap64 ((Int.tmod (rd x0 x5) 4) + 4)) 4)).size < 140737488355328 then ((some (x3 ++ bytesOf (rdOf ByteArray.empty y157 (Int.tmod (wrap64 ((Int.tmod (rd x0 x5) 4) + 4)) 4)) : List Int)).bind fun y161 => (if y161.length < 140737488355328 then ((some (([10, 120] : List Int) : List Int)).bind fun y167 => (if x4.length + y167.length < 35184372088832 then (fleuronlaw1_PointsLines.l0 k x0 (y161 ++ [120]) (x4 ++ y167) (wrap64 (x5 + 1))) else (none))) else (none))) else (none)) else (none)) else (none))) else (none)) else ((points_Read.f x3).bind fun t173 => ((fleuronlaw1_same.f k t173 x4).bind fun t176 => (if t176 = true then ((fleuronlaw1_awake.f k).bind fun t177 => (some t177)) else (some false))))
def fleuronlaw1_PointsLines.f (k : Nat) (l0 : List Int) : Option (Bool) := if (l0.length : Int) > 60 then ((fleuronlaw1_awake.f k).bind fun t155 => (some t155)) else (fleuronlaw1_PointsLines.l0 k l0 ([] : List Int) ([] : List Int) 0)
theorem fleuronlaw1_PointsLines.mono_l : ∀ k, (∀ y0 y1 y2 y3, LeO (fleuronlaw1_PointsLines.l0 k y0 y1 y2 y3) (fleuronlaw1_PointsLines.l0 (k + 1) y0 y1 y2 y3))
  | 0 => fun _ _ _ _ r h => by simp [fleuronlaw1_PointsLines.l0] at h
  | k + 1 => by
    have ih0 := fleuronlaw1_PointsLines.mono_l k
    · intro y0 y1 y2 y3
      unfold fleuronlaw1_PointsLines.l0
      repeat' first
      | (with_reducible exact ih0 _ _ _ _)
      | (with_reducible exact fleuronlaw1_awake.mono _)
      | (with_reducible exact fleuronlaw1_same.mono _ _ _)
      | (with_reducible exact LeO.refl _)
      | (with_reducible exact LeO.none _)
      | (with_reducible refine LeO.ite ?_ ?_)
      | (with_reducible refine LeO.bind ?_ (fun _ => ?_))
      | exact ih0 _ _ _ _
      | exact fleuronlaw1_awake.mono _
      | exact fleuronlaw1_same.mono _ _ _
      | exact LeO.none _
      | refine LeO.ite ?_ ?_
      | refine LeO.bind ?_ (fun _ => ?_)
theorem fleuronlaw1_PointsLines.mono : ∀ a0 k, LeO (fleuronlaw1_PointsLines.f k a0) (fleuronlaw1_PointsLines.f (k + 1) a0) := by
  intro a0 k
  have ih0 := fleuronlaw1_PointsLines.mono_l k
  unfold fleuronlaw1_PointsLines.f
  repeat' first
      | (with_reducible exact ih0 _ _ _ _)
      | (with_reducible exact fleuronlaw1_awake.mono _)
      | (with_reducible exact fleuronlaw1_same.mono _ _ _)
      | (with_reducible exact LeO.refl _)
      | (with_reducible exact LeO.none _)
      | (with_reducible refine LeO.ite ?_ ?_)
      | (with_reducible refine LeO.bind ?_ (fun _ => ?_))
      | exact ih0 _ _ _ _
      | exact fleuronlaw1_awake.mono _
      | exact fleuronlaw1_same.mono _ _ _
      | exact LeO.none _
      | refine LeO.ite ?_ ?_
      | refine LeO.bind ?_ (fun _ => ?_)
set_option maxHeartbeats 8000000 in
set_option maxRecDepth 100000 in
theorem fleuronlaw1_PointsLines.calls (k : Nat) (A0 : Option Addr) (c0 : Nat) (l0 : List Int) (r : Bool) (w : World) (hr0 : Kd.C (Kd.int .i64) w A0 l0.length l0) (hc0 : l0.length ≤ c0) (h : fleuronlaw1_PointsLines.f k l0 = some r) (ht0_ : r = true) :
    Calls Try.prog 5 #[.slice A0 l0.length c0] w fun e w' => e = .returned (.bool r) ∧ Below w.heap.size w w' := by
  have HR0 := Aside0.mk hr0
  have HC0 := Aside0.mk hc0
  clear hr0 hc0
  have HB := Aside0.mk (Below.refl w.heap.size w)
  have H : (if (l0.length : Int) > 60 then ((fleuronlaw1_awake.f k).bind fun t155 => (some t155)) else (fleuronlaw1_PointsLines.l0 k l0 ([] : List Int) ([] : List Int) 0)) = some r := h
  clear h
  have ht_ := Aside0.mk ht0_
  clear ht0_
  by_cases c2 : (l0.length : Int) > 60
  · rw [if_pos c2] at H
    have c2b0 : decide (60 < (l0.length : Int)) = true := decide_eq_true c2
    have c2b1 : decide (60 < l0.length) = true := decide_eq_true (by omega)
    clear c2
    replace H := Option.bind_eq_some_iff.mp H
    obtain ⟨t155, A30, H⟩ := H
    replace H : (some t155) = some r := H
    have A3 := Aside0.mk A30
    clear A30
    obtain rfl := Option.some.inj H
    go_enter Try.func5, Try.ntmps5
    go_wp2_with (first | ((with_reducible refine gate_callee (f := 8) rfl ?_); refine goesL_ (some 10) rfl rfl Try.func8 (by kernel_rfl) rfl #[] rfl (by (try simp only [List.map_toArray, List.map_cons, List.map_nil]); first | done | rfl | (simp only [List.length_drop, List.length_take]; rfl)) ?_; (with_reducible refine (fleuronlaw1_awake.calls k  t155 _ A3.out ht_.out).mono ?_); rintro e w4 ⟨rfl, hb⟩; refine ⟨_, rfl, ?_⟩; have n0_ := Aside0.mk (below_step (by repeat (first | (with_reducible first | exact HB.out | apply below_alloc | apply pw_below_drewN | apply below_drew1) | exact HB.out)) hb); clear HB; have HB := n0_; clear n0_; (try clear hb); (try clear hb2); (try clear hk); (try clear hi)))
    go_ret
    exact ⟨by first | rfl | (simp [errW_none, errW_some] <;> rfl) | (simp [*, errW_none, errW_some] <;> rfl), by repeat (first | (with_reducible first | exact HB.out | apply below_alloc | apply pw_below_drewN | apply below_drew1) | exact HB.out)⟩
  · rw [if_neg c2] at H
    have c2b0 : decide (60 < (l0.length : Int)) = false := decide_eq_false c2
    have c2b1 : decide (60 < l0.length) = false := decide_eq_false (by omega)
    clear c2
    have H' := Aside0.mk H
    clear H
    go_enter Try.func5, Try.ntmps5
    go_wp2
    go_loopg [3, 4, 5] k (fun kq v3 v4 v5 w' => ∃ (x3_1 : List Int) (x4_1 : List Int) (x5_1 : Int), v5 = .int .i64 x5_1 ∧ Aside0 (fleuronlaw1_PointsLines.l0 kq l0 x3_1 x4_1 x5_1 = some r) ∧ Aside0 (kq ≤ k) ∧ Aside0 (Kd.R (Kd.int .u8) 5 w' w.heap.size (fun _ => True) v3 x3_1) ∧ Aside0 (Kd.R (Kd.int .i32) 21 w' w.heap.size (fun _ => True) v4 x4_1) ∧ Aside0 (Below w.heap.size w w'))
    case atStart => exact ⟨(([] : List Int)), (([] : List Int)), (0), (by first | rfl | (simp; done) | (simp [*]; done)), H', ⟨Nat.le_refl _⟩, ⟨by first | exact Kd.R_nil _ _ _ _ _ | exact Kd.N_nil _ _ _ _ _ | exact Kd.V_nil _ _ _ _ _ | exact Kd.Q_nil _ _ _ _ _ | exact Kd.S_nil _ _ _ _ _⟩, ⟨by first | exact Kd.R_nil _ _ _ _ _ | exact Kd.N_nil _ _ _ _ _ | exact Kd.V_nil _ _ _ _ _ | exact Kd.Q_nil _ _ _ _ _ | exact Kd.S_nil _ _ _ _ _⟩, ⟨by repeat (first | (with_reducible first | exact HB.out | apply below_alloc | apply pw_below_drewN | apply below_drew1) | exact HB.out)⟩⟩
    case round =>
      clear H'
      try clear c2
      try clear c2b0
      try clear c2b1
      try clear p2
      obtain ⟨x3_1, x4_1, x5_1, rfl, HA, HK1, HO_3, HO_4, HB⟩ := hrel
      cases gk with
      | zero => exact absurd HA.out (by simp [fleuronlaw1_PointsLines.l0])
      | succ k1 =>
        have H := HA.out
        clear HA
        simp only [fleuronlaw1_PointsLines.l0] at H
        by_cases c5 : x5_1 < (l0.length : Int)
        · rw [if_pos c5] at H
          have c5b0 : decide (x5_1 < (l0.length : Int)) = true := decide_eq_true c5
          clear c5
          by_cases c6 : 0 ≤ x5_1
          · rw [if_pos c6] at H
            have c6b0 : decide (0 ≤ x5_1) = true := decide_eq_true c6
            clear c6
            obtain ⟨y157, hy157⟩ : ∃ y_ : List ByteArray, y_ = (([(⟨#[13, 10]⟩ : ByteArray), (⟨#[10]⟩ : ByteArray), (⟨#[12]⟩ : ByteArray), (⟨#[13]⟩ : ByteArray)] : List ByteArray)) := ⟨_, rfl⟩
            replace H : (if 0 ≤ (Int.tmod (wrap64 ((Int.tmod (rd l0 x5_1) 4) + 4)) 4) then (if (Int.tmod (wrap64 ((Int.tmod (rd l0 x5_1) 4) + 4)) 4) < (y157.length : Int) then (if x3_1.length + (rdOf ByteArray.empty y157 (Int.tmod (wrap64 ((Int.tmod (rd l0 x5_1) 4) + 4)) 4)).size < 140737488355328 then ((some (x3_1 ++ bytesOf (rdOf ByteArray.empty y157 (Int.tmod (wrap64 ((Int.tmod (rd l0 x5_1) 4) + 4)) 4)) : List Int)).bind fun y161 => (if y161.length < 140737488355328 then ((some (([10, 120] : List Int) : List Int)).bind fun y167 => (if x4_1.length + y167.length < 35184372088832 then (fleuronlaw1_PointsLines.l0 k1 l0 (y161 ++ [120]) (x4_1 ++ y167) (wrap64 (x5_1 + 1))) else (none))) else (none))) else (none)) else (none)) else (none)) = some r := by first | (rw [hy157]; with_reducible exact H) | (have H2_ := (Option.bind_some _ _).symm.trans H; rw [hy157]; with_reducible exact H2_) | (have H2_ := (Option.bind_some _ _).symm.trans H; with_reducible exact H2_) | with_reducible exact H | (rw [hy157]; exact H) | exact H
            have Ny157 := Aside0.mk hy157
            clear hy157
            obtain ⟨ji7, hji7⟩ : ∃ j_ : Int, (Int.tmod (wrap64 ((Int.tmod (rd l0 x5_1) 4) + 4)) 4) = j_ := ⟨_, rfl⟩
            replace H : (if 0 ≤ (ji7) then (if (ji7) < (y157.length : Int) then (if x3_1.length + (rdOf ByteArray.empty y157 (ji7)).size < 140737488355328 then ((some (x3_1 ++ bytesOf (rdOf ByteArray.empty y157 (ji7)) : List Int)).bind fun y161 => (if y161.length < 140737488355328 then ((some (([10, 120] : List Int) : List Int)).bind fun y167 => (if x4_1.length + y167.length < 35184372088832 then (fleuronlaw1_PointsLines.l0 k1 l0 (y161 ++ [120]) (x4_1 ++ y167) (wrap64 (x5_1 + 1))) else (none))) else (none))) else (none)) else (none)) else (none)) = some r := by first | (rw [hji7] at H; exact H) | (simp only [hji7] at H ⊢; exact H)
            by_cases c8 : 0 ≤ (ji7)
            · rw [if_pos c8] at H
              have c8b0 : decide (0 ≤ (ji7)) = true := decide_eq_true c8
              clear c8
              by_cases c9 : (ji7) < (y157.length : Int)
              · rw [if_pos c9] at H
                have c9b0 : decide ((ji7) < (y157.length : Int)) = true := decide_eq_true c9
                clear c9
                by_cases c10 : x3_1.length + (rdOf ByteArray.empty y157 (ji7)).size < 140737488355328
                · rw [if_pos c10] at H
                  have LMc10 := Aside0.mk c10
                  clear c10
                  obtain ⟨y161, hy161⟩ : ∃ y_ : List Int, y_ = (x3_1 ++ bytesOf (rdOf ByteArray.empty y157 (ji7))) := ⟨_, rfl⟩
                  replace H : (if y161.length < 140737488355328 then ((some (([10, 120] : List Int) : List Int)).bind fun y167 => (if x4_1.length + y167.length < 35184372088832 then (fleuronlaw1_PointsLines.l0 k1 l0 (y161 ++ [120]) (x4_1 ++ y167) (wrap64 (x5_1 + 1))) else (none))) else (none)) = some r := by first | (rw [hy161]; with_reducible exact H) | (have H2_ := (Option.bind_some _ _).symm.trans H; rw [hy161]; with_reducible exact H2_) | (have H2_ := (Option.bind_some _ _).symm.trans H; with_reducible exact H2_) | with_reducible exact H | (rw [hy161]; exact H) | exact H
                  have Ny161 := Aside0.mk hy161
                  clear hy161
                  by_cases c11 : y161.length < 140737488355328
                  · rw [if_pos c11] at H
                    have LMc11 := Aside0.mk c11
                    clear c11
                    obtain ⟨y164, hy164⟩ : ∃ y_ : List Int, y_ = (y161 ++ [120]) := ⟨_, rfl⟩
                    replace H : ((some (([10, 120] : List Int) : List Int)).bind fun y167 => (if x4_1.length + y167.length < 35184372088832 then (fleuronlaw1_PointsLines.l0 k1 l0 y164 (x4_1 ++ y167) (wrap64 (x5_1 + 1))) else (none))) = some r := by first | (rw [hy164]; with_reducible exact H) | (have H2_ := (Option.bind_some _ _).symm.trans H; rw [hy164]; with_reducible exact H2_) | (have H2_ := (Option.bind_some _ _).symm.trans H; with_reducible exact H2_) | with_reducible exact H | (rw [hy164]; exact H) | exact H
                    have Ny164 := Aside0.mk hy164
                    clear hy164
                    obtain ⟨y167, hy167⟩ : ∃ y_ : List Int, y_ = (([10, 120] : List Int)) := ⟨_, rfl⟩
                    replace H : (if x4_1.length + y167.length < 35184372088832 then (fleuronlaw1_PointsLines.l0 k1 l0 y164 (x4_1 ++ y167) (wrap64 (x5_1 + 1))) else (none)) = some r := by first | (rw [hy167]; with_reducible exact H) | (have H2_ := (Option.bind_some _ _).symm.trans H; rw [hy167]; with_reducible exact H2_) | (have H2_ := (Option.bind_some _ _).symm.trans H; with_reducible exact H2_) | with_reducible exact H | (rw [hy167]; exact H) | exact H
                    have Ny167 := Aside0.mk hy167
                    clear hy167
                    by_cases c12 : x4_1.length + y167.length < 35184372088832
                    · rw [if_pos c12] at H
                      have LMc12 := Aside0.mk c12
                      clear c12
                      obtain ⟨y170, hy170⟩ : ∃ y_ : List Int, y_ = (x4_1 ++ y167) := ⟨_, rfl⟩
                      replace H : (fleuronlaw1_PointsLines.l0 k1 l0 y164 y170 (wrap64 (x5_1 + 1))) = some r := by first | (rw [hy170]; with_reducible exact H) | (have H2_ := (Option.bind_some _ _).symm.trans H; rw [hy170]; with_reducible exact H2_) | (have H2_ := (Option.bind_some _ _).symm.trans H; with_reducible exact H2_) | with_reducible exact H | (rw [hy170]; exact H) | exact H
                      have Ny170 := Aside0.mk hy170
                      clear hy170
                      have H' := Aside0.mk H
                      clear H
                      have p156 : 0 ≤ (x5_1 : Int) := of_decide_eq_true (by first | (with_reducible assumption) | assumption)
                      have q156 : x5_1 < (l0.length : Int) := of_decide_eq_true (by first | (with_reducible assumption) | assumption)
                      obtain ⟨ad156, e156, hx156_0⟩ := Kd.at_int HR0.out x5_1 p156 q156
                      cases e156
                      replace hx156_0 := (HB.out.cell (World.block_lt_of_cell? w _ hx156_0)).trans hx156_0
                      replace p156 := eq_true p156
                      replace q156 := eq_true q156
                      go_wp2_with (first | ((with_reducible refine gate_dst (N := 25) rfl ?_); refine Kd.R_lit Kd.string _ 9 ?hg (N := 25) ?hd (xs := ([(⟨#[13, 10]⟩ : ByteArray), (⟨#[10]⟩ : ByteArray), (⟨#[12]⟩ : ByteArray), (⟨#[13]⟩ : ByteArray)] : List ByteArray)) (inner := [.string (⟨#[13, 10]⟩ : ByteArray), .string (⟨#[10]⟩ : ByteArray), .string (⟨#[12]⟩ : ByteArray), .string (⟨#[13]⟩ : ByteArray)]) (ok := fun _ => True) (okp := fun _ => True) ?hr ?hp (fun _ hk => hk) trivial (Below.refl _ _) (Nat.le_refl _) (by simp) ?_; (case hd => rfl); (case hg => rfl); (case hr => first | (go_simp; done) | (go_simp; rfl)); (case hp => exact (Reps.one (show Kd.M Kd.string _ _ _ (⟨#[13, 10]⟩ : ByteArray) [.string (⟨#[13, 10]⟩ : ByteArray)] from rfl) (Reps.one (show Kd.M Kd.string _ _ _ (⟨#[10]⟩ : ByteArray) [.string (⟨#[10]⟩ : ByteArray)] from rfl) (Reps.one (show Kd.M Kd.string _ _ _ (⟨#[12]⟩ : ByteArray) [.string (⟨#[12]⟩ : ByteArray)] from rfl) (Reps.one (show Kd.M Kd.string _ _ _ (⟨#[13]⟩ : ByteArray) [.string (⟨#[13]⟩ : ByteArray)] from rfl) (Reps.none _ _)))))); intro v158 w13 ho14 hb hg_ hnew_; clear hg_ hnew_; (first | rw [← Ny157.out] at ho14 | (simp only [Int.reduceToNat] at ho14; rw [← Ny157.out] at ho14)); have n0_ := Aside0.mk (Kd.R_below (by (with_reducible repeat (first | apply Kd.R_alloc | apply Kd.R_drewN | apply Kd.R_drew)); exact HO_3.out) hb); have n1_ := Aside0.mk (Kd.R_below (by (with_reducible repeat (first | apply Kd.R_alloc | apply Kd.R_drewN | apply Kd.R_drew)); exact HO_4.out) hb); have n2_ := Aside0.mk (Kd.R_lower ho14 (below_size (by repeat (first | (with_reducible first | exact HB.out | apply below_alloc | apply pw_below_drewN | apply below_drew1) | exact HB.out)))); have n3_ := Aside0.mk (below_step (by repeat (first | (with_reducible first | exact HB.out | apply below_alloc | apply pw_below_drewN | apply below_drew1) | exact HB.out)) hb); clear HO_3; clear HO_4; clear HB; have HO_3 := n0_; have HO_4 := n1_; have HO159 := n2_; have HB := n3_; clear n0_ n1_ n2_ n3_; clear hb ho14; obtain ⟨Ao15, co15, eo15⟩ := Kd.R_slice HO159.out; subst eo15; have p160 : 0 ≤ ((ji7) : Int) := of_decide_eq_true (by first | (with_reducible assumption) | assumption); have q160 : (ji7) < (y157.length : Int) := of_decide_eq_true (by first | (with_reducible assumption) | assumption); obtain ⟨ad160, e160, hx160_0⟩ := Kd.at_string (Kd.R_reads' HO159.out).2.2 (ji7) p160 q160; cases e160; replace p160 := eq_true p160; replace q160 := eq_true q160) | (at_builtin; refine print_append_str (w0 := w) w.heap.size rfl (.tmp 24) _ 22 9 5 rfl Try.underlying22 Try.underlying9 info5 u3 x3_1 (rdOf ByteArray.empty y157 (ji7)) rfl rfl ?aO ?aB ?aS ?aL ?_; (case aB => exact (by repeat (first | (with_reducible first | exact HB.out | apply below_alloc | apply pw_below_drewN | apply below_drew1) | exact HB.out))); (case aO => exact (Kd.own_of_R (by (with_reducible repeat (first | apply Kd.R_alloc | apply Kd.R_drewN | apply Kd.R_drew)); exact HO_3.out))); (case aS => exact (below_size (by repeat (first | (with_reducible first | exact HB.out | apply below_alloc | apply pw_below_drewN | apply below_drew1) | exact HB.out)))); (case aL => have := LMc10.out; omega); intro v162 w16 ho0 hb hg; have ho := Kd.R_of_own (h1 := fun _ => rfl) (ok := fun _ => True) ho0 (fun _ _ => trivial); clear ho0; have hat := True.intro; rw [← Ny161.out] at ho; change Kd.R (Kd.int .u8) 5 w16 w.heap.size (fun _ => True) v162 y161 at ho; have n0_ := Aside0.mk (Kd.R_over' (by (with_reducible repeat (first | apply Kd.R_alloc | apply Kd.R_drewN | apply Kd.R_drew)); exact HO_4.out) (Kd.R_typed (by (with_reducible repeat (first | apply Kd.R_alloc | apply Kd.R_drewN | apply Kd.R_drew)); exact HO_3.out)) (by decide) hg); have n1_ := Aside0.mk (Kd.R_over' (by (with_reducible repeat (first | apply Kd.R_alloc | apply Kd.R_drewN | apply Kd.R_drew)); exact HO159.out) (Kd.R_typed (by (with_reducible repeat (first | apply Kd.R_alloc | apply Kd.R_drewN | apply Kd.R_drew)); exact HO_3.out)) (by decide) hg); have n2_ := Aside0.mk (hb); have n3_ := Aside0.mk (ho); clear HO_4; clear HO159; clear HB; clear HO_3; have HO_4 := n0_; have HO159 := n1_; have HB := n2_; have HO163 := n3_; clear n0_ n1_ n2_ n3_; clear ho hb hg hat) | ((with_reducible refine gate_builtin (b := .append) (xs := #[.tmp 30, .tmp 31]) rfl ?_); at_builtin; refine Kd.R_append (Kd.int .u8) (w0 := w) w.heap.size rfl (.tmp 30) (.tmp 31) 22 5 (.int .u8 0) 1 rfl Try.underlying22 info5 rfl (by decide) (by omega) v162 y161 120 [.int .u8 120] (fun _ => True) (fun _ => False) rfl rfl ?aP (fun _ hk => hk.elim) ?aF ?aO ?aB ?aS ?aL ?_; (case aP => exact rfl); (case aB => exact (by repeat (first | (with_reducible first | exact HB.out | apply below_alloc | apply pw_below_drewN | apply below_drew1) | exact HB.out))); (case aF => exact (fun _ _ => trivial)); (case aO => exact (by (with_reducible repeat (first | apply Kd.R_alloc | apply Kd.R_drewN | apply Kd.R_drew)); exact HO163.out)); (case aS => exact (below_size (by repeat (first | (with_reducible first | exact HB.out | apply below_alloc | apply pw_below_drewN | apply below_drew1) | exact HB.out)))); (case aL => have := LMc11.out; omega); intro v165 w17 ho hb hg hat; rw [← Ny164.out] at ho; have n0_ := Aside0.mk (Kd.R_over' (by (with_reducible repeat (first | apply Kd.R_alloc | apply Kd.R_drewN | apply Kd.R_drew)); exact HO_4.out) (Kd.R_typed (by (with_reducible repeat (first | apply Kd.R_alloc | apply Kd.R_drewN | apply Kd.R_drew)); exact HO163.out)) (by decide) hg); have n1_ := Aside0.mk (Kd.R_over' (by (with_reducible repeat (first | apply Kd.R_alloc | apply Kd.R_drewN | apply Kd.R_drew)); exact HO159.out) (Kd.R_typed (by (with_reducible repeat (first | apply Kd.R_alloc | apply Kd.R_drewN | apply Kd.R_drew)); exact HO163.out)) (by decide) hg); have n2_ := Aside0.mk (hb); have n3_ := Aside0.mk (ho); clear HO_4; clear HO159; clear HB; clear HO163; have HO_4 := n0_; have HO159 := n1_; have HB := n2_; have HO166 := n3_; clear n0_ n1_ n2_ n3_; clear ho hb hg hat) | ((with_reducible refine gate_dst (N := 34) rfl ?_); refine Kd.R_lit (Kd.int .i32) _ 21 ?hg (N := 34) ?hd (xs := ([10, 120] : List Int)) (inner := [.int .i32 10, .int .i32 120]) (ok := fun _ => True) (okp := fun _ => True) ?hr ?hp (fun _ hk => hk) trivial (Below.refl _ _) (Nat.le_refl _) (by simp) ?_; (case hd => rfl); (case hg => rfl); (case hr => first | (go_simp; done) | (go_simp; rfl)); (case hp => exact (Reps.one (show Kd.M (Kd.int .i32) _ _ _ 10 [.int .i32 10] from rfl) (Reps.one (show Kd.M (Kd.int .i32) _ _ _ 120 [.int .i32 120] from rfl) (Reps.none _ _)))); intro v168 w18 ho19 hb hg_ hnew_; clear hg_ hnew_; (first | rw [← Ny167.out] at ho19 | (simp only [Int.reduceToNat] at ho19; rw [← Ny167.out] at ho19)); have n0_ := Aside0.mk (Kd.R_elder' (by (with_reducible repeat (first | apply Kd.R_alloc | apply Kd.R_drewN | apply Kd.R_drew)); exact HO_4.out) (Kd.R_base ho19) hb); have n1_ := Aside0.mk (Kd.R_below (by (with_reducible repeat (first | apply Kd.R_alloc | apply Kd.R_drewN | apply Kd.R_drew)); exact HO159.out) hb); have n2_ := Aside0.mk (Kd.R_below (by (with_reducible repeat (first | apply Kd.R_alloc | apply Kd.R_drewN | apply Kd.R_drew)); exact HO166.out) hb); have n3_ := Aside0.mk (Kd.R_lower (Kd.R_new' ho19 (Kd.R_lt (by (with_reducible repeat (first | apply Kd.R_alloc | apply Kd.R_drewN | apply Kd.R_drew)); exact HO_4.out))) (below_size (by repeat (first | (with_reducible first | exact HB.out | apply below_alloc | apply pw_below_drewN | apply below_drew1) | exact HB.out)))); have n4_ := Aside0.mk (below_step (by repeat (first | (with_reducible first | exact HB.out | apply below_alloc | apply pw_below_drewN | apply below_drew1) | exact HB.out)) hb); clear HO_4; clear HO159; clear HO166; clear HB; have HO_4 := n0_; have HO159 := n1_; have HO166 := n2_; have HO169 := n3_; have HB := n4_; clear n0_ n1_ n2_ n3_ n4_; clear hb ho19; obtain ⟨Ao21, co21, eo21⟩ := Kd.R_slice HO169.out; subst eo21) | ((with_reducible refine gate_builtin (b := .append) (xs := #[.tmp 33, .tmp 34]) rfl ?_); at_builtin; refine Kd.R_append_rows (Kd.int .i32) (w0 := w) w.heap.size rfl (.tmp 33) (.tmp 34) 27 21 (.int .i32 0) 4 rfl Try.underlying27 info21 rfl (by decide) (by omega) u4 x4_1 y167 _ _ _ (fun k_ => some k_ ≠ (.slice Ao21 y167.length co21 : Value).ownBlock) (fun _ => False) rfl rfl ?aO ?aR (fun _ _ h => h) (fun _ h => h.elim) ?aF ?aB ?aS ?aL ?_; (case aR => repeat (first | exact (Kd.R_reads' HO169.out).2.2 | (with_reducible refine Kd.C_alloc ?_ _) | (with_reducible refine Kd.C_drewN ?_ _) | (with_reducible refine Kd.C_drew ?_))); (case aB => exact (by repeat (first | (with_reducible first | exact HB.out | apply below_alloc | apply pw_below_drewN | apply below_drew1) | exact HB.out))); (case aF => exact (fun k_ hk => Kd.fresh' (Kd.R_lt (by (with_reducible repeat (first | apply Kd.R_alloc | apply Kd.R_drewN | apply Kd.R_drew)); exact HO169.out)) k_ hk)); (case aO => exact (by (with_reducible repeat (first | apply Kd.R_alloc | apply Kd.R_drewN | apply Kd.R_drew)); exact Kd.R_mono HO_4.out (fun _ hk => by first | exact hk.2 | simp [hk]))); (case aS => exact (below_size (by repeat (first | (with_reducible first | exact HB.out | apply below_alloc | apply pw_below_drewN | apply below_drew1) | exact HB.out)))); (case aL => have := LMc12.out; omega); intro v171 w20 ho hb hg hat; rw [← Ny170.out] at ho; have n0_ := Aside0.mk (Kd.R_over' (by (with_reducible repeat (first | apply Kd.R_alloc | apply Kd.R_drewN | apply Kd.R_drew)); exact HO159.out) (Kd.R_typed (by (with_reducible repeat (first | apply Kd.R_alloc | apply Kd.R_drewN | apply Kd.R_drew)); exact HO_4.out)) (by decide) hg); have n1_ := Aside0.mk (Kd.R_over' (by (with_reducible repeat (first | apply Kd.R_alloc | apply Kd.R_drewN | apply Kd.R_drew)); exact HO166.out) (Kd.R_typed (by (with_reducible repeat (first | apply Kd.R_alloc | apply Kd.R_drewN | apply Kd.R_drew)); exact HO_4.out)) (by decide) hg); have n2_ := Aside0.mk (Kd.R_after (ok := (fun _ => True)) (by (with_reducible repeat (first | apply Kd.R_alloc | apply Kd.R_drewN | apply Kd.R_drew)); exact HO169.out) hg hat); have n3_ := Aside0.mk (hb); have n4_ := Aside0.mk (ho); clear HO159; clear HO166; clear HO169; clear HB; clear HO_4; have HO159 := n0_; have HO166 := n1_; have HO169 := n2_; have HB := n3_; have HO172 := n4_; clear n0_ n1_ n2_ n3_ n4_; clear ho hb hg hat))
                      go_roundg k1
                      case measure => have := HK1.out; omega
                      case rel => exact ⟨(y164), (y170), (wrap64 (x5_1 + 1)), (by first | rfl | (simp; done) | (simp [*]; done)), H', ⟨by have := HK1.out; omega⟩, ⟨by (with_reducible repeat (first | apply Kd.R_alloc | apply Kd.R_drewN | apply Kd.R_drew)); exact HO166.out⟩, ⟨by (with_reducible repeat (first | apply Kd.R_alloc | apply Kd.R_drewN | apply Kd.R_drew)); exact Kd.R_mono HO172.out (fun _ hk => by first | exact trivial | simp [hk])⟩, ⟨by repeat (first | (with_reducible first | exact HB.out | apply below_alloc | apply pw_below_drewN | apply below_drew1) | exact HB.out)⟩⟩
                    · rw [if_neg c12] at H
                      exact absurd H (by simp)
                  · rw [if_neg c11] at H
                    exact absurd H (by simp)
                · rw [if_neg c10] at H
                  exact absurd H (by simp)
              · rw [if_neg c9] at H
                exact absurd H (by simp)
            · rw [if_neg c8] at H
              exact absurd H (by simp)
          · rw [if_neg c6] at H
            exact absurd H (by simp)
        · rw [if_neg c5] at H
          have c5b0 : decide (x5_1 < (l0.length : Int)) = false := decide_eq_false c5
          clear c5
          replace H := Option.bind_eq_some_iff.mp H
          obtain ⟨t173, A220, H⟩ := H
          replace H : ((fleuronlaw1_same.f k1 t173 x4_1).bind fun t176 => (if t176 = true then ((fleuronlaw1_awake.f k1).bind fun t177 => (some t177)) else (some false))) = some r := H
          have A22 := Aside0.mk A220
          clear A220
          replace H := Option.bind_eq_some_iff.mp H
          obtain ⟨t176, A230, H⟩ := H
          replace H : (if t176 = true then ((fleuronlaw1_awake.f k1).bind fun t177 => (some t177)) else (some false)) = some r := H
          have A23 := Aside0.mk A230
          clear A230
          by_cases c24 : t176 = true
          · subst c24
            have H1 : ((fleuronlaw1_awake.f k1).bind fun t177 => (some t177)) = some r := by rw [if_pos rfl] at H; exact H
            clear H
            have H := H1
            clear H1
            replace H := Option.bind_eq_some_iff.mp H
            obtain ⟨t177, A250, H⟩ := H
            replace H : (some t177) = some r := H
            have A25 := Aside0.mk A250
            clear A250
            obtain rfl := Option.some.inj H
            obtain ⟨Ao26, co26, eo26⟩ := Kd.R_slice HO_3.out
            subst eo26
            go_wp2_with (first | ((with_reducible refine gate_callee (f := 12) rfl ?_); refine goesL_ (some 37) rfl rfl Try.func12 (by kernel_rfl) rfl #[.slice Ao26 x3_1.length co26] rfl (by (try simp only [List.map_toArray, List.map_cons, List.map_nil]); first | done | rfl | (simp only [List.length_drop, List.length_take]; rfl)) ?_; (with_reducible refine (points_Read.calls _ _ x3_1 t173 _ ?side1 ?side2 A22.out).mono ?_); (case side1 => repeat (first | exact (Kd.R_reads' HO_3.out).2.2 | (with_reducible refine Kd.C_alloc ?_ _) | (with_reducible refine Kd.C_drewN ?_ _) | (with_reducible refine Kd.C_drew ?_))); (case side2 => exact (Kd.R_reads' HO_3.out).2.1); rintro e w27 ⟨v174, rfl, ho0, hb⟩; refine ⟨_, rfl, ?_⟩; have n0_ := Aside0.mk (Kd.R_below (by (with_reducible repeat (first | apply Kd.R_alloc | apply Kd.R_drewN | apply Kd.R_drew)); exact HO_3.out) hb); have n1_ := Aside0.mk (Kd.R_elder' (by (with_reducible repeat (first | apply Kd.R_alloc | apply Kd.R_drewN | apply Kd.R_drew)); exact HO_4.out) (Kd.R_base ho0) hb); have n2_ := Aside0.mk (Kd.R_lower (Kd.R_new' ho0 (Kd.R_lt (by (with_reducible repeat (first | apply Kd.R_alloc | apply Kd.R_drewN | apply Kd.R_drew)); exact HO_4.out))) (below_size (by repeat (first | (with_reducible first | exact HB.out | apply below_alloc | apply pw_below_drewN | apply below_drew1) | exact HB.out)))); have n3_ := Aside0.mk (below_step (by repeat (first | (with_reducible first | exact HB.out | apply below_alloc | apply pw_below_drewN | apply below_drew1) | exact HB.out)) hb); clear HO_3; clear HO_4; clear HB; have HO_3 := n0_; have HO_4 := n1_; have HO175 := n2_; have HB := n3_; clear n0_ n1_ n2_ n3_; (try clear hb); (try clear hb2); (try clear hk); (try clear hi); (try clear ho0); obtain ⟨Ao28, co28, eo28⟩ := Kd.R_slice HO175.out; subst eo28; obtain ⟨Ao29, co29, eo29⟩ := Kd.R_slice HO_4.out; subst eo29) | ((with_reducible refine gate_callee (f := 11) rfl ?_); refine goesL_ (some 39) rfl rfl Try.func11 (by kernel_rfl) rfl #[.slice Ao28 t173.length co28, .slice Ao29 x4_1.length co29] rfl (by (try simp only [List.map_toArray, List.map_cons, List.map_nil]); first | done | rfl | (simp only [List.length_drop, List.length_take]; rfl)) ?_; (with_reducible refine (fleuronlaw1_same.calls k1 _ _ t173 _ _ x4_1 true _ ?side1 ?side2 ?side3 ?side4 A23.out).mono ?_); (case side1 => repeat (first | exact (Kd.R_reads' HO175.out).2.2 | (with_reducible refine Kd.C_alloc ?_ _) | (with_reducible refine Kd.C_drewN ?_ _) | (with_reducible refine Kd.C_drew ?_))); (case side2 => exact (Kd.R_reads' HO175.out).2.1); (case side3 => repeat (first | exact (Kd.R_reads' HO_4.out).2.2 | (with_reducible refine Kd.C_alloc ?_ _) | (with_reducible refine Kd.C_drewN ?_ _) | (with_reducible refine Kd.C_drew ?_))); (case side4 => exact (Kd.R_reads' HO_4.out).2.1); rintro e w' ⟨rfl, ⟨nd, rfl⟩⟩; refine ⟨_, rfl, ?_⟩) | (go_at_call 8; (with_reducible refine (fleuronlaw1_awake.calls k1  t177 _ A25.out ht_.out).mono ?_); rintro e w30 ⟨rfl, hb⟩; have n0_ := Aside0.mk (Kd.R_below (by (with_reducible repeat (first | apply Kd.R_alloc | apply Kd.R_drewN | apply Kd.R_drew)); exact HO_3.out) hb); have n1_ := Aside0.mk (Kd.R_below (by (with_reducible repeat (first | apply Kd.R_alloc | apply Kd.R_drewN | apply Kd.R_drew)); exact HO_4.out) hb); have n2_ := Aside0.mk (Kd.R_below (by (with_reducible repeat (first | apply Kd.R_alloc | apply Kd.R_drewN | apply Kd.R_drew)); exact HO175.out) hb); have n3_ := Aside0.mk (below_step (by repeat (first | (with_reducible first | exact HB.out | apply below_alloc | apply pw_below_drewN | apply below_drew1) | exact HB.out)) hb); clear HO_3; clear HO_4; clear HO175; clear HB; have HO_3 := n0_; have HO_4 := n1_; have HO175 := n2_; have HB := n3_; clear n0_ n1_ n2_ n3_; (try clear hb); (try clear hb2); (try clear hk); (try clear hi)))
            go_ret
            exact ⟨by first | rfl | (simp [errW_none, errW_some] <;> rfl) | (simp [*, errW_none, errW_some] <;> rfl), by repeat (first | (with_reducible first | exact HB.out | apply below_alloc | apply pw_below_drewN | apply below_drew1) | exact HB.out)⟩
          · replace c24 := Bool.eq_false_iff.mpr c24
            subst c24
            have H1 : (some false) = some r := by rw [if_neg (show ¬ (false = true) by decide)] at H; exact H
            clear H
            have H := H1
            clear H1
            exact absurd ((Option.some.inj H).trans ht_.out) (by decide)

/-- THE ONE PURE STATEMENT of fleuronlaw1_PointsLines: yours. -/
def fleuronlaw1_PointsLines.Pure : Prop := ∀ (l0 : List Int), l0.length ≤ maxLen → l0.length * 8 ≤ 140737488351232 → (∀ x ∈ l0, (Lit.int .i64 x).wf = true) → ∃ k, fleuronlaw1_PointsLines.f k l0 = some true
theorem fleuronlaw1_PointsLines.walk (P : fleuronlaw1_PointsLines.Pure) (a0 : Option Addr) (len0 cap0 : Nat) (z0 : List Int) (w : World) (w0 : (a0 = none ∧ len0 = 0 ∧ cap0 = 0 ∧ z0 = []) ∨ ∃ x, a0 = some x ∧ len0 ≤ cap0 ∧ cap0 ≤ maxLen ∧ z0.length = cap0 ∧ (∀ i, i < z0.length → w.cell? (x.add i) = some (.int .i64 (z0.getD i 0))) ∧ ∀ n ∈ z0, (Lit.int .i64 n).wf = true) (y0 : len0 * 8 ≤ 140737488351232) :
    Calls Try.prog 5 #[.slice a0 len0 cap0] w fun e w' => e = .returned (.bool true) ∧ Below w.heap.size w w' := by
  obtain ⟨l0, rfl, hr0, hm0, hw0, hc0⟩ := ReadsInt.ofRowC w0
  obtain ⟨k, h⟩ := P l0 hm0 y0 hw0
  refine (fleuronlaw1_PointsLines.calls k _ _ l0 true w (Kd.C_of_reads (d := (0 : Int)) (h1 := fun _ => rfl) hr0) hc0 h rfl).mono ?_
  rintro e w' ⟨rfl, hd⟩
  exact ⟨rfl, hd⟩

end Go.Proofs.Ytohnoohnppeooaa.Print
