/- Written by a program of this session out of the translation, with contracts given by hand beside. -/
import Derived.Test.YtalegejfellbdaaPrint0
namespace Go.Proofs.Ytalegejfellbdaa.Print
open Go.RowKit Go.Proofs.YtalegejfellbdaaW.PrintWords Go.Proofs.YtalegejfellbdaaW.PrintLast Go.Proofs.YtalegejfellbdaaW.PrintMore
attribute [local go_sem] max2_int min2_int max_two min_two max_three min_three max_four min_four   -- for this text's walks alone
set_option linter.unusedVariables false
set_option linter.unusedSimpArgs false

/-! ### system_falling: function 37 -/
def system_falling.l0 : Nat → List Int → List Int → Int → Int → Option (Bool)
  | 0, _, _, _, _ => none
  | k + 1, x0, x5, x6, x7 => if x7 < x6 then (if 0 ≤ x7 then (if x7 < (x5.length : Int) then (if (rd x5 x7) < 0 then (some false) else (if x7 > 0 then (if 0 ≤ (wrap64 (x7 - 1)) then (if (wrap64 (x7 - 1)) < (x0.length : Int) then (if (rd x5 x7) ≥ (rd x0 (wrap64 (x7 - 1))) then (some false) else (system_falling.l0 k x0 x5 x6 (wrap64 (x7 + 1)))) else (none)) else (none)) else (system_falling.l0 k x0 x5 x6 (wrap64 (x7 + 1))))) else (none)) else (none)) else (some true)
def system_falling.f (k : Nat) (l0 : List Int) : Option (Bool) := system_falling.l0 k l0 l0 (l0.length : Int) 0
theorem system_falling.mono_l : ∀ k, (∀ y0 y1 y2 y3, LeO (system_falling.l0 k y0 y1 y2 y3) (system_falling.l0 (k + 1) y0 y1 y2 y3))
  | 0 => fun _ _ _ _ r h => by simp [system_falling.l0] at h
  | k + 1 => by
    have ih0 := system_falling.mono_l k
    · intro y0 y1 y2 y3
      unfold system_falling.l0
      repeat' first
      | (with_reducible exact ih0 _ _ _ _)
      | (with_reducible exact LeO.refl _)
      | (with_reducible exact LeO.none _)
      | (with_reducible refine LeO.ite ?_ ?_)
      | (with_reducible refine LeO.bind ?_ (fun _ => ?_))
      | exact ih0 _ _ _ _
      | exact LeO.none _
      | refine LeO.ite ?_ ?_
      | refine LeO.bind ?_ (fun _ => ?_)
theorem system_falling.mono : ∀ a0 k, LeO (system_falling.f k a0) (system_falling.f (k + 1) a0) := by
  intro a0 k
  have ih0 := system_falling.mono_l k
  unfold system_falling.f
  repeat' first
      | (with_reducible exact ih0 _ _ _ _)
      | (with_reducible exact LeO.refl _)
      | (with_reducible exact LeO.none _)
      | (with_reducible refine LeO.ite ?_ ?_)
      | (with_reducible refine LeO.bind ?_ (fun _ => ?_))
      | exact ih0 _ _ _ _
      | exact LeO.none _
      | refine LeO.ite ?_ ?_
      | refine LeO.bind ?_ (fun _ => ?_)
set_option maxHeartbeats 8000000 in
set_option maxRecDepth 100000 in
theorem system_falling.calls (k : Nat) (A0 : Option Addr) (c0 : Nat) (l0 : List Int) (r : Bool) (w : World) (hr0 : Kd.C (Kd.int .i64) w A0 l0.length l0) (hc0 : l0.length ≤ c0) (h : system_falling.f k l0 = some r) :
    Calls Try.prog 37 #[.slice A0 l0.length c0] w fun e w' => e = .returned (.bool r) ∧ Drawn0 w w' := by
  have HR0 := Aside0.mk hr0
  have HC0 := Aside0.mk hc0
  clear hr0 hc0
  have H : (system_falling.l0 k l0 l0 (l0.length : Int) 0) = some r := h
  clear h
  have H' := Aside0.mk H
  clear H
  go_enter Try.func37, Try.ntmps37
  go_wp2
  go_loopg [7] k (fun kq v7 w' => ∃ (x7_1 : Int), v7 = .int .i64 x7_1 ∧ Aside0 (system_falling.l0 kq l0 l0 (l0.length : Int) x7_1 = some r) ∧ Aside0 (kq ≤ k) ∧ Drawn0 w w')
  case atStart => exact ⟨(0), (by first | rfl | (simp; done) | (simp [*]; done)), H', ⟨Nat.le_refl _⟩, by repeat (first | exact Drawn0.refl _ | apply Drawn0.step)⟩
  case round =>
    clear H'
    obtain ⟨x7_1, rfl, HA, HK1, ⟨m1, rfl⟩⟩ := hrel
    cases gk with
    | zero => exact absurd HA.out (by simp [system_falling.l0])
    | succ k1 =>
      have H := HA.out
      clear HA
      simp only [system_falling.l0] at H
      by_cases c2 : x7_1 < (l0.length : Int)
      · rw [if_pos c2] at H
        have c2b0 : decide (x7_1 < (l0.length : Int)) = true := decide_eq_true c2
        clear c2
        by_cases c3 : 0 ≤ x7_1
        · rw [if_pos c3] at H
          have c3b0 : decide (0 ≤ x7_1) = true := decide_eq_true c3
          clear c3
          by_cases c4 : x7_1 < (l0.length : Int)
          · rw [if_pos c4] at H
            have c4b0 : decide (x7_1 < (l0.length : Int)) = true := decide_eq_true c4
            clear c4
            by_cases c5 : (rd l0 x7_1) < 0
            · rw [if_pos c5] at H
              have c5b0 : decide ((rd l0 x7_1) < 0) = true := decide_eq_true c5
              clear c5
              obtain rfl := Option.some.inj H
              have p101 : 0 ≤ (x7_1 : Int) := of_decide_eq_true (by first | (with_reducible assumption) | assumption)
              have q101 : x7_1 < (l0.length : Int) := of_decide_eq_true (by first | (with_reducible assumption) | assumption)
              obtain ⟨ad101, e101, hx101_0⟩ := Kd.at_int HR0.out x7_1 p101 q101
              cases e101
              replace p101 := eq_true p101
              replace q101 := eq_true q101
              go_wp2
              go_ret
              exact ⟨by first | rfl | (simp; done) | (simp [*]; done), by repeat (first | exact Drawn0.refl _ | apply Drawn0.step)⟩
            · rw [if_neg c5] at H
              have c5b0 : decide ((rd l0 x7_1) < 0) = false := decide_eq_false c5
              clear c5
              by_cases c6 : x7_1 > 0
              · rw [if_pos c6] at H
                have c6b0 : decide (0 < x7_1) = true := decide_eq_true c6
                clear c6
                obtain ⟨ji7, hji7⟩ : ∃ j_ : Int, (wrap64 (x7_1 - 1)) = j_ := ⟨_, rfl⟩
                replace H : (if 0 ≤ (ji7) then (if (ji7) < (l0.length : Int) then (if (rd l0 x7_1) ≥ (rd l0 (ji7)) then (some false) else (system_falling.l0 k1 l0 l0 (l0.length : Int) (wrap64 (x7_1 + 1)))) else (none)) else (none)) = some r := by first | (rw [hji7] at H; exact H) | (simp only [hji7] at H ⊢; exact H)
                have hji7w : (IntKind.i64.wrap (x7_1 - 1)) = ji7 := (i64_w _).trans hji7
                by_cases c8 : 0 ≤ (ji7)
                · rw [if_pos c8] at H
                  have c8b0 : decide (0 ≤ (ji7)) = true := decide_eq_true c8
                  clear c8
                  by_cases c9 : (ji7) < (l0.length : Int)
                  · rw [if_pos c9] at H
                    have c9b0 : decide ((ji7) < (l0.length : Int)) = true := decide_eq_true c9
                    clear c9
                    by_cases c10 : (rd l0 x7_1) ≥ (rd l0 (ji7))
                    · rw [if_pos c10] at H
                      have c10b0 : decide ((rd l0 (ji7)) ≤ (rd l0 x7_1)) = true := decide_eq_true c10
                      clear c10
                      obtain rfl := Option.some.inj H
                      have p101 : 0 ≤ (x7_1 : Int) := of_decide_eq_true (by first | (with_reducible assumption) | assumption)
                      have q101 : x7_1 < (l0.length : Int) := of_decide_eq_true (by first | (with_reducible assumption) | assumption)
                      obtain ⟨ad101, e101, hx101_0⟩ := Kd.at_int HR0.out x7_1 p101 q101
                      cases e101
                      replace p101 := eq_true p101
                      replace q101 := eq_true q101
                      have p102 : 0 ≤ ((ji7) : Int) := of_decide_eq_true (by first | (with_reducible assumption) | assumption)
                      have q102 : (ji7) < (l0.length : Int) := of_decide_eq_true (by first | (with_reducible assumption) | assumption)
                      obtain ⟨ad102, e102, hx102_0⟩ := Kd.at_int HR0.out (ji7) p102 q102
                      obtain rfl : ad101 = ad102 := (by injection e102)
                      replace p102 := eq_true p102
                      replace q102 := eq_true q102
                      go_wp2
                      go_ret
                      exact ⟨by first | rfl | (simp; done) | (simp only [← hji7] <;> (first | rfl | simp)) | (simp [*]; done), by repeat (first | exact Drawn0.refl _ | apply Drawn0.step)⟩
                    · rw [if_neg c10] at H
                      have c10b0 : decide ((rd l0 (ji7)) ≤ (rd l0 x7_1)) = false := decide_eq_false c10
                      clear c10
                      have H' := Aside0.mk H
                      clear H
                      have p101 : 0 ≤ (x7_1 : Int) := of_decide_eq_true (by first | (with_reducible assumption) | assumption)
                      have q101 : x7_1 < (l0.length : Int) := of_decide_eq_true (by first | (with_reducible assumption) | assumption)
                      obtain ⟨ad101, e101, hx101_0⟩ := Kd.at_int HR0.out x7_1 p101 q101
                      cases e101
                      replace p101 := eq_true p101
                      replace q101 := eq_true q101
                      have p102 : 0 ≤ ((ji7) : Int) := of_decide_eq_true (by first | (with_reducible assumption) | assumption)
                      have q102 : (ji7) < (l0.length : Int) := of_decide_eq_true (by first | (with_reducible assumption) | assumption)
                      obtain ⟨ad102, e102, hx102_0⟩ := Kd.at_int HR0.out (ji7) p102 q102
                      obtain rfl : ad101 = ad102 := (by injection e102)
                      replace p102 := eq_true p102
                      replace q102 := eq_true q102
                      go_wp2
                      go_roundg k1
                      case measure => have := HK1.out; omega
                      case rel => exact ⟨(wrap64 (x7_1 + 1)), (by first | rfl | (simp; done) | (simp [*]; done)), H', ⟨by have := HK1.out; omega⟩, by repeat (first | exact Drawn0.refl _ | apply Drawn0.step)⟩
                  · rw [if_neg c9] at H
                    exact absurd H (by simp)
                · rw [if_neg c8] at H
                  exact absurd H (by simp)
              · rw [if_neg c6] at H
                have c6b0 : decide (0 < x7_1) = false := decide_eq_false c6
                clear c6
                have H' := Aside0.mk H
                clear H
                have p101 : 0 ≤ (x7_1 : Int) := of_decide_eq_true (by first | (with_reducible assumption) | assumption)
                have q101 : x7_1 < (l0.length : Int) := of_decide_eq_true (by first | (with_reducible assumption) | assumption)
                obtain ⟨ad101, e101, hx101_0⟩ := Kd.at_int HR0.out x7_1 p101 q101
                cases e101
                replace p101 := eq_true p101
                replace q101 := eq_true q101
                go_wp2
                go_roundg k1
                case measure => have := HK1.out; omega
                case rel => exact ⟨(wrap64 (x7_1 + 1)), (by first | rfl | (simp; done) | (simp [*]; done)), H', ⟨by have := HK1.out; omega⟩, by repeat (first | exact Drawn0.refl _ | apply Drawn0.step)⟩
          · rw [if_neg c4] at H
            exact absurd H (by simp)
        · rw [if_neg c3] at H
          exact absurd H (by simp)
      · rw [if_neg c2] at H
        have c2b0 : decide (x7_1 < (l0.length : Int)) = false := decide_eq_false c2
        clear c2
        obtain rfl := Option.some.inj H
        go_wp2
        go_ret
        exact ⟨by first | rfl | (simp; done) | (simp [*]; done), by repeat (first | exact Drawn0.refl _ | apply Drawn0.step)⟩

/-! ### system_kind: function 22 -/
mutual
def system_kind.j0 : Nat → ByteArray → Bool → ByteArray → ByteArray → Int → List ByteArray → List Int → ByteArray → ByteArray → ByteArray → ByteArray → Bool → List (S41) → Int → ByteArray → ByteArray → ByteArray → Int → Option (Bool)
  | 0, _, _, _, _, _, _, _, _, _, _, _, _, _, _, _, _, _, _ => none
  | k + 1, x4, x5, x104000, x104001, x104002, x104003, x104004, x104005, x104006, x104007, x104008, x104009, x104010, x104011, x104012, x104013, x104014, x104015 => if x5 = true then (some (decide ((x104003.length : Int) ≥ 1))) else (if x4.toList = ([97, 108, 112, 104, 97, 98, 101, 116, 105, 99] : List UInt8) then (system_kind.j1 k x4 (x4.toList == ([97, 108, 112, 104, 97, 98, 101, 116, 105, 99] : List UInt8)) x104000 x104001 x104002 x104003 x104004 x104005 x104006 x104007 x104008 x104009 x104010 x104011 x104012 x104013 x104014 x104015) else (system_kind.j1 k x4 (x4.toList == ([110, 117, 109, 101, 114, 105, 99] : List UInt8)) x104000 x104001 x104002 x104003 x104004 x104005 x104006 x104007 x104008 x104009 x104010 x104011 x104012 x104013 x104014 x104015))
def system_kind.j1 : Nat → ByteArray → Bool → ByteArray → ByteArray → Int → List ByteArray → List Int → ByteArray → ByteArray → ByteArray → ByteArray → Bool → List (S41) → Int → ByteArray → ByteArray → ByteArray → Int → Option (Bool)
  | 0, _, _, _, _, _, _, _, _, _, _, _, _, _, _, _, _, _, _ => none
  | k + 1, x4, x13, x104000, x104001, x104002, x104003, x104004, x104005, x104006, x104007, x104008, x104009, x104010, x104011, x104012, x104013, x104014, x104015 => if x13 = true then (some (decide ((x104003.length : Int) ≥ 2))) else (if x4.toList = ([97, 100, 100, 105, 116, 105, 118, 101] : List UInt8) then (if (x104003.length : Int) ≥ 1 then (if (x104003.length : Int) = (x104004.length : Int) then ((system_falling.f k x104004).bind fun t104 => (some t104)) else (some false)) else (some false)) else (if x4.toList = ([101, 120, 116, 101, 110, 100, 115] : List UInt8) then (some ((wrap64 ((x104003.length : Int) + (x104004.length : Int))) == 0)) else (some false)))
end
def system_kind.f (k : Nat) (a0_0 : ByteArray) (a0_1 : ByteArray) (a0_2 : Int) (l0_3 : List ByteArray) (l0_4 : List Int) (a0_5 : ByteArray) (a0_6 : ByteArray) (a0_7 : ByteArray) (a0_8 : ByteArray) (a0_9 : Bool) (l0_10 : List (S41)) (a0_11 : Int) (a0_12 : ByteArray) (a0_13 : ByteArray) (a0_14 : ByteArray) (a0_15 : Int) : Option (Bool) := if a0_1.toList = ([99, 121, 99, 108, 105, 99] : List UInt8) then (system_kind.j0 k a0_1 (a0_1.toList == ([99, 121, 99, 108, 105, 99] : List UInt8)) a0_0 a0_1 a0_2 l0_3 l0_4 a0_5 a0_6 a0_7 a0_8 a0_9 l0_10 a0_11 a0_12 a0_13 a0_14 a0_15) else (if a0_1.toList = ([115, 121, 109, 98, 111, 108, 105, 99] : List UInt8) then (system_kind.j0 k a0_1 (a0_1.toList == ([115, 121, 109, 98, 111, 108, 105, 99] : List UInt8)) a0_0 a0_1 a0_2 l0_3 l0_4 a0_5 a0_6 a0_7 a0_8 a0_9 l0_10 a0_11 a0_12 a0_13 a0_14 a0_15) else (system_kind.j0 k a0_1 (a0_1.toList == ([102, 105, 120, 101, 100] : List UInt8)) a0_0 a0_1 a0_2 l0_3 l0_4 a0_5 a0_6 a0_7 a0_8 a0_9 l0_10 a0_11 a0_12 a0_13 a0_14 a0_15))
theorem system_kind.mono_l : ∀ k, (∀ y0 y1 y2 y3 y4 y5 y6 y7 y8 y9 y10 y11 y12 y13 y14 y15 y16 y17, LeO (system_kind.j0 k y0 y1 y2 y3 y4 y5 y6 y7 y8 y9 y10 y11 y12 y13 y14 y15 y16 y17) (system_kind.j0 (k + 1) y0 y1 y2 y3 y4 y5 y6 y7 y8 y9 y10 y11 y12 y13 y14 y15 y16 y17)) ∧ (∀ y0 y1 y2 y3 y4 y5 y6 y7 y8 y9 y10 y11 y12 y13 y14 y15 y16 y17, LeO (system_kind.j1 k y0 y1 y2 y3 y4 y5 y6 y7 y8 y9 y10 y11 y12 y13 y14 y15 y16 y17) (system_kind.j1 (k + 1) y0 y1 y2 y3 y4 y5 y6 y7 y8 y9 y10 y11 y12 y13 y14 y15 y16 y17))
  | 0 => ⟨fun _ _ _ _ _ _ _ _ _ _ _ _ _ _ _ _ _ _ r h => by simp [system_kind.j0] at h, fun _ _ _ _ _ _ _ _ _ _ _ _ _ _ _ _ _ _ r h => by simp [system_kind.j1] at h⟩
  | k + 1 => by
    obtain ⟨ih0, ih1⟩ := system_kind.mono_l k
    refine ⟨?_, ?_⟩
    · intro y0 y1 y2 y3 y4 y5 y6 y7 y8 y9 y10 y11 y12 y13 y14 y15 y16 y17
      unfold system_kind.j0
      repeat' first
      | (with_reducible exact ih0 _ _ _ _ _ _ _ _ _ _ _ _ _ _ _ _ _ _)
      | (with_reducible exact ih1 _ _ _ _ _ _ _ _ _ _ _ _ _ _ _ _ _ _)
      | (with_reducible exact system_falling.mono _ _)
      | (with_reducible exact LeO.refl _)
      | (with_reducible exact LeO.none _)
      | (with_reducible refine LeO.ite ?_ ?_)
      | (with_reducible refine LeO.bind ?_ (fun _ => ?_))
      | exact ih0 _ _ _ _ _ _ _ _ _ _ _ _ _ _ _ _ _ _
      | exact ih1 _ _ _ _ _ _ _ _ _ _ _ _ _ _ _ _ _ _
      | exact system_falling.mono _ _
      | exact LeO.none _
      | refine LeO.ite ?_ ?_
      | refine LeO.bind ?_ (fun _ => ?_)
    · intro y0 y1 y2 y3 y4 y5 y6 y7 y8 y9 y10 y11 y12 y13 y14 y15 y16 y17
      unfold system_kind.j1
      repeat' first
      | (with_reducible exact ih0 _ _ _ _ _ _ _ _ _ _ _ _ _ _ _ _ _ _)
      | (with_reducible exact ih1 _ _ _ _ _ _ _ _ _ _ _ _ _ _ _ _ _ _)
      | (with_reducible exact system_falling.mono _ _)
      | (with_reducible exact LeO.refl _)
      | (with_reducible exact LeO.none _)
      | (with_reducible refine LeO.ite ?_ ?_)
      | (with_reducible refine LeO.bind ?_ (fun _ => ?_))
      | exact ih0 _ _ _ _ _ _ _ _ _ _ _ _ _ _ _ _ _ _
      | exact ih1 _ _ _ _ _ _ _ _ _ _ _ _ _ _ _ _ _ _
      | exact system_falling.mono _ _
      | exact LeO.none _
      | refine LeO.ite ?_ ?_
      | refine LeO.bind ?_ (fun _ => ?_)
theorem system_kind.mono : ∀ a0 a1 a2 a3 a4 a5 a6 a7 a8 a9 a10 a11 a12 a13 a14 a15 k, LeO (system_kind.f k a0 a1 a2 a3 a4 a5 a6 a7 a8 a9 a10 a11 a12 a13 a14 a15) (system_kind.f (k + 1) a0 a1 a2 a3 a4 a5 a6 a7 a8 a9 a10 a11 a12 a13 a14 a15) := by
  intro a0 a1 a2 a3 a4 a5 a6 a7 a8 a9 a10 a11 a12 a13 a14 a15 k
  obtain ⟨ih0, ih1⟩ := system_kind.mono_l k
  unfold system_kind.f
  repeat' first
      | (with_reducible exact ih0 _ _ _ _ _ _ _ _ _ _ _ _ _ _ _ _ _ _)
      | (with_reducible exact ih1 _ _ _ _ _ _ _ _ _ _ _ _ _ _ _ _ _ _)
      | (with_reducible exact system_falling.mono _ _)
      | (with_reducible exact LeO.refl _)
      | (with_reducible exact LeO.none _)
      | (with_reducible refine LeO.ite ?_ ?_)
      | (with_reducible refine LeO.bind ?_ (fun _ => ?_))
      | exact ih0 _ _ _ _ _ _ _ _ _ _ _ _ _ _ _ _ _ _
      | exact ih1 _ _ _ _ _ _ _ _ _ _ _ _ _ _ _ _ _ _
      | exact system_falling.mono _ _
      | exact LeO.none _
      | refine LeO.ite ?_ ?_
      | refine LeO.bind ?_ (fun _ => ?_)
set_option maxHeartbeats 8000000 in
set_option maxRecDepth 100000 in
theorem system_kind.calls (k : Nat) (a0_0 : ByteArray) (a0_1 : ByteArray) (a0_2 : Int) (A0_3 : Option Addr) (c0_3 : Nat) (l0_3 : List ByteArray) (A0_4 : Option Addr) (c0_4 : Nat) (l0_4 : List Int) (a0_5 : ByteArray) (a0_6 : ByteArray) (a0_7 : ByteArray) (a0_8 : ByteArray) (a0_9 : Bool) (A0_10 : Option Addr) (c0_10 : Nat) (l0_10 : List (S41)) (a0_11 : Int) (a0_12 : ByteArray) (a0_13 : ByteArray) (a0_14 : ByteArray) (a0_15 : Int) (r : Bool) (w : World) (hr0_3 : Kd.C Kd.string w A0_3 l0_3.length l0_3) (hc0_3 : l0_3.length ≤ c0_3) (hr0_4 : Kd.C (Kd.int .i64) w A0_4 l0_4.length l0_4) (hc0_4 : l0_4.length ≤ c0_4) (hr0_10 : Kd.C k41 w A0_10 l0_10.length l0_10) (hc0_10 : l0_10.length ≤ c0_10) (h : system_kind.f k a0_0 a0_1 a0_2 l0_3 l0_4 a0_5 a0_6 a0_7 a0_8 a0_9 l0_10 a0_11 a0_12 a0_13 a0_14 a0_15 = some r) :
    Calls Try.prog 22 #[.agg #[.string a0_0, .string a0_1, .int .i64 a0_2, .slice A0_3 l0_3.length c0_3, .slice A0_4 l0_4.length c0_4, .string a0_5, .string a0_6, .string a0_7, .string a0_8, .bool a0_9, .slice A0_10 l0_10.length c0_10, .int .i64 a0_11, .string a0_12, .string a0_13, .string a0_14, .int .i64 a0_15]] w fun e w' => e = .returned (.bool r) ∧ Below w.heap.size w w' := by
  have hu27 := Try.underlying27
  have HR0_3 := Aside0.mk hr0_3
  have HC0_3 := Aside0.mk hc0_3
  clear hr0_3 hc0_3
  have HR0_4 := Aside0.mk hr0_4
  have HC0_4 := Aside0.mk hc0_4
  clear hr0_4 hc0_4
  have HR0_10 := Aside0.mk hr0_10
  have HC0_10 := Aside0.mk hc0_10
  clear hr0_10 hc0_10
  have HB := Aside0.mk (Below.refl w.heap.size w)
  have H : (if a0_1.toList = ([99, 121, 99, 108, 105, 99] : List UInt8) then (system_kind.j0 k a0_1 (a0_1.toList == ([99, 121, 99, 108, 105, 99] : List UInt8)) a0_0 a0_1 a0_2 l0_3 l0_4 a0_5 a0_6 a0_7 a0_8 a0_9 l0_10 a0_11 a0_12 a0_13 a0_14 a0_15) else (if a0_1.toList = ([115, 121, 109, 98, 111, 108, 105, 99] : List UInt8) then (system_kind.j0 k a0_1 (a0_1.toList == ([115, 121, 109, 98, 111, 108, 105, 99] : List UInt8)) a0_0 a0_1 a0_2 l0_3 l0_4 a0_5 a0_6 a0_7 a0_8 a0_9 l0_10 a0_11 a0_12 a0_13 a0_14 a0_15) else (system_kind.j0 k a0_1 (a0_1.toList == ([102, 105, 120, 101, 100] : List UInt8)) a0_0 a0_1 a0_2 l0_3 l0_4 a0_5 a0_6 a0_7 a0_8 a0_9 l0_10 a0_11 a0_12 a0_13 a0_14 a0_15))) = some r := h
  clear h
  have HC2 := Aside0.mk H
  clear H
  go_enter Try.func22, Try.ntmps22
  go_upto_if 5 with (first | ((with_reducible refine gate_dst (N := 1) rfl ?_); (try (refine gate_guard (by rfl) ?_; dsimp only)); refine box_event ?hg (N := 1) ?hd (cs := #[.string a0_0, .string a0_1, .int .i64 a0_2, .slice A0_3 l0_3.length c0_3, .slice A0_4 l0_4.length c0_4, .string a0_5, .string a0_6, .string a0_7, .string a0_8, .bool a0_9, .slice A0_10 l0_10.length c0_10, .int .i64 a0_11, .string a0_12, .string a0_13, .string a0_14, .int .i64 a0_15]) (t := 27) ?hr ?_; (case hd => rfl); (case hg => rfl); (case hr => first | (go_simp; done) | (go_simp; rfl)); intro gb103 hg w3 hbox hb; have n0_ := Aside0.mk (below_step (by repeat (first | (with_reducible first | exact HB.out | apply below_alloc | apply pw_below_drewN | apply below_drew1) | exact HB.out)) hb); have n1_ := Aside0.mk (hbox); have n2_ := Aside0.mk ((by rw [hg]; exact (below_size (by repeat (first | (with_reducible first | exact HB.out | apply below_alloc | apply pw_below_drewN | apply below_drew1) | exact HB.out))) : w.heap.size ≤ gb103)); have n3_ := Aside0.mk ((by rw [hg]; exact (below_size (by repeat (first | (with_reducible first | exact HB.out | apply below_alloc | apply pw_below_drewN | apply below_drew1) | exact HB.out))) : w.heap.size ≤ gb103)); clear HB; have HB := n0_; have BK103 := n1_; have GW103 := n2_; have GE103 := n3_; clear n0_ n1_ n2_ n3_; clear hb hbox hg; have hcz4_0 : w3.cell? ⟨gb103, 0, none⟩ = some (.string a0_0) := (blk_cell BK103.out 0).trans rfl; have hcz4_1 : w3.cell? ⟨gb103, 1, none⟩ = some (.string a0_1) := (blk_cell BK103.out 1).trans rfl; have hcz4_2 : w3.cell? ⟨gb103, 2, none⟩ = some (.int .i64 a0_2) := (blk_cell BK103.out 2).trans rfl; have hcz4_3 : w3.cell? ⟨gb103, 3, none⟩ = some (.slice A0_3 l0_3.length c0_3) := (blk_cell BK103.out 3).trans rfl; have hcz4_4 : w3.cell? ⟨gb103, 4, none⟩ = some (.slice A0_4 l0_4.length c0_4) := (blk_cell BK103.out 4).trans rfl; have hcz4_5 : w3.cell? ⟨gb103, 5, none⟩ = some (.string a0_5) := (blk_cell BK103.out 5).trans rfl; have hcz4_6 : w3.cell? ⟨gb103, 6, none⟩ = some (.string a0_6) := (blk_cell BK103.out 6).trans rfl; have hcz4_7 : w3.cell? ⟨gb103, 7, none⟩ = some (.string a0_7) := (blk_cell BK103.out 7).trans rfl; have hcz4_8 : w3.cell? ⟨gb103, 8, none⟩ = some (.string a0_8) := (blk_cell BK103.out 8).trans rfl; have hcz4_9 : w3.cell? ⟨gb103, 9, none⟩ = some (.bool a0_9) := (blk_cell BK103.out 9).trans rfl; have hcz4_10 : w3.cell? ⟨gb103, 10, none⟩ = some (.slice A0_10 l0_10.length c0_10) := (blk_cell BK103.out 10).trans rfl; have hcz4_11 : w3.cell? ⟨gb103, 11, none⟩ = some (.int .i64 a0_11) := (blk_cell BK103.out 11).trans rfl; have hcz4_12 : w3.cell? ⟨gb103, 12, none⟩ = some (.string a0_12) := (blk_cell BK103.out 12).trans rfl; have hcz4_13 : w3.cell? ⟨gb103, 13, none⟩ = some (.string a0_13) := (blk_cell BK103.out 13).trans rfl; have hcz4_14 : w3.cell? ⟨gb103, 14, none⟩ = some (.string a0_14) := (blk_cell BK103.out 14).trans rfl; have hcz4_15 : w3.cell? ⟨gb103, 15, none⟩ = some (.int .i64 a0_15) := (blk_cell BK103.out 15).trans rfl; have hfz4_0 := blk_frozen BK103.out 0; have hfz4_1 := blk_frozen BK103.out 1; have hfz4_2 := blk_frozen BK103.out 2; have hfz4_3 := blk_frozen BK103.out 3; have hfz4_4 := blk_frozen BK103.out 4; have hfz4_5 := blk_frozen BK103.out 5; have hfz4_6 := blk_frozen BK103.out 6; have hfz4_7 := blk_frozen BK103.out 7; have hfz4_8 := blk_frozen BK103.out 8; have hfz4_9 := blk_frozen BK103.out 9; have hfz4_10 := blk_frozen BK103.out 10; have hfz4_11 := blk_frozen BK103.out 11; have hfz4_12 := blk_frozen BK103.out 12; have hfz4_13 := blk_frozen BK103.out 13; have hfz4_14 := blk_frozen BK103.out 14; have hfz4_15 := blk_frozen BK103.out 15))
  (try simp only [Act.put, List.setIfInBounds_toArray, List.set_cons_zero, List.set_cons_succ])
  go_cut [5] (fun v5 wc => ∃ (kq : Nat) (x5_1 : Bool), v5 = .bool x5_1 ∧ Aside0 (system_kind.j0 kq a0_1 x5_1 a0_0 a0_1 a0_2 l0_3 l0_4 a0_5 a0_6 a0_7 a0_8 a0_9 l0_10 a0_11 a0_12 a0_13 a0_14 a0_15 = some r) ∧ Aside0 (kq ≤ k) ∧ Aside0 (wc.heap[gb103]? = some (.cells #[.string a0_0, .string a0_1, .int .i64 a0_2, (.slice A0_3 l0_3.length c0_3), (.slice A0_4 l0_4.length c0_4), .string a0_5, .string a0_6, .string a0_7, .string a0_8, .bool a0_9, (.slice A0_10 l0_10.length c0_10), .int .i64 a0_11, .string a0_12, .string a0_13, .string a0_14, .int .i64 a0_15] 27 (0, 0))) ∧ Aside0 (Below w.heap.size w wc))
  case first =>
    have H := HC2.out
    clear HC2
    by_cases c5 : a0_1.toList = ([99, 121, 99, 108, 105, 99] : List UInt8)
    · rw [if_pos c5] at H
      have c5b0 : (a0_1.toList == ([99, 121, 99, 108, 105, 99] : List UInt8)) = true := beq_iff_eq.mpr c5
      have c5b1 : (a0_1.toList != ([99, 121, 99, 108, 105, 99] : List UInt8)) = false := bne_eq_false_iff_eq.mpr c5
      clear c5
      (first | rw [c5b0] | (simp only [i64_w, i32_w]; rw [c5b0]) | skip)
      have H' := Aside0.mk H
      clear H
      go_wp2
      go_meet
      case rel => exact ⟨_, ((a0_1.toList == ([99, 121, 99, 108, 105, 99] : List UInt8))), (by first | rfl | (simp; done) | (simp [*]; done)), H', ⟨by first | omega | exact Nat.le_refl _⟩, ⟨by (with_reducible repeat (first | refine blk_drewN ?_ _ | refine blk_drew ?_ | refine blk_alloc ?_ _)); exact BK103.out⟩, ⟨by repeat (first | (with_reducible first | exact HB.out | apply below_alloc | apply pw_below_drewN | apply below_drew1 | refine below_set ?_ GE103.out) | exact HB.out)⟩⟩
    · rw [if_neg c5] at H
      have c5b0 : (a0_1.toList == ([99, 121, 99, 108, 105, 99] : List UInt8)) = false := beq_eq_false_iff_ne.mpr c5
      have c5b1 : (a0_1.toList != ([99, 121, 99, 108, 105, 99] : List UInt8)) = true := bne_iff_ne.mpr c5
      (first | rw [c5b0] | (simp only [i64_w, i32_w]; rw [c5b0]) | skip)
      by_cases c6 : a0_1.toList = ([115, 121, 109, 98, 111, 108, 105, 99] : List UInt8)
      · rw [if_pos c6] at H
        have c6b0 : (a0_1.toList == ([115, 121, 109, 98, 111, 108, 105, 99] : List UInt8)) = true := beq_iff_eq.mpr c6
        have c6b1 : (a0_1.toList != ([115, 121, 109, 98, 111, 108, 105, 99] : List UInt8)) = false := bne_eq_false_iff_eq.mpr c6
        clear c6
        have H' := Aside0.mk H
        clear H
        go_wp2
        go_meet
        case rel => exact ⟨_, ((a0_1.toList == ([115, 121, 109, 98, 111, 108, 105, 99] : List UInt8))), (by first | rfl | (simp; done) | (simp [*]; done)), H', ⟨by first | omega | exact Nat.le_refl _⟩, ⟨by (with_reducible repeat (first | refine blk_drewN ?_ _ | refine blk_drew ?_ | refine blk_alloc ?_ _)); exact BK103.out⟩, ⟨by repeat (first | (with_reducible first | exact HB.out | apply below_alloc | apply pw_below_drewN | apply below_drew1 | refine below_set ?_ GE103.out) | exact HB.out)⟩⟩
      · rw [if_neg c6] at H
        have c6b0 : (a0_1.toList == ([115, 121, 109, 98, 111, 108, 105, 99] : List UInt8)) = false := beq_eq_false_iff_ne.mpr c6
        have c6b1 : (a0_1.toList != ([115, 121, 109, 98, 111, 108, 105, 99] : List UInt8)) = true := bne_iff_ne.mpr c6
        have H' := Aside0.mk H
        clear H
        go_wp2
        go_meet
        case rel => exact ⟨_, ((a0_1.toList == ([102, 105, 120, 101, 100] : List UInt8))), (by first | rfl | (simp; done) | (simp [*]; done)), H', ⟨by first | omega | exact Nat.le_refl _⟩, ⟨by (with_reducible repeat (first | refine blk_drewN ?_ _ | refine blk_drew ?_ | refine blk_alloc ?_ _)); exact BK103.out⟩, ⟨by repeat (first | (with_reducible first | exact HB.out | apply below_alloc | apply pw_below_drewN | apply below_drew1 | refine below_set ?_ GE103.out) | exact HB.out)⟩⟩
  case rest =>
    clear HC2
    try clear c2
    try clear p2
    try clear c5
    try clear c5b0
    try clear c5b1
    try clear c6
    try clear c6b0
    try clear c6b1
    try clear hcz4_0
    try clear hcz4_1
    try clear hcz4_10
    try clear hcz4_11
    try clear hcz4_12
    try clear hcz4_13
    try clear hcz4_14
    try clear hcz4_15
    try clear hcz4_2
    try clear hcz4_3
    try clear hcz4_4
    try clear hcz4_5
    try clear hcz4_6
    try clear hcz4_7
    try clear hcz4_8
    try clear hcz4_9
    try clear hfz4_0
    try clear hfz4_1
    try clear hfz4_10
    try clear hfz4_11
    try clear hfz4_12
    try clear hfz4_13
    try clear hfz4_14
    try clear hfz4_15
    try clear hfz4_2
    try clear hfz4_3
    try clear hfz4_4
    try clear hfz4_5
    try clear hfz4_6
    try clear hfz4_7
    try clear hfz4_8
    try clear hfz4_9
    obtain ⟨kq, x5_1, rfl, HA, HJ1, BK103, HB⟩ := hcut
    cases kq with
    | zero => exact absurd HA.out (by simp [system_kind.j0])
    | succ kj1 =>
      have H := HA.out
      clear HA
      simp only [system_kind.j0] at H
      by_cases c7 : x5_1 = true
      · subst c7
        have H1 : (some (decide ((l0_3.length : Int) ≥ 1))) = some r := by rw [if_pos rfl] at H; exact H
        clear H
        have H := H1
        clear H1
        obtain rfl := Option.some.inj H
        have hcz8_0 : wc.cell? ⟨gb103, 0, none⟩ = some (.string a0_0) := (blk_cell BK103.out 0).trans rfl
        have hcz8_1 : wc.cell? ⟨gb103, 1, none⟩ = some (.string a0_1) := (blk_cell BK103.out 1).trans rfl
        have hcz8_2 : wc.cell? ⟨gb103, 2, none⟩ = some (.int .i64 a0_2) := (blk_cell BK103.out 2).trans rfl
        have hcz8_3 : wc.cell? ⟨gb103, 3, none⟩ = some (.slice A0_3 l0_3.length c0_3) := (blk_cell BK103.out 3).trans rfl
        have hcz8_4 : wc.cell? ⟨gb103, 4, none⟩ = some (.slice A0_4 l0_4.length c0_4) := (blk_cell BK103.out 4).trans rfl
        have hcz8_5 : wc.cell? ⟨gb103, 5, none⟩ = some (.string a0_5) := (blk_cell BK103.out 5).trans rfl
        have hcz8_6 : wc.cell? ⟨gb103, 6, none⟩ = some (.string a0_6) := (blk_cell BK103.out 6).trans rfl
        have hcz8_7 : wc.cell? ⟨gb103, 7, none⟩ = some (.string a0_7) := (blk_cell BK103.out 7).trans rfl
        have hcz8_8 : wc.cell? ⟨gb103, 8, none⟩ = some (.string a0_8) := (blk_cell BK103.out 8).trans rfl
        have hcz8_9 : wc.cell? ⟨gb103, 9, none⟩ = some (.bool a0_9) := (blk_cell BK103.out 9).trans rfl
        have hcz8_10 : wc.cell? ⟨gb103, 10, none⟩ = some (.slice A0_10 l0_10.length c0_10) := (blk_cell BK103.out 10).trans rfl
        have hcz8_11 : wc.cell? ⟨gb103, 11, none⟩ = some (.int .i64 a0_11) := (blk_cell BK103.out 11).trans rfl
        have hcz8_12 : wc.cell? ⟨gb103, 12, none⟩ = some (.string a0_12) := (blk_cell BK103.out 12).trans rfl
        have hcz8_13 : wc.cell? ⟨gb103, 13, none⟩ = some (.string a0_13) := (blk_cell BK103.out 13).trans rfl
        have hcz8_14 : wc.cell? ⟨gb103, 14, none⟩ = some (.string a0_14) := (blk_cell BK103.out 14).trans rfl
        have hcz8_15 : wc.cell? ⟨gb103, 15, none⟩ = some (.int .i64 a0_15) := (blk_cell BK103.out 15).trans rfl
        have hfz8_0 := blk_frozen BK103.out 0
        have hfz8_1 := blk_frozen BK103.out 1
        have hfz8_2 := blk_frozen BK103.out 2
        have hfz8_3 := blk_frozen BK103.out 3
        have hfz8_4 := blk_frozen BK103.out 4
        have hfz8_5 := blk_frozen BK103.out 5
        have hfz8_6 := blk_frozen BK103.out 6
        have hfz8_7 := blk_frozen BK103.out 7
        have hfz8_8 := blk_frozen BK103.out 8
        have hfz8_9 := blk_frozen BK103.out 9
        have hfz8_10 := blk_frozen BK103.out 10
        have hfz8_11 := blk_frozen BK103.out 11
        have hfz8_12 := blk_frozen BK103.out 12
        have hfz8_13 := blk_frozen BK103.out 13
        have hfz8_14 := blk_frozen BK103.out 14
        have hfz8_15 := blk_frozen BK103.out 15
        go_wp2
        go_ret
        exact ⟨by first | rfl | (simp [errW_none, errW_some] <;> rfl) | (simp [*, errW_none, errW_some] <;> rfl), by repeat (first | (with_reducible first | exact HB.out | apply below_alloc | apply pw_below_drewN | apply below_drew1 | refine below_set ?_ GE103.out) | exact HB.out)⟩
      · replace c7 := Bool.eq_false_iff.mpr c7
        subst c7
        have H1 : (if a0_1.toList = ([97, 108, 112, 104, 97, 98, 101, 116, 105, 99] : List UInt8) then (system_kind.j1 kj1 a0_1 (a0_1.toList == ([97, 108, 112, 104, 97, 98, 101, 116, 105, 99] : List UInt8)) a0_0 a0_1 a0_2 l0_3 l0_4 a0_5 a0_6 a0_7 a0_8 a0_9 l0_10 a0_11 a0_12 a0_13 a0_14 a0_15) else (system_kind.j1 kj1 a0_1 (a0_1.toList == ([110, 117, 109, 101, 114, 105, 99] : List UInt8)) a0_0 a0_1 a0_2 l0_3 l0_4 a0_5 a0_6 a0_7 a0_8 a0_9 l0_10 a0_11 a0_12 a0_13 a0_14 a0_15)) = some r := by rw [if_neg (show ¬ (false = true) by decide)] at H; exact H
        clear H
        have H := H1
        clear H1
        have HC9 := Aside0.mk H
        clear H
        go_upto_if 13 with (fail)
        go_cut [13] (fun v13 wc => ∃ (kq : Nat) (x13_8 : Bool), v13 = .bool x13_8 ∧ Aside0 (system_kind.j1 kq a0_1 x13_8 a0_0 a0_1 a0_2 l0_3 l0_4 a0_5 a0_6 a0_7 a0_8 a0_9 l0_10 a0_11 a0_12 a0_13 a0_14 a0_15 = some r) ∧ Aside0 (kq ≤ kj1) ∧ Aside0 (wc.heap[gb103]? = some (.cells #[.string a0_0, .string a0_1, .int .i64 a0_2, (.slice A0_3 l0_3.length c0_3), (.slice A0_4 l0_4.length c0_4), .string a0_5, .string a0_6, .string a0_7, .string a0_8, .bool a0_9, (.slice A0_10 l0_10.length c0_10), .int .i64 a0_11, .string a0_12, .string a0_13, .string a0_14, .int .i64 a0_15] 27 (0, 0))) ∧ Aside0 (Below w.heap.size w wc))
        case first =>
          have H := HC9.out
          clear HC9
          by_cases c10 : a0_1.toList = ([97, 108, 112, 104, 97, 98, 101, 116, 105, 99] : List UInt8)
          · rw [if_pos c10] at H
            have c10b0 : (a0_1.toList == ([97, 108, 112, 104, 97, 98, 101, 116, 105, 99] : List UInt8)) = true := beq_iff_eq.mpr c10
            have c10b1 : (a0_1.toList != ([97, 108, 112, 104, 97, 98, 101, 116, 105, 99] : List UInt8)) = false := bne_eq_false_iff_eq.mpr c10
            clear c10
            (first | rw [c10b0] | (simp only [i64_w, i32_w]; rw [c10b0]) | skip)
            have H' := Aside0.mk H
            clear H
            go_wp2
            go_meet
            case rel => exact ⟨_, ((a0_1.toList == ([97, 108, 112, 104, 97, 98, 101, 116, 105, 99] : List UInt8))), (by first | rfl | (simp; done) | (simp [*]; done)), H', ⟨by have := HJ1.out; first | omega | exact Nat.le_refl _⟩, ⟨by (with_reducible repeat (first | refine blk_drewN ?_ _ | refine blk_drew ?_ | refine blk_alloc ?_ _)); exact BK103.out⟩, ⟨by repeat (first | (with_reducible first | exact HB.out | apply below_alloc | apply pw_below_drewN | apply below_drew1 | refine below_set ?_ GE103.out) | exact HB.out)⟩⟩
          · rw [if_neg c10] at H
            have c10b0 : (a0_1.toList == ([97, 108, 112, 104, 97, 98, 101, 116, 105, 99] : List UInt8)) = false := beq_eq_false_iff_ne.mpr c10
            have c10b1 : (a0_1.toList != ([97, 108, 112, 104, 97, 98, 101, 116, 105, 99] : List UInt8)) = true := bne_iff_ne.mpr c10
            (first | rw [c10b0] | (simp only [i64_w, i32_w]; rw [c10b0]) | skip)
            have H' := Aside0.mk H
            clear H
            go_wp2
            go_meet
            case rel => exact ⟨_, ((a0_1.toList == ([110, 117, 109, 101, 114, 105, 99] : List UInt8))), (by first | rfl | (simp; done) | (simp [*]; done)), H', ⟨by have := HJ1.out; first | omega | exact Nat.le_refl _⟩, ⟨by (with_reducible repeat (first | refine blk_drewN ?_ _ | refine blk_drew ?_ | refine blk_alloc ?_ _)); exact BK103.out⟩, ⟨by repeat (first | (with_reducible first | exact HB.out | apply below_alloc | apply pw_below_drewN | apply below_drew1 | refine below_set ?_ GE103.out) | exact HB.out)⟩⟩
        case rest =>
          clear HC9
          try clear c1
          try clear c2
          try clear p2
          try clear c5
          try clear c5b0
          try clear c5b1
          try clear c6
          try clear c6b0
          try clear c6b1
          try clear c7
          try clear c10
          try clear c10b0
          try clear c10b1
          try clear hcz4_0
          try clear hcz4_1
          try clear hcz4_10
          try clear hcz4_11
          try clear hcz4_12
          try clear hcz4_13
          try clear hcz4_14
          try clear hcz4_15
          try clear hcz4_2
          try clear hcz4_3
          try clear hcz4_4
          try clear hcz4_5
          try clear hcz4_6
          try clear hcz4_7
          try clear hcz4_8
          try clear hcz4_9
          try clear hcz8_0
          try clear hcz8_1
          try clear hcz8_10
          try clear hcz8_11
          try clear hcz8_12
          try clear hcz8_13
          try clear hcz8_14
          try clear hcz8_15
          try clear hcz8_2
          try clear hcz8_3
          try clear hcz8_4
          try clear hcz8_5
          try clear hcz8_6
          try clear hcz8_7
          try clear hcz8_8
          try clear hcz8_9
          try clear hfz4_0
          try clear hfz4_1
          try clear hfz4_10
          try clear hfz4_11
          try clear hfz4_12
          try clear hfz4_13
          try clear hfz4_14
          try clear hfz4_15
          try clear hfz4_2
          try clear hfz4_3
          try clear hfz4_4
          try clear hfz4_5
          try clear hfz4_6
          try clear hfz4_7
          try clear hfz4_8
          try clear hfz4_9
          try clear hfz8_0
          try clear hfz8_1
          try clear hfz8_10
          try clear hfz8_11
          try clear hfz8_12
          try clear hfz8_13
          try clear hfz8_14
          try clear hfz8_15
          try clear hfz8_2
          try clear hfz8_3
          try clear hfz8_4
          try clear hfz8_5
          try clear hfz8_6
          try clear hfz8_7
          try clear hfz8_8
          try clear hfz8_9
          try clear p2
          obtain ⟨kq, x13_8, rfl, HA, HJ8, BK103, HB⟩ := hcut
          cases kq with
          | zero => exact absurd HA.out (by simp [system_kind.j1])
          | succ kj8 =>
            have H := HA.out
            clear HA
            simp only [system_kind.j1] at H
            by_cases c11 : x13_8 = true
            · subst c11
              have H1 : (some (decide ((l0_3.length : Int) ≥ 2))) = some r := by rw [if_pos rfl] at H; exact H
              clear H
              have H := H1
              clear H1
              obtain rfl := Option.some.inj H
              have hcz12_0 : wc.cell? ⟨gb103, 0, none⟩ = some (.string a0_0) := (blk_cell BK103.out 0).trans rfl
              have hcz12_1 : wc.cell? ⟨gb103, 1, none⟩ = some (.string a0_1) := (blk_cell BK103.out 1).trans rfl
              have hcz12_2 : wc.cell? ⟨gb103, 2, none⟩ = some (.int .i64 a0_2) := (blk_cell BK103.out 2).trans rfl
              have hcz12_3 : wc.cell? ⟨gb103, 3, none⟩ = some (.slice A0_3 l0_3.length c0_3) := (blk_cell BK103.out 3).trans rfl
              have hcz12_4 : wc.cell? ⟨gb103, 4, none⟩ = some (.slice A0_4 l0_4.length c0_4) := (blk_cell BK103.out 4).trans rfl
              have hcz12_5 : wc.cell? ⟨gb103, 5, none⟩ = some (.string a0_5) := (blk_cell BK103.out 5).trans rfl
              have hcz12_6 : wc.cell? ⟨gb103, 6, none⟩ = some (.string a0_6) := (blk_cell BK103.out 6).trans rfl
              have hcz12_7 : wc.cell? ⟨gb103, 7, none⟩ = some (.string a0_7) := (blk_cell BK103.out 7).trans rfl
              have hcz12_8 : wc.cell? ⟨gb103, 8, none⟩ = some (.string a0_8) := (blk_cell BK103.out 8).trans rfl
              have hcz12_9 : wc.cell? ⟨gb103, 9, none⟩ = some (.bool a0_9) := (blk_cell BK103.out 9).trans rfl
              have hcz12_10 : wc.cell? ⟨gb103, 10, none⟩ = some (.slice A0_10 l0_10.length c0_10) := (blk_cell BK103.out 10).trans rfl
              have hcz12_11 : wc.cell? ⟨gb103, 11, none⟩ = some (.int .i64 a0_11) := (blk_cell BK103.out 11).trans rfl
              have hcz12_12 : wc.cell? ⟨gb103, 12, none⟩ = some (.string a0_12) := (blk_cell BK103.out 12).trans rfl
              have hcz12_13 : wc.cell? ⟨gb103, 13, none⟩ = some (.string a0_13) := (blk_cell BK103.out 13).trans rfl
              have hcz12_14 : wc.cell? ⟨gb103, 14, none⟩ = some (.string a0_14) := (blk_cell BK103.out 14).trans rfl
              have hcz12_15 : wc.cell? ⟨gb103, 15, none⟩ = some (.int .i64 a0_15) := (blk_cell BK103.out 15).trans rfl
              have hfz12_0 := blk_frozen BK103.out 0
              have hfz12_1 := blk_frozen BK103.out 1
              have hfz12_2 := blk_frozen BK103.out 2
              have hfz12_3 := blk_frozen BK103.out 3
              have hfz12_4 := blk_frozen BK103.out 4
              have hfz12_5 := blk_frozen BK103.out 5
              have hfz12_6 := blk_frozen BK103.out 6
              have hfz12_7 := blk_frozen BK103.out 7
              have hfz12_8 := blk_frozen BK103.out 8
              have hfz12_9 := blk_frozen BK103.out 9
              have hfz12_10 := blk_frozen BK103.out 10
              have hfz12_11 := blk_frozen BK103.out 11
              have hfz12_12 := blk_frozen BK103.out 12
              have hfz12_13 := blk_frozen BK103.out 13
              have hfz12_14 := blk_frozen BK103.out 14
              have hfz12_15 := blk_frozen BK103.out 15
              go_wp2
              go_ret
              exact ⟨by first | rfl | (simp [errW_none, errW_some] <;> rfl) | (simp [*, errW_none, errW_some] <;> rfl), by repeat (first | (with_reducible first | exact HB.out | apply below_alloc | apply pw_below_drewN | apply below_drew1 | refine below_set ?_ GE103.out) | exact HB.out)⟩
            · replace c11 := Bool.eq_false_iff.mpr c11
              subst c11
              have H1 : (if a0_1.toList = ([97, 100, 100, 105, 116, 105, 118, 101] : List UInt8) then (if (l0_3.length : Int) ≥ 1 then (if (l0_3.length : Int) = (l0_4.length : Int) then ((system_falling.f kj8 l0_4).bind fun t104 => (some t104)) else (some false)) else (some false)) else (if a0_1.toList = ([101, 120, 116, 101, 110, 100, 115] : List UInt8) then (some ((wrap64 ((l0_3.length : Int) + (l0_4.length : Int))) == 0)) else (some false))) = some r := by rw [if_neg (show ¬ (false = true) by decide)] at H; exact H
              clear H
              have H := H1
              clear H1
              by_cases c13 : a0_1.toList = ([97, 100, 100, 105, 116, 105, 118, 101] : List UInt8)
              · rw [if_pos c13] at H
                have c13b0 : (a0_1.toList == ([97, 100, 100, 105, 116, 105, 118, 101] : List UInt8)) = true := beq_iff_eq.mpr c13
                have c13b1 : (a0_1.toList != ([97, 100, 100, 105, 116, 105, 118, 101] : List UInt8)) = false := bne_eq_false_iff_eq.mpr c13
                clear c13
                by_cases c14 : (l0_3.length : Int) ≥ 1
                · rw [if_pos c14] at H
                  have c14b0 : decide (1 ≤ (l0_3.length : Int)) = true := decide_eq_true c14
                  have c14b1 : decide (1 ≤ l0_3.length) = true := decide_eq_true (by omega)
                  clear c14
                  by_cases c15 : (l0_3.length : Int) = (l0_4.length : Int)
                  · rw [if_pos c15] at H
                    have c15b0 : ((l0_3.length : Int) == (l0_4.length : Int)) = true := beq_iff_eq.mpr c15
                    have c15b1 : ((l0_3.length : Int) != (l0_4.length : Int)) = false := bne_eq_false_iff_eq.mpr c15
                    have c15b2 : (l0_3.length == l0_4.length) = true := by first | simpa using c15 | (simp at c15 ⊢; omega)
                    clear c15
                    replace H := Option.bind_eq_some_iff.mp H
                    obtain ⟨t104, A160, H⟩ := H
                    replace H : (some t104) = some r := H
                    have A16 := Aside0.mk A160
                    clear A160
                    obtain rfl := Option.some.inj H
                    have hcz17_0 : wc.cell? ⟨gb103, 0, none⟩ = some (.string a0_0) := (blk_cell BK103.out 0).trans rfl
                    have hcz17_1 : wc.cell? ⟨gb103, 1, none⟩ = some (.string a0_1) := (blk_cell BK103.out 1).trans rfl
                    have hcz17_2 : wc.cell? ⟨gb103, 2, none⟩ = some (.int .i64 a0_2) := (blk_cell BK103.out 2).trans rfl
                    have hcz17_3 : wc.cell? ⟨gb103, 3, none⟩ = some (.slice A0_3 l0_3.length c0_3) := (blk_cell BK103.out 3).trans rfl
                    have hcz17_4 : wc.cell? ⟨gb103, 4, none⟩ = some (.slice A0_4 l0_4.length c0_4) := (blk_cell BK103.out 4).trans rfl
                    have hcz17_5 : wc.cell? ⟨gb103, 5, none⟩ = some (.string a0_5) := (blk_cell BK103.out 5).trans rfl
                    have hcz17_6 : wc.cell? ⟨gb103, 6, none⟩ = some (.string a0_6) := (blk_cell BK103.out 6).trans rfl
                    have hcz17_7 : wc.cell? ⟨gb103, 7, none⟩ = some (.string a0_7) := (blk_cell BK103.out 7).trans rfl
                    have hcz17_8 : wc.cell? ⟨gb103, 8, none⟩ = some (.string a0_8) := (blk_cell BK103.out 8).trans rfl
                    have hcz17_9 : wc.cell? ⟨gb103, 9, none⟩ = some (.bool a0_9) := (blk_cell BK103.out 9).trans rfl
                    have hcz17_10 : wc.cell? ⟨gb103, 10, none⟩ = some (.slice A0_10 l0_10.length c0_10) := (blk_cell BK103.out 10).trans rfl
                    have hcz17_11 : wc.cell? ⟨gb103, 11, none⟩ = some (.int .i64 a0_11) := (blk_cell BK103.out 11).trans rfl
                    have hcz17_12 : wc.cell? ⟨gb103, 12, none⟩ = some (.string a0_12) := (blk_cell BK103.out 12).trans rfl
                    have hcz17_13 : wc.cell? ⟨gb103, 13, none⟩ = some (.string a0_13) := (blk_cell BK103.out 13).trans rfl
                    have hcz17_14 : wc.cell? ⟨gb103, 14, none⟩ = some (.string a0_14) := (blk_cell BK103.out 14).trans rfl
                    have hcz17_15 : wc.cell? ⟨gb103, 15, none⟩ = some (.int .i64 a0_15) := (blk_cell BK103.out 15).trans rfl
                    have hfz17_0 := blk_frozen BK103.out 0
                    have hfz17_1 := blk_frozen BK103.out 1
                    have hfz17_2 := blk_frozen BK103.out 2
                    have hfz17_3 := blk_frozen BK103.out 3
                    have hfz17_4 := blk_frozen BK103.out 4
                    have hfz17_5 := blk_frozen BK103.out 5
                    have hfz17_6 := blk_frozen BK103.out 6
                    have hfz17_7 := blk_frozen BK103.out 7
                    have hfz17_8 := blk_frozen BK103.out 8
                    have hfz17_9 := blk_frozen BK103.out 9
                    have hfz17_10 := blk_frozen BK103.out 10
                    have hfz17_11 := blk_frozen BK103.out 11
                    have hfz17_12 := blk_frozen BK103.out 12
                    have hfz17_13 := blk_frozen BK103.out 13
                    have hfz17_14 := blk_frozen BK103.out 14
                    have hfz17_15 := blk_frozen BK103.out 15
                    go_wp2_with (first | (go_at_call 37; (with_reducible refine (system_falling.calls kj8 _ _ l0_4 t104 _ ?side1 ?side2 A16.out).mono ?_); (case side1 => repeat (first | exact (Kd.C_below HR0_4.out HB.out) | (with_reducible refine Kd.C_alloc ?_ _) | (with_reducible refine Kd.C_drewN ?_ _) | (with_reducible refine Kd.C_drew ?_))); (case side2 => exact HC0_4.out); rintro e w' ⟨rfl, ⟨nd, rfl⟩⟩))
                    go_ret
                    exact ⟨by first | rfl | (simp [errW_none, errW_some] <;> rfl) | (simp [*, errW_none, errW_some] <;> rfl), by repeat (first | (with_reducible first | exact HB.out | apply below_alloc | apply pw_below_drewN | apply below_drew1 | refine below_set ?_ GE103.out) | exact HB.out)⟩
                  · rw [if_neg c15] at H
                    have c15b0 : ((l0_3.length : Int) == (l0_4.length : Int)) = false := beq_eq_false_iff_ne.mpr c15
                    have c15b1 : ((l0_3.length : Int) != (l0_4.length : Int)) = true := bne_iff_ne.mpr c15
                    have c15b2 : (l0_3.length == l0_4.length) = false := by first | simpa using c15 | (simp at c15 ⊢; omega)
                    obtain rfl := Option.some.inj H
                    have hcz18_0 : wc.cell? ⟨gb103, 0, none⟩ = some (.string a0_0) := (blk_cell BK103.out 0).trans rfl
                    have hcz18_1 : wc.cell? ⟨gb103, 1, none⟩ = some (.string a0_1) := (blk_cell BK103.out 1).trans rfl
                    have hcz18_2 : wc.cell? ⟨gb103, 2, none⟩ = some (.int .i64 a0_2) := (blk_cell BK103.out 2).trans rfl
                    have hcz18_3 : wc.cell? ⟨gb103, 3, none⟩ = some (.slice A0_3 l0_3.length c0_3) := (blk_cell BK103.out 3).trans rfl
                    have hcz18_4 : wc.cell? ⟨gb103, 4, none⟩ = some (.slice A0_4 l0_4.length c0_4) := (blk_cell BK103.out 4).trans rfl
                    have hcz18_5 : wc.cell? ⟨gb103, 5, none⟩ = some (.string a0_5) := (blk_cell BK103.out 5).trans rfl
                    have hcz18_6 : wc.cell? ⟨gb103, 6, none⟩ = some (.string a0_6) := (blk_cell BK103.out 6).trans rfl
                    have hcz18_7 : wc.cell? ⟨gb103, 7, none⟩ = some (.string a0_7) := (blk_cell BK103.out 7).trans rfl
                    have hcz18_8 : wc.cell? ⟨gb103, 8, none⟩ = some (.string a0_8) := (blk_cell BK103.out 8).trans rfl
                    have hcz18_9 : wc.cell? ⟨gb103, 9, none⟩ = some (.bool a0_9) := (blk_cell BK103.out 9).trans rfl
                    have hcz18_10 : wc.cell? ⟨gb103, 10, none⟩ = some (.slice A0_10 l0_10.length c0_10) := (blk_cell BK103.out 10).trans rfl
                    have hcz18_11 : wc.cell? ⟨gb103, 11, none⟩ = some (.int .i64 a0_11) := (blk_cell BK103.out 11).trans rfl
                    have hcz18_12 : wc.cell? ⟨gb103, 12, none⟩ = some (.string a0_12) := (blk_cell BK103.out 12).trans rfl
                    have hcz18_13 : wc.cell? ⟨gb103, 13, none⟩ = some (.string a0_13) := (blk_cell BK103.out 13).trans rfl
                    have hcz18_14 : wc.cell? ⟨gb103, 14, none⟩ = some (.string a0_14) := (blk_cell BK103.out 14).trans rfl
                    have hcz18_15 : wc.cell? ⟨gb103, 15, none⟩ = some (.int .i64 a0_15) := (blk_cell BK103.out 15).trans rfl
                    have hfz18_0 := blk_frozen BK103.out 0
                    have hfz18_1 := blk_frozen BK103.out 1
                    have hfz18_2 := blk_frozen BK103.out 2
                    have hfz18_3 := blk_frozen BK103.out 3
                    have hfz18_4 := blk_frozen BK103.out 4
                    have hfz18_5 := blk_frozen BK103.out 5
                    have hfz18_6 := blk_frozen BK103.out 6
                    have hfz18_7 := blk_frozen BK103.out 7
                    have hfz18_8 := blk_frozen BK103.out 8
                    have hfz18_9 := blk_frozen BK103.out 9
                    have hfz18_10 := blk_frozen BK103.out 10
                    have hfz18_11 := blk_frozen BK103.out 11
                    have hfz18_12 := blk_frozen BK103.out 12
                    have hfz18_13 := blk_frozen BK103.out 13
                    have hfz18_14 := blk_frozen BK103.out 14
                    have hfz18_15 := blk_frozen BK103.out 15
                    go_wp2
                    go_ret
                    exact ⟨by first | rfl | (simp [errW_none, errW_some] <;> rfl) | (simp [*, errW_none, errW_some] <;> rfl), by repeat (first | (with_reducible first | exact HB.out | apply below_alloc | apply pw_below_drewN | apply below_drew1 | refine below_set ?_ GE103.out) | exact HB.out)⟩
                · rw [if_neg c14] at H
                  have c14b0 : decide (1 ≤ (l0_3.length : Int)) = false := decide_eq_false c14
                  have c14b1 : decide (1 ≤ l0_3.length) = false := decide_eq_false (by omega)
                  clear c14
                  obtain rfl := Option.some.inj H
                  have hcz19_0 : wc.cell? ⟨gb103, 0, none⟩ = some (.string a0_0) := (blk_cell BK103.out 0).trans rfl
                  have hcz19_1 : wc.cell? ⟨gb103, 1, none⟩ = some (.string a0_1) := (blk_cell BK103.out 1).trans rfl
                  have hcz19_2 : wc.cell? ⟨gb103, 2, none⟩ = some (.int .i64 a0_2) := (blk_cell BK103.out 2).trans rfl
                  have hcz19_3 : wc.cell? ⟨gb103, 3, none⟩ = some (.slice A0_3 l0_3.length c0_3) := (blk_cell BK103.out 3).trans rfl
                  have hcz19_4 : wc.cell? ⟨gb103, 4, none⟩ = some (.slice A0_4 l0_4.length c0_4) := (blk_cell BK103.out 4).trans rfl
                  have hcz19_5 : wc.cell? ⟨gb103, 5, none⟩ = some (.string a0_5) := (blk_cell BK103.out 5).trans rfl
                  have hcz19_6 : wc.cell? ⟨gb103, 6, none⟩ = some (.string a0_6) := (blk_cell BK103.out 6).trans rfl
                  have hcz19_7 : wc.cell? ⟨gb103, 7, none⟩ = some (.string a0_7) := (blk_cell BK103.out 7).trans rfl
                  have hcz19_8 : wc.cell? ⟨gb103, 8, none⟩ = some (.string a0_8) := (blk_cell BK103.out 8).trans rfl
                  have hcz19_9 : wc.cell? ⟨gb103, 9, none⟩ = some (.bool a0_9) := (blk_cell BK103.out 9).trans rfl
                  have hcz19_10 : wc.cell? ⟨gb103, 10, none⟩ = some (.slice A0_10 l0_10.length c0_10) := (blk_cell BK103.out 10).trans rfl
                  have hcz19_11 : wc.cell? ⟨gb103, 11, none⟩ = some (.int .i64 a0_11) := (blk_cell BK103.out 11).trans rfl
                  have hcz19_12 : wc.cell? ⟨gb103, 12, none⟩ = some (.string a0_12) := (blk_cell BK103.out 12).trans rfl
                  have hcz19_13 : wc.cell? ⟨gb103, 13, none⟩ = some (.string a0_13) := (blk_cell BK103.out 13).trans rfl
                  have hcz19_14 : wc.cell? ⟨gb103, 14, none⟩ = some (.string a0_14) := (blk_cell BK103.out 14).trans rfl
                  have hcz19_15 : wc.cell? ⟨gb103, 15, none⟩ = some (.int .i64 a0_15) := (blk_cell BK103.out 15).trans rfl
                  have hfz19_0 := blk_frozen BK103.out 0
                  have hfz19_1 := blk_frozen BK103.out 1
                  have hfz19_2 := blk_frozen BK103.out 2
                  have hfz19_3 := blk_frozen BK103.out 3
                  have hfz19_4 := blk_frozen BK103.out 4
                  have hfz19_5 := blk_frozen BK103.out 5
                  have hfz19_6 := blk_frozen BK103.out 6
                  have hfz19_7 := blk_frozen BK103.out 7
                  have hfz19_8 := blk_frozen BK103.out 8
                  have hfz19_9 := blk_frozen BK103.out 9
                  have hfz19_10 := blk_frozen BK103.out 10
                  have hfz19_11 := blk_frozen BK103.out 11
                  have hfz19_12 := blk_frozen BK103.out 12
                  have hfz19_13 := blk_frozen BK103.out 13
                  have hfz19_14 := blk_frozen BK103.out 14
                  have hfz19_15 := blk_frozen BK103.out 15
                  go_wp2
                  go_ret
                  exact ⟨by first | rfl | (simp [errW_none, errW_some] <;> rfl) | (simp [*, errW_none, errW_some] <;> rfl), by repeat (first | (with_reducible first | exact HB.out | apply below_alloc | apply pw_below_drewN | apply below_drew1 | refine below_set ?_ GE103.out) | exact HB.out)⟩
              · rw [if_neg c13] at H
                have c13b0 : (a0_1.toList == ([97, 100, 100, 105, 116, 105, 118, 101] : List UInt8)) = false := beq_eq_false_iff_ne.mpr c13
                have c13b1 : (a0_1.toList != ([97, 100, 100, 105, 116, 105, 118, 101] : List UInt8)) = true := bne_iff_ne.mpr c13
                by_cases c20 : a0_1.toList = ([101, 120, 116, 101, 110, 100, 115] : List UInt8)
                · rw [if_pos c20] at H
                  have c20b0 : (a0_1.toList == ([101, 120, 116, 101, 110, 100, 115] : List UInt8)) = true := beq_iff_eq.mpr c20
                  have c20b1 : (a0_1.toList != ([101, 120, 116, 101, 110, 100, 115] : List UInt8)) = false := bne_eq_false_iff_eq.mpr c20
                  clear c20
                  obtain rfl := Option.some.inj H
                  have hcz21_0 : wc.cell? ⟨gb103, 0, none⟩ = some (.string a0_0) := (blk_cell BK103.out 0).trans rfl
                  have hcz21_1 : wc.cell? ⟨gb103, 1, none⟩ = some (.string a0_1) := (blk_cell BK103.out 1).trans rfl
                  have hcz21_2 : wc.cell? ⟨gb103, 2, none⟩ = some (.int .i64 a0_2) := (blk_cell BK103.out 2).trans rfl
                  have hcz21_3 : wc.cell? ⟨gb103, 3, none⟩ = some (.slice A0_3 l0_3.length c0_3) := (blk_cell BK103.out 3).trans rfl
                  have hcz21_4 : wc.cell? ⟨gb103, 4, none⟩ = some (.slice A0_4 l0_4.length c0_4) := (blk_cell BK103.out 4).trans rfl
                  have hcz21_5 : wc.cell? ⟨gb103, 5, none⟩ = some (.string a0_5) := (blk_cell BK103.out 5).trans rfl
                  have hcz21_6 : wc.cell? ⟨gb103, 6, none⟩ = some (.string a0_6) := (blk_cell BK103.out 6).trans rfl
                  have hcz21_7 : wc.cell? ⟨gb103, 7, none⟩ = some (.string a0_7) := (blk_cell BK103.out 7).trans rfl
                  have hcz21_8 : wc.cell? ⟨gb103, 8, none⟩ = some (.string a0_8) := (blk_cell BK103.out 8).trans rfl
                  have hcz21_9 : wc.cell? ⟨gb103, 9, none⟩ = some (.bool a0_9) := (blk_cell BK103.out 9).trans rfl
                  have hcz21_10 : wc.cell? ⟨gb103, 10, none⟩ = some (.slice A0_10 l0_10.length c0_10) := (blk_cell BK103.out 10).trans rfl
                  have hcz21_11 : wc.cell? ⟨gb103, 11, none⟩ = some (.int .i64 a0_11) := (blk_cell BK103.out 11).trans rfl
                  have hcz21_12 : wc.cell? ⟨gb103, 12, none⟩ = some (.string a0_12) := (blk_cell BK103.out 12).trans rfl
                  have hcz21_13 : wc.cell? ⟨gb103, 13, none⟩ = some (.string a0_13) := (blk_cell BK103.out 13).trans rfl
                  have hcz21_14 : wc.cell? ⟨gb103, 14, none⟩ = some (.string a0_14) := (blk_cell BK103.out 14).trans rfl
                  have hcz21_15 : wc.cell? ⟨gb103, 15, none⟩ = some (.int .i64 a0_15) := (blk_cell BK103.out 15).trans rfl
                  have hfz21_0 := blk_frozen BK103.out 0
                  have hfz21_1 := blk_frozen BK103.out 1
                  have hfz21_2 := blk_frozen BK103.out 2
                  have hfz21_3 := blk_frozen BK103.out 3
                  have hfz21_4 := blk_frozen BK103.out 4
                  have hfz21_5 := blk_frozen BK103.out 5
                  have hfz21_6 := blk_frozen BK103.out 6
                  have hfz21_7 := blk_frozen BK103.out 7
                  have hfz21_8 := blk_frozen BK103.out 8
                  have hfz21_9 := blk_frozen BK103.out 9
                  have hfz21_10 := blk_frozen BK103.out 10
                  have hfz21_11 := blk_frozen BK103.out 11
                  have hfz21_12 := blk_frozen BK103.out 12
                  have hfz21_13 := blk_frozen BK103.out 13
                  have hfz21_14 := blk_frozen BK103.out 14
                  have hfz21_15 := blk_frozen BK103.out 15
                  go_wp2
                  go_ret
                  exact ⟨by first | rfl | (simp [errW_none, errW_some] <;> rfl) | (simp [*, errW_none, errW_some] <;> rfl), by repeat (first | (with_reducible first | exact HB.out | apply below_alloc | apply pw_below_drewN | apply below_drew1 | refine below_set ?_ GE103.out) | exact HB.out)⟩
                · rw [if_neg c20] at H
                  have c20b0 : (a0_1.toList == ([101, 120, 116, 101, 110, 100, 115] : List UInt8)) = false := beq_eq_false_iff_ne.mpr c20
                  have c20b1 : (a0_1.toList != ([101, 120, 116, 101, 110, 100, 115] : List UInt8)) = true := bne_iff_ne.mpr c20
                  obtain rfl := Option.some.inj H
                  go_wp2
                  go_ret
                  exact ⟨by first | rfl | (simp [errW_none, errW_some] <;> rfl) | (simp [*, errW_none, errW_some] <;> rfl), by repeat (first | (with_reducible first | exact HB.out | apply below_alloc | apply pw_below_drewN | apply below_drew1 | refine below_set ?_ GE103.out) | exact HB.out)⟩

-- NOT PRINTED: function 38 (slices_IndexFunc_string_string)

end Go.Proofs.Ytalegejfellbdaa.Print
