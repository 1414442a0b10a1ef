/- Written by a program of this session out of the translation, with contracts given by hand beside. -/
import Derived.Test.YtmadmnbaefifiaaPrint0
namespace Go.Proofs.Ytmadmnbaefifiaa.Print
open Go.RowKit Go.Proofs.YtmadmnbaefifiaaW.PrintWords Go.Proofs.YtmadmnbaefifiaaW.PrintLast Go.Proofs.YtmadmnbaefifiaaW.PrintMore
attribute [local go_sem] max2_int min2_int max_two min_two max_three min_three max_four min_four   -- for this text's walks alone
set_option linter.unusedVariables false
set_option linter.unusedSimpArgs false

/-! ### fleuronref15_Input: function 9 -/
mutual
def fleuronref15_Input.j0 : Nat → List (S26) → Bool → Option (Int)
  | 0, _, _ => none
  | k + 1, x1, x16 => if x16 = true then (some 4) else (fleuronref15_Input.l0 k x1 0)
def fleuronref15_Input.l0 : Nat → List (S26) → Int → Option (Int)
  | 0, _, _ => none
  | k + 1, x1, x5 => if x5 < (x1.length : Int) then (if 0 ≤ x5 then (if (((rd_T26 x1 x5).f1).size : Int) > 10000 then (fleuronref15_Input.j2 k x1 x5 true) else (if (((rd_T26 x1 x5).f2).size : Int) > 10000 then (fleuronref15_Input.j2 k x1 x5 true) else (fleuronref15_Input.j2 k x1 x5 (decide ((((rd_T26 x1 x5).f3).length : Int) > 64))))) else (none)) else (some 0)
def fleuronref15_Input.j2 : Nat → List (S26) → Int → Bool → Option (Int)
  | 0, _, _, _ => none
  | k + 1, x1, x5, x47 => if x47 = true then (some 4) else (fleuronref15_Input.l1 k x1 x5 0)
def fleuronref15_Input.l1 : Nat → List (S26) → Int → Int → Option (Int)
  | 0, _, _, _ => none
  | k + 1, x1, x5, x6 => if 0 ≤ x5 then (if x5 < (x1.length : Int) then (if x6 < (((rd_T26 x1 x5).f3).length : Int) then (if 0 ≤ x6 then (if (((rd_T30 ((rd_T26 x1 x5).f3) x6).f0).size : Int) > 10000 then (some 4) else (if (((rd_T30 ((rd_T26 x1 x5).f3) x6).f1).size : Int) > 10000 then (some 4) else (fleuronref15_Input.l1 k x1 x5 (wrap64 (x6 + 1))))) else (none)) else (fleuronref15_Input.l0 k x1 (wrap64 (x5 + 1)))) else (none)) else (none)
end
def fleuronref15_Input.f (k : Nat) (a0 : Int) (l1 : List (S26)) : Option (Int) := if a0 > 65536 then (some 3) else (if (l1.length : Int) = 0 then (fleuronref15_Input.j0 k l1 true) else (fleuronref15_Input.j0 k l1 (decide ((l1.length : Int) > 1000))))
theorem fleuronref15_Input.mono_l : ∀ k, (∀ y0 y1, LeO (fleuronref15_Input.j0 k y0 y1) (fleuronref15_Input.j0 (k + 1) y0 y1)) ∧ (∀ y0 y1, LeO (fleuronref15_Input.l0 k y0 y1) (fleuronref15_Input.l0 (k + 1) y0 y1)) ∧ (∀ y0 y1 y2, LeO (fleuronref15_Input.j2 k y0 y1 y2) (fleuronref15_Input.j2 (k + 1) y0 y1 y2)) ∧ (∀ y0 y1 y2, LeO (fleuronref15_Input.l1 k y0 y1 y2) (fleuronref15_Input.l1 (k + 1) y0 y1 y2))
  | 0 => ⟨fun _ _ r h => by simp [fleuronref15_Input.j0] at h, fun _ _ r h => by simp [fleuronref15_Input.l0] at h, fun _ _ _ r h => by simp [fleuronref15_Input.j2] at h, fun _ _ _ r h => by simp [fleuronref15_Input.l1] at h⟩
  | k + 1 => by
    obtain ⟨ih0, ih1, ih2, ih3⟩ := fleuronref15_Input.mono_l k
    refine ⟨?_, ?_, ?_, ?_⟩
    · intro y0 y1
      unfold fleuronref15_Input.j0
      repeat' first
      | (with_reducible exact ih0 _ _)
      | (with_reducible exact ih1 _ _)
      | (with_reducible exact ih2 _ _ _)
      | (with_reducible exact ih3 _ _ _)
      | (with_reducible exact LeO.refl _)
      | (with_reducible exact LeO.none _)
      | (with_reducible refine LeO.ite ?_ ?_)
      | (with_reducible refine LeO.bind ?_ (fun _ => ?_))
      | exact ih0 _ _
      | exact ih1 _ _
      | exact ih2 _ _ _
      | exact ih3 _ _ _
      | exact LeO.none _
      | refine LeO.ite ?_ ?_
      | refine LeO.bind ?_ (fun _ => ?_)
    · intro y0 y1
      unfold fleuronref15_Input.l0
      repeat' first
      | (with_reducible exact ih0 _ _)
      | (with_reducible exact ih1 _ _)
      | (with_reducible exact ih2 _ _ _)
      | (with_reducible exact ih3 _ _ _)
      | (with_reducible exact LeO.refl _)
      | (with_reducible exact LeO.none _)
      | (with_reducible refine LeO.ite ?_ ?_)
      | (with_reducible refine LeO.bind ?_ (fun _ => ?_))
      | exact ih0 _ _
      | exact ih1 _ _
      | exact ih2 _ _ _
      | exact ih3 _ _ _
      | exact LeO.none _
      | refine LeO.ite ?_ ?_
      | refine LeO.bind ?_ (fun _ => ?_)
    · intro y0 y1 y2
      unfold fleuronref15_Input.j2
      repeat' first
      | (with_reducible exact ih0 _ _)
      | (with_reducible exact ih1 _ _)
      | (with_reducible exact ih2 _ _ _)
      | (with_reducible exact ih3 _ _ _)
      | (with_reducible exact LeO.refl _)
      | (with_reducible exact LeO.none _)
      | (with_reducible refine LeO.ite ?_ ?_)
      | (with_reducible refine LeO.bind ?_ (fun _ => ?_))
      | exact ih0 _ _
      | exact ih1 _ _
      | exact ih2 _ _ _
      | exact ih3 _ _ _
      | exact LeO.none _
      | refine LeO.ite ?_ ?_
      | refine LeO.bind ?_ (fun _ => ?_)
    · intro y0 y1 y2
      unfold fleuronref15_Input.l1
      repeat' first
      | (with_reducible exact ih0 _ _)
      | (with_reducible exact ih1 _ _)
      | (with_reducible exact ih2 _ _ _)
      | (with_reducible exact ih3 _ _ _)
      | (with_reducible exact LeO.refl _)
      | (with_reducible exact LeO.none _)
      | (with_reducible refine LeO.ite ?_ ?_)
      | (with_reducible refine LeO.bind ?_ (fun _ => ?_))
      | exact ih0 _ _
      | exact ih1 _ _
      | exact ih2 _ _ _
      | exact ih3 _ _ _
      | exact LeO.none _
      | refine LeO.ite ?_ ?_
      | refine LeO.bind ?_ (fun _ => ?_)
theorem fleuronref15_Input.mono : ∀ a0 a1 k, LeO (fleuronref15_Input.f k a0 a1) (fleuronref15_Input.f (k + 1) a0 a1) := by
  intro a0 a1 k
  obtain ⟨ih0, ih1, ih2, ih3⟩ := fleuronref15_Input.mono_l k
  unfold fleuronref15_Input.f
  repeat' first
      | (with_reducible exact ih0 _ _)
      | (with_reducible exact ih1 _ _)
      | (with_reducible exact ih2 _ _ _)
      | (with_reducible exact ih3 _ _ _)
      | (with_reducible exact LeO.refl _)
      | (with_reducible exact LeO.none _)
      | (with_reducible refine LeO.ite ?_ ?_)
      | (with_reducible refine LeO.bind ?_ (fun _ => ?_))
      | exact ih0 _ _
      | exact ih1 _ _
      | exact ih2 _ _ _
      | exact ih3 _ _ _
      | exact LeO.none _
      | refine LeO.ite ?_ ?_
      | refine LeO.bind ?_ (fun _ => ?_)
set_option maxHeartbeats 8000000 in
set_option maxRecDepth 100000 in
theorem fleuronref15_Input.calls (k : Nat) (a0 : Int) (A1 : Option Addr) (c1 : Nat) (l1 : List (S26)) (r : Int) (w : World) (hr1 : Kd.C k26 w A1 l1.length l1) (hc1 : l1.length ≤ c1) (h : fleuronref15_Input.f k a0 l1 = some r) :
    Calls Try.prog 9 #[.int .i64 a0, .slice A1 l1.length c1] w fun e w' => e = .returned (.int .i64 r) ∧ Drawn0 w w' := by
  have HR1 := Aside0.mk hr1
  have HC1 := Aside0.mk hc1
  clear hr1 hc1
  have H : (if a0 > 65536 then (some 3) else (if (l1.length : Int) = 0 then (fleuronref15_Input.j0 k l1 true) else (fleuronref15_Input.j0 k l1 (decide ((l1.length : Int) > 1000))))) = some r := h
  clear h
  by_cases c3 : a0 > 65536
  · rw [if_pos c3] at H
    have c3b0 : decide (65536 < a0) = true := decide_eq_true c3
    clear c3
    obtain rfl := Option.some.inj H
    go_enter Try.func9, Try.ntmps9
    go_wp2
    go_ret
    exact ⟨by first | rfl | (simp; done) | (simp [*]; done), by repeat (first | exact Drawn0.refl _ | apply Drawn0.step)⟩
  · rw [if_neg c3] at H
    have c3b0 : decide (65536 < a0) = false := decide_eq_false c3
    clear c3
    have HC4 := Aside0.mk H
    clear H
    go_enter Try.func9, Try.ntmps9
    go_upto_region 3 with (fail)
    go_cut [16] (fun v16 wc => ∃ (kq : Nat) (x16_3 : Bool), v16 = .bool x16_3 ∧ Aside0 (fleuronref15_Input.j0 kq l1 x16_3 = some r) ∧ Aside0 (kq ≤ k) ∧ Drawn0 w wc)
    case first =>
      have H := HC4.out
      clear HC4
      by_cases c5 : (l1.length : Int) = 0
      · rw [if_pos c5] at H
        have c5b0 : ((l1.length : Int) == 0) = true := beq_iff_eq.mpr c5
        have c5b1 : ((l1.length : Int) != 0) = false := bne_eq_false_iff_eq.mpr c5
        clear c5
        (first | rw [c5b0] | (simp only [i64_w, i32_w]; rw [c5b0]) | skip)
        have H' := Aside0.mk H
        clear H
        go_wp2
        go_meet
        case rel => exact ⟨_, (true), (by first | rfl | (simp; done) | (simp [*]; done)), H', ⟨by first | omega | exact Nat.le_refl _⟩, by repeat (first | exact Drawn0.refl _ | apply Drawn0.step)⟩
      · rw [if_neg c5] at H
        have c5b0 : ((l1.length : Int) == 0) = false := beq_eq_false_iff_ne.mpr c5
        have c5b1 : ((l1.length : Int) != 0) = true := bne_iff_ne.mpr c5
        have c5b2 : ¬ (l1 = []) := fun h_ => c5 (by rw [h_]; rfl)
        (first | rw [c5b0] | (simp only [i64_w, i32_w]; rw [c5b0]) | skip)
        have H' := Aside0.mk H
        clear H
        go_wp2
        go_meet
        case rel => exact ⟨_, (decide ((l1.length : Int) > 1000)), (by first | rfl | (simp; done) | (simp [*]; done)), H', ⟨by first | omega | exact Nat.le_refl _⟩, by repeat (first | exact Drawn0.refl _ | apply Drawn0.step)⟩
    case rest =>
      clear HC4
      try clear c1
      try clear p2
      try clear c3
      try clear c3b0
      try clear c5
      try clear c5b0
      try clear c5b1
      try clear c5b2
      obtain ⟨kq, x16_3, rfl, HA, HJ3, ⟨mc3, rfl⟩⟩ := hcut
      cases kq with
      | zero => exact absurd HA.out (by simp [fleuronref15_Input.j0])
      | succ kj3 =>
        have H := HA.out
        clear HA
        simp only [fleuronref15_Input.j0] at H
        by_cases c6 : x16_3 = true
        · subst c6
          have H1 : (some 4) = some r := by rw [if_pos rfl] at H; exact H
          clear H
          have H := H1
          clear H1
          obtain rfl := Option.some.inj H
          go_wp2
          go_ret
          exact ⟨by first | rfl | (simp; done) | (simp [*]; done), by repeat (first | exact Drawn0.refl _ | apply Drawn0.step)⟩
        · replace c6 := Bool.eq_false_iff.mpr c6
          subst c6
          have H1 : (fleuronref15_Input.l0 kj3 l1 0) = some r := by rw [if_neg (show ¬ (false = true) by decide)] at H; exact H
          clear H
          have H := H1
          clear H1
          have H' := Aside0.mk H
          clear H
          go_wp2
          go_loopg [5] kj3 (fun kq v5 w' => ∃ (x5_2 : Int), v5 = .int .i64 x5_2 ∧ Aside0 (fleuronref15_Input.l0 kq l1 x5_2 = some r) ∧ Aside0 (kq ≤ kj3) ∧ Drawn0 w w')
          case atStart => exact ⟨(0), (by first | rfl | (simp; done) | (simp [*]; done)), H', ⟨Nat.le_refl _⟩, by repeat (first | exact Drawn0.refl _ | apply Drawn0.step)⟩
          case round =>
            clear H'
            try clear c1
            try clear p2
            try clear c3
            try clear c3b0
            try clear c5
            try clear c5b0
            try clear c5b1
            try clear c5b2
            try clear c6
            try clear p2
            obtain ⟨x5_2, rfl, HA, HK2, ⟨m2, rfl⟩⟩ := hrel
            cases gk with
            | zero => exact absurd HA.out (by simp [fleuronref15_Input.l0])
            | succ k2 =>
              have H := HA.out
              clear HA
              simp only [fleuronref15_Input.l0] at H
              by_cases c7 : x5_2 < (l1.length : Int)
              · rw [if_pos c7] at H
                have c7b0 : decide (x5_2 < (l1.length : Int)) = true := decide_eq_true c7
                clear c7
                have HC8 := Aside0.mk H
                clear H
                go_upto_region 8 with (fail)
                go_cut [47] (fun v47 wc => ∃ (kq : Nat) (x47_7 : Bool), v47 = .bool x47_7 ∧ Aside0 (fleuronref15_Input.j2 kq l1 x5_2 x47_7 = some r) ∧ Aside0 (kq ≤ k2) ∧ Drawn0 w wc)
                case first =>
                  have H := HC8.out
                  clear HC8
                  by_cases c9 : 0 ≤ x5_2
                  · rw [if_pos c9] at H
                    have c9b0 : decide (0 ≤ x5_2) = true := decide_eq_true c9
                    clear c9
                    (first | rw [c9b0] | (simp only [i64_w, i32_w]; rw [c9b0]) | skip)
                    by_cases c10 : (((rd_T26 l1 x5_2).f1).size : Int) > 10000
                    · rw [if_pos c10] at H
                      have c10b0 : decide (10000 < (((rd_T26 l1 x5_2).f1).size : Int)) = true := decide_eq_true c10
                      have c10b1 : decide (10000 < ((rd_T26 l1 x5_2).f1).size) = true := decide_eq_true (by omega)
                      clear c10
                      have H' := Aside0.mk H
                      clear H
                      have p126 : 0 ≤ (x5_2 : Int) := of_decide_eq_true (by first | (with_reducible assumption) | assumption)
                      have q126 : x5_2 < (l1.length : Int) := of_decide_eq_true (by first | (with_reducible assumption) | assumption)
                      obtain ⟨ad126, A126_3, c126_3, e126, hx126_0, hx126_1, hx126_2, hx126_3, hl126_3, hi126_3⟩ := at_T26 HR1.out x5_2 p126 q126
                      cases e126
                      have HR126_3 := Aside0.mk hi126_3
                      have HC126_3 := Aside0.mk hl126_3
                      clear hi126_3 hl126_3
                      replace p126 := eq_true p126
                      replace q126 := eq_true q126
                      go_wp2
                      go_meet
                      case rel => exact ⟨_, (true), (by first | rfl | (simp; done) | (simp [*]; done)), H', ⟨by have := HJ3.out; have := HK2.out; first | omega | exact Nat.le_refl _⟩, by repeat (first | exact Drawn0.refl _ | apply Drawn0.step)⟩
                    · rw [if_neg c10] at H
                      have c10b0 : decide (10000 < (((rd_T26 l1 x5_2).f1).size : Int)) = false := decide_eq_false c10
                      have c10b1 : decide (10000 < ((rd_T26 l1 x5_2).f1).size) = false := decide_eq_false (by omega)
                      clear c10
                      by_cases c11 : (((rd_T26 l1 x5_2).f2).size : Int) > 10000
                      · rw [if_pos c11] at H
                        have c11b0 : decide (10000 < (((rd_T26 l1 x5_2).f2).size : Int)) = true := decide_eq_true c11
                        have c11b1 : decide (10000 < ((rd_T26 l1 x5_2).f2).size) = true := decide_eq_true (by omega)
                        clear c11
                        have H' := Aside0.mk H
                        clear H
                        have p126 : 0 ≤ (x5_2 : Int) := of_decide_eq_true (by first | (with_reducible assumption) | assumption)
                        have q126 : x5_2 < (l1.length : Int) := of_decide_eq_true (by first | (with_reducible assumption) | assumption)
                        obtain ⟨ad126, A126_3, c126_3, e126, hx126_0, hx126_1, hx126_2, hx126_3, hl126_3, hi126_3⟩ := at_T26 HR1.out x5_2 p126 q126
                        cases e126
                        have HR126_3 := Aside0.mk hi126_3
                        have HC126_3 := Aside0.mk hl126_3
                        clear hi126_3 hl126_3
                        replace p126 := eq_true p126
                        replace q126 := eq_true q126
                        have p127 : 0 ≤ (x5_2 : Int) := of_decide_eq_true (by first | (with_reducible assumption) | assumption)
                        have q127 : x5_2 < (l1.length : Int) := of_decide_eq_true (by first | (with_reducible assumption) | assumption)
                        obtain ⟨ad127, A127_3, c127_3, e127, hx127_0, hx127_1, hx127_2, hx127_3, hl127_3, hi127_3⟩ := at_T26 HR1.out x5_2 p127 q127
                        obtain rfl : ad126 = ad127 := (by injection e127)
                        have HR127_3 := Aside0.mk hi127_3
                        have HC127_3 := Aside0.mk hl127_3
                        clear hi127_3 hl127_3
                        replace p127 := eq_true p127
                        replace q127 := eq_true q127
                        have ea_ := Option.some.inj (hx126_3.symm.trans hx127_3)
                        injection ea_ with ea_ en_ ec_
                        subst ea_
                        subst ec_
                        clear en_
                        go_wp2
                        go_meet
                        case rel => exact ⟨_, (true), (by first | rfl | (simp; done) | (simp [*]; done)), H', ⟨by have := HJ3.out; have := HK2.out; first | omega | exact Nat.le_refl _⟩, by repeat (first | exact Drawn0.refl _ | apply Drawn0.step)⟩
                      · rw [if_neg c11] at H
                        have c11b0 : decide (10000 < (((rd_T26 l1 x5_2).f2).size : Int)) = false := decide_eq_false c11
                        have c11b1 : decide (10000 < ((rd_T26 l1 x5_2).f2).size) = false := decide_eq_false (by omega)
                        clear c11
                        have H' := Aside0.mk H
                        clear H
                        have p126 : 0 ≤ (x5_2 : Int) := of_decide_eq_true (by first | (with_reducible assumption) | assumption)
                        have q126 : x5_2 < (l1.length : Int) := of_decide_eq_true (by first | (with_reducible assumption) | assumption)
                        obtain ⟨ad126, A126_3, c126_3, e126, hx126_0, hx126_1, hx126_2, hx126_3, hl126_3, hi126_3⟩ := at_T26 HR1.out x5_2 p126 q126
                        cases e126
                        have HR126_3 := Aside0.mk hi126_3
                        have HC126_3 := Aside0.mk hl126_3
                        clear hi126_3 hl126_3
                        replace p126 := eq_true p126
                        replace q126 := eq_true q126
                        have p127 : 0 ≤ (x5_2 : Int) := of_decide_eq_true (by first | (with_reducible assumption) | assumption)
                        have q127 : x5_2 < (l1.length : Int) := of_decide_eq_true (by first | (with_reducible assumption) | assumption)
                        obtain ⟨ad127, A127_3, c127_3, e127, hx127_0, hx127_1, hx127_2, hx127_3, hl127_3, hi127_3⟩ := at_T26 HR1.out x5_2 p127 q127
                        obtain rfl : ad126 = ad127 := (by injection e127)
                        have HR127_3 := Aside0.mk hi127_3
                        have HC127_3 := Aside0.mk hl127_3
                        clear hi127_3 hl127_3
                        replace p127 := eq_true p127
                        replace q127 := eq_true q127
                        have ea_ := Option.some.inj (hx126_3.symm.trans hx127_3)
                        injection ea_ with ea_ en_ ec_
                        subst ea_
                        subst ec_
                        clear en_
                        have p128 : 0 ≤ (x5_2 : Int) := of_decide_eq_true (by first | (with_reducible assumption) | assumption)
                        have q128 : x5_2 < (l1.length : Int) := of_decide_eq_true (by first | (with_reducible assumption) | assumption)
                        obtain ⟨ad128, A128_3, c128_3, e128, hx128_0, hx128_1, hx128_2, hx128_3, hl128_3, hi128_3⟩ := at_T26 HR1.out x5_2 p128 q128
                        obtain rfl : ad126 = ad128 := (by injection e128)
                        have HR128_3 := Aside0.mk hi128_3
                        have HC128_3 := Aside0.mk hl128_3
                        clear hi128_3 hl128_3
                        replace p128 := eq_true p128
                        replace q128 := eq_true q128
                        have ea_ := Option.some.inj (hx126_3.symm.trans hx128_3)
                        injection ea_ with ea_ en_ ec_
                        subst ea_
                        subst ec_
                        clear en_
                        go_wp2
                        go_meet
                        case rel => exact ⟨_, (decide ((((rd_T26 l1 x5_2).f3).length : Int) > 64)), (by first | rfl | (simp; done) | (simp [*]; done)), H', ⟨by have := HJ3.out; have := HK2.out; first | omega | exact Nat.le_refl _⟩, by repeat (first | exact Drawn0.refl _ | apply Drawn0.step)⟩
                  · rw [if_neg c9] at H
                    exact absurd H (by simp)
                case rest =>
                  clear HC8
                  try clear c1
                  try clear p1
                  try clear q1
                  try clear hx1
                  try clear p2
                  try clear c3
                  try clear c3b0
                  try clear c5
                  try clear c5b0
                  try clear c5b1
                  try clear c5b2
                  try clear c6
                  try clear c7
                  try clear c7b0
                  try clear c9
                  try clear c9b0
                  try clear c10
                  try clear c10b0
                  try clear c10b1
                  try clear c11
                  try clear c11b0
                  try clear c11b1
                  try clear hx126_0
                  try clear hx126_1
                  try clear hx126_2
                  try clear hx126_3
                  try clear hx127_0
                  try clear hx127_1
                  try clear hx127_2
                  try clear hx127_3
                  try clear hx128_0
                  try clear hx128_1
                  try clear hx128_2
                  try clear hx128_3
                  try clear p126
                  try clear p127
                  try clear p128
                  try clear p2
                  try clear q126
                  try clear q127
                  try clear q128
                  obtain ⟨kq, x47_7, rfl, HA, HJ7, ⟨mc7, rfl⟩⟩ := hcut
                  cases kq with
                  | zero => exact absurd HA.out (by simp [fleuronref15_Input.j2])
                  | succ kj7 =>
                    have H := HA.out
                    clear HA
                    simp only [fleuronref15_Input.j2] at H
                    by_cases c12 : x47_7 = true
                    · subst c12
                      have H1 : (some 4) = some r := by rw [if_pos rfl] at H; exact H
                      clear H
                      have H := H1
                      clear H1
                      obtain rfl := Option.some.inj H
                      go_wp2
                      go_ret
                      exact ⟨by first | rfl | (simp; done) | (simp [*]; done), by repeat (first | exact Drawn0.refl _ | apply Drawn0.step)⟩
                    · replace c12 := Bool.eq_false_iff.mpr c12
                      subst c12
                      have H1 : (fleuronref15_Input.l1 kj7 l1 x5_2 0) = some r := by rw [if_neg (show ¬ (false = true) by decide)] at H; exact H
                      clear H
                      have H := H1
                      clear H1
                      have H' := Aside0.mk H
                      clear H
                      go_wp2
                      go_loopg [6] kj7 (fun kq v6 w' => ∃ (x6_4 : Int), v6 = .int .i64 x6_4 ∧ Aside0 (fleuronref15_Input.l1 kq l1 x5_2 x6_4 = some r) ∧ Aside0 (kq ≤ kj7) ∧ Drawn0 w w')
                      case atStart => exact ⟨(0), (by first | rfl | (simp; done) | (simp [*]; done)), H', ⟨Nat.le_refl _⟩, by repeat (first | exact Drawn0.refl _ | apply Drawn0.step)⟩
                      case round =>
                        clear H'
                        try clear c1
                        try clear p1
                        try clear q1
                        try clear hx1
                        try clear p2
                        try clear c3
                        try clear c3b0
                        try clear c5
                        try clear c5b0
                        try clear c5b1
                        try clear c5b2
                        try clear c6
                        try clear c7
                        try clear c7b0
                        try clear c9
                        try clear c9b0
                        try clear c10
                        try clear c10b0
                        try clear c10b1
                        try clear c11
                        try clear c11b0
                        try clear c11b1
                        try clear c12
                        try clear p12
                        try clear q12
                        try clear hx12
                        try clear hx126_0
                        try clear hx126_1
                        try clear hx126_2
                        try clear hx126_3
                        try clear hx127_0
                        try clear hx127_1
                        try clear hx127_2
                        try clear hx127_3
                        try clear hx128_0
                        try clear hx128_1
                        try clear hx128_2
                        try clear hx128_3
                        try clear p1
                        try clear p126
                        try clear p127
                        try clear p128
                        try clear p2
                        try clear q1
                        try clear q126
                        try clear q127
                        try clear q128
                        obtain ⟨x6_4, rfl, HA, HK4, ⟨m4, rfl⟩⟩ := hrel
                        cases gk with
                        | zero => exact absurd HA.out (by simp [fleuronref15_Input.l1])
                        | succ k4 =>
                          have H := HA.out
                          clear HA
                          simp only [fleuronref15_Input.l1] at H
                          by_cases c13 : 0 ≤ x5_2
                          · rw [if_pos c13] at H
                            have c13b0 : decide (0 ≤ x5_2) = true := decide_eq_true c13
                            clear c13
                            by_cases c14 : x5_2 < (l1.length : Int)
                            · rw [if_pos c14] at H
                              have c14b0 : decide (x5_2 < (l1.length : Int)) = true := decide_eq_true c14
                              clear c14
                              by_cases c15 : x6_4 < (((rd_T26 l1 x5_2).f3).length : Int)
                              · rw [if_pos c15] at H
                                have c15b0 : decide (x6_4 < (((rd_T26 l1 x5_2).f3).length : Int)) = true := decide_eq_true c15
                                clear c15
                                by_cases c16 : 0 ≤ x6_4
                                · rw [if_pos c16] at H
                                  have c16b0 : decide (0 ≤ x6_4) = true := decide_eq_true c16
                                  clear c16
                                  by_cases c17 : (((rd_T30 ((rd_T26 l1 x5_2).f3) x6_4).f0).size : Int) > 10000
                                  · rw [if_pos c17] at H
                                    have c17b0 : decide (10000 < (((rd_T30 ((rd_T26 l1 x5_2).f3) x6_4).f0).size : Int)) = true := decide_eq_true c17
                                    have c17b1 : decide (10000 < ((rd_T30 ((rd_T26 l1 x5_2).f3) x6_4).f0).size) = true := decide_eq_true (by omega)
                                    clear c17
                                    obtain rfl := Option.some.inj H
                                    have p129 : 0 ≤ (x5_2 : Int) := of_decide_eq_true (by first | (with_reducible assumption) | assumption)
                                    have q129 : x5_2 < (l1.length : Int) := of_decide_eq_true (by first | (with_reducible assumption) | assumption)
                                    obtain ⟨ad129, A129_3, c129_3, e129, hx129_0, hx129_1, hx129_2, hx129_3, hl129_3, hi129_3⟩ := at_T26 HR1.out x5_2 p129 q129
                                    cases e129
                                    have HR129_3 := Aside0.mk hi129_3
                                    have HC129_3 := Aside0.mk hl129_3
                                    clear hi129_3 hl129_3
                                    replace p129 := eq_true p129
                                    replace q129 := eq_true q129
                                    have p130 : 0 ≤ (x5_2 : Int) := of_decide_eq_true (by first | (with_reducible assumption) | assumption)
                                    have q130 : x5_2 < (l1.length : Int) := of_decide_eq_true (by first | (with_reducible assumption) | assumption)
                                    obtain ⟨ad130, A130_3, c130_3, e130, hx130_0, hx130_1, hx130_2, hx130_3, hl130_3, hi130_3⟩ := at_T26 HR1.out x5_2 p130 q130
                                    obtain rfl : ad129 = ad130 := (by injection e130)
                                    have HR130_3 := Aside0.mk hi130_3
                                    have HC130_3 := Aside0.mk hl130_3
                                    clear hi130_3 hl130_3
                                    replace p130 := eq_true p130
                                    replace q130 := eq_true q130
                                    have ea_ := Option.some.inj (hx129_3.symm.trans hx130_3)
                                    injection ea_ with ea_ en_ ec_
                                    subst ea_
                                    subst ec_
                                    clear en_
                                    have p131 : 0 ≤ (x6_4 : Int) := of_decide_eq_true (by first | (with_reducible assumption) | assumption)
                                    have q131 : x6_4 < (((rd_T26 l1 x5_2).f3).length : Int) := of_decide_eq_true (by first | (with_reducible assumption) | assumption)
                                    obtain ⟨ad131, e131, hx131_0, hx131_1⟩ := at_T30 HR130_3.out x6_4 p131 q131
                                    cases e131
                                    replace p131 := eq_true p131
                                    replace q131 := eq_true q131
                                    go_wp2
                                    go_ret
                                    exact ⟨by first | rfl | (simp; done) | (simp [*]; done), by repeat (first | exact Drawn0.refl _ | apply Drawn0.step)⟩
                                  · rw [if_neg c17] at H
                                    have c17b0 : decide (10000 < (((rd_T30 ((rd_T26 l1 x5_2).f3) x6_4).f0).size : Int)) = false := decide_eq_false c17
                                    have c17b1 : decide (10000 < ((rd_T30 ((rd_T26 l1 x5_2).f3) x6_4).f0).size) = false := decide_eq_false (by omega)
                                    clear c17
                                    by_cases c18 : (((rd_T30 ((rd_T26 l1 x5_2).f3) x6_4).f1).size : Int) > 10000
                                    · rw [if_pos c18] at H
                                      have c18b0 : decide (10000 < (((rd_T30 ((rd_T26 l1 x5_2).f3) x6_4).f1).size : Int)) = true := decide_eq_true c18
                                      have c18b1 : decide (10000 < ((rd_T30 ((rd_T26 l1 x5_2).f3) x6_4).f1).size) = true := decide_eq_true (by omega)
                                      clear c18
                                      obtain rfl := Option.some.inj H
                                      have p129 : 0 ≤ (x5_2 : Int) := of_decide_eq_true (by first | (with_reducible assumption) | assumption)
                                      have q129 : x5_2 < (l1.length : Int) := of_decide_eq_true (by first | (with_reducible assumption) | assumption)
                                      obtain ⟨ad129, A129_3, c129_3, e129, hx129_0, hx129_1, hx129_2, hx129_3, hl129_3, hi129_3⟩ := at_T26 HR1.out x5_2 p129 q129
                                      cases e129
                                      have HR129_3 := Aside0.mk hi129_3
                                      have HC129_3 := Aside0.mk hl129_3
                                      clear hi129_3 hl129_3
                                      replace p129 := eq_true p129
                                      replace q129 := eq_true q129
                                      have p130 : 0 ≤ (x5_2 : Int) := of_decide_eq_true (by first | (with_reducible assumption) | assumption)
                                      have q130 : x5_2 < (l1.length : Int) := of_decide_eq_true (by first | (with_reducible assumption) | assumption)
                                      obtain ⟨ad130, A130_3, c130_3, e130, hx130_0, hx130_1, hx130_2, hx130_3, hl130_3, hi130_3⟩ := at_T26 HR1.out x5_2 p130 q130
                                      obtain rfl : ad129 = ad130 := (by injection e130)
                                      have HR130_3 := Aside0.mk hi130_3
                                      have HC130_3 := Aside0.mk hl130_3
                                      clear hi130_3 hl130_3
                                      replace p130 := eq_true p130
                                      replace q130 := eq_true q130
                                      have ea_ := Option.some.inj (hx129_3.symm.trans hx130_3)
                                      injection ea_ with ea_ en_ ec_
                                      subst ea_
                                      subst ec_
                                      clear en_
                                      have p131 : 0 ≤ (x6_4 : Int) := of_decide_eq_true (by first | (with_reducible assumption) | assumption)
                                      have q131 : x6_4 < (((rd_T26 l1 x5_2).f3).length : Int) := of_decide_eq_true (by first | (with_reducible assumption) | assumption)
                                      obtain ⟨ad131, e131, hx131_0, hx131_1⟩ := at_T30 HR130_3.out x6_4 p131 q131
                                      cases e131
                                      replace p131 := eq_true p131
                                      replace q131 := eq_true q131
                                      have p132 : 0 ≤ (x5_2 : Int) := of_decide_eq_true (by first | (with_reducible assumption) | assumption)
                                      have q132 : x5_2 < (l1.length : Int) := of_decide_eq_true (by first | (with_reducible assumption) | assumption)
                                      obtain ⟨ad132, A132_3, c132_3, e132, hx132_0, hx132_1, hx132_2, hx132_3, hl132_3, hi132_3⟩ := at_T26 HR1.out x5_2 p132 q132
                                      obtain rfl : ad129 = ad132 := (by injection e132)
                                      have HR132_3 := Aside0.mk hi132_3
                                      have HC132_3 := Aside0.mk hl132_3
                                      clear hi132_3 hl132_3
                                      replace p132 := eq_true p132
                                      replace q132 := eq_true q132
                                      have ea_ := Option.some.inj (hx129_3.symm.trans hx132_3)
                                      injection ea_ with ea_ en_ ec_
                                      subst ea_
                                      subst ec_
                                      clear en_
                                      have p133 : 0 ≤ (x6_4 : Int) := of_decide_eq_true (by first | (with_reducible assumption) | assumption)
                                      have q133 : x6_4 < (((rd_T26 l1 x5_2).f3).length : Int) := of_decide_eq_true (by first | (with_reducible assumption) | assumption)
                                      obtain ⟨ad133, e133, hx133_0, hx133_1⟩ := at_T30 HR132_3.out x6_4 p133 q133
                                      cases e133
                                      replace p133 := eq_true p133
                                      replace q133 := eq_true q133
                                      go_wp2
                                      go_ret
                                      exact ⟨by first | rfl | (simp; done) | (simp [*]; done), by repeat (first | exact Drawn0.refl _ | apply Drawn0.step)⟩
                                    · rw [if_neg c18] at H
                                      have c18b0 : decide (10000 < (((rd_T30 ((rd_T26 l1 x5_2).f3) x6_4).f1).size : Int)) = false := decide_eq_false c18
                                      have c18b1 : decide (10000 < ((rd_T30 ((rd_T26 l1 x5_2).f3) x6_4).f1).size) = false := decide_eq_false (by omega)
                                      clear c18
                                      have H' := Aside0.mk H
                                      clear H
                                      have p129 : 0 ≤ (x5_2 : Int) := of_decide_eq_true (by first | (with_reducible assumption) | assumption)
                                      have q129 : x5_2 < (l1.length : Int) := of_decide_eq_true (by first | (with_reducible assumption) | assumption)
                                      obtain ⟨ad129, A129_3, c129_3, e129, hx129_0, hx129_1, hx129_2, hx129_3, hl129_3, hi129_3⟩ := at_T26 HR1.out x5_2 p129 q129
                                      cases e129
                                      have HR129_3 := Aside0.mk hi129_3
                                      have HC129_3 := Aside0.mk hl129_3
                                      clear hi129_3 hl129_3
                                      replace p129 := eq_true p129
                                      replace q129 := eq_true q129
                                      have p130 : 0 ≤ (x5_2 : Int) := of_decide_eq_true (by first | (with_reducible assumption) | assumption)
                                      have q130 : x5_2 < (l1.length : Int) := of_decide_eq_true (by first | (with_reducible assumption) | assumption)
                                      obtain ⟨ad130, A130_3, c130_3, e130, hx130_0, hx130_1, hx130_2, hx130_3, hl130_3, hi130_3⟩ := at_T26 HR1.out x5_2 p130 q130
                                      obtain rfl : ad129 = ad130 := (by injection e130)
                                      have HR130_3 := Aside0.mk hi130_3
                                      have HC130_3 := Aside0.mk hl130_3
                                      clear hi130_3 hl130_3
                                      replace p130 := eq_true p130
                                      replace q130 := eq_true q130
                                      have ea_ := Option.some.inj (hx129_3.symm.trans hx130_3)
                                      injection ea_ with ea_ en_ ec_
                                      subst ea_
                                      subst ec_
                                      clear en_
                                      have p131 : 0 ≤ (x6_4 : Int) := of_decide_eq_true (by first | (with_reducible assumption) | assumption)
                                      have q131 : x6_4 < (((rd_T26 l1 x5_2).f3).length : Int) := of_decide_eq_true (by first | (with_reducible assumption) | assumption)
                                      obtain ⟨ad131, e131, hx131_0, hx131_1⟩ := at_T30 HR130_3.out x6_4 p131 q131
                                      cases e131
                                      replace p131 := eq_true p131
                                      replace q131 := eq_true q131
                                      have p132 : 0 ≤ (x5_2 : Int) := of_decide_eq_true (by first | (with_reducible assumption) | assumption)
                                      have q132 : x5_2 < (l1.length : Int) := of_decide_eq_true (by first | (with_reducible assumption) | assumption)
                                      obtain ⟨ad132, A132_3, c132_3, e132, hx132_0, hx132_1, hx132_2, hx132_3, hl132_3, hi132_3⟩ := at_T26 HR1.out x5_2 p132 q132
                                      obtain rfl : ad129 = ad132 := (by injection e132)
                                      have HR132_3 := Aside0.mk hi132_3
                                      have HC132_3 := Aside0.mk hl132_3
                                      clear hi132_3 hl132_3
                                      replace p132 := eq_true p132
                                      replace q132 := eq_true q132
                                      have ea_ := Option.some.inj (hx129_3.symm.trans hx132_3)
                                      injection ea_ with ea_ en_ ec_
                                      subst ea_
                                      subst ec_
                                      clear en_
                                      have p133 : 0 ≤ (x6_4 : Int) := of_decide_eq_true (by first | (with_reducible assumption) | assumption)
                                      have q133 : x6_4 < (((rd_T26 l1 x5_2).f3).length : Int) := of_decide_eq_true (by first | (with_reducible assumption) | assumption)
                                      obtain ⟨ad133, e133, hx133_0, hx133_1⟩ := at_T30 HR132_3.out x6_4 p133 q133
                                      cases e133
                                      replace p133 := eq_true p133
                                      replace q133 := eq_true q133
                                      go_wp2
                                      go_roundg k4
                                      case measure => have := HJ3.out; have := HK2.out; have := HJ7.out; have := HK4.out; omega
                                      case rel => exact ⟨(wrap64 (x6_4 + 1)), (by first | rfl | (simp; done) | (simp [*]; done)), H', ⟨by have := HJ3.out; have := HK2.out; have := HJ7.out; have := HK4.out; omega⟩, by repeat (first | exact Drawn0.refl _ | apply Drawn0.step)⟩
                                · rw [if_neg c16] at H
                                  exact absurd H (by simp)
                              · rw [if_neg c15] at H
                                have c15b0 : decide (x6_4 < (((rd_T26 l1 x5_2).f3).length : Int)) = false := decide_eq_false c15
                                clear c15
                                have H' := Aside0.mk H
                                clear H
                                have p129 : 0 ≤ (x5_2 : Int) := of_decide_eq_true (by first | (with_reducible assumption) | assumption)
                                have q129 : x5_2 < (l1.length : Int) := of_decide_eq_true (by first | (with_reducible assumption) | assumption)
                                obtain ⟨ad129, A129_3, c129_3, e129, hx129_0, hx129_1, hx129_2, hx129_3, hl129_3, hi129_3⟩ := at_T26 HR1.out x5_2 p129 q129
                                cases e129
                                have HR129_3 := Aside0.mk hi129_3
                                have HC129_3 := Aside0.mk hl129_3
                                clear hi129_3 hl129_3
                                replace p129 := eq_true p129
                                replace q129 := eq_true q129
                                go_wp2
                                go_roundg k4
                                case measure => have := HJ3.out; have := HK2.out; have := HJ7.out; have := HK4.out; omega
                                case rel => exact ⟨(wrap64 (x5_2 + 1)), (by first | rfl | (simp; done) | (simp [*]; done)), H', ⟨by have := HJ3.out; have := HK2.out; have := HJ7.out; have := HK4.out; omega⟩, by repeat (first | exact Drawn0.refl _ | apply Drawn0.step)⟩
                            · rw [if_neg c14] at H
                              exact absurd H (by simp)
                          · rw [if_neg c13] at H
                            exact absurd H (by simp)
              · rw [if_neg c7] at H
                have c7b0 : decide (x5_2 < (l1.length : Int)) = false := decide_eq_false c7
                clear c7
                obtain rfl := Option.some.inj H
                go_wp2
                go_ret
                exact ⟨by first | rfl | (simp; done) | (simp [*]; done), by repeat (first | exact Drawn0.refl _ | apply Drawn0.step)⟩

end Go.Proofs.Ytmadmnbaefifiaa.Print
