/- Written by a program of this session out of the translation, with contracts given by hand beside. -/
import Derived.Test.YtohnoohnppeooaaPrint0
import Derived.Test.YtohnoohnppeooaaPrint1
import Derived.Test.YtohnoohnppeooaaPrint2
import Derived.Test.YtohnoohnppeooaaPrint3
import Derived.Test.YtohnoohnppeooaaPrint4
import Derived.Test.YtohnoohnppeooaaPrint7
namespace Go.Proofs.Ytohnoohnppeooaa.Print
open Go.RowKit Go.Proofs.YtohnoohnppeooaaW.PrintWords Go.Proofs.YtohnoohnppeooaaW.PrintLast Go.Proofs.YtohnoohnppeooaaW.PrintMore
attribute [local go_sem] max2_int min2_int max_two min_two max_three min_three max_four min_four   -- for this text's walks alone
set_option linter.unusedVariables false
set_option linter.unusedSimpArgs false

/-! ### fleuronlaw1_awake: function 8 -/
def fleuronlaw1_awake.f (k : Nat)  : Option (Bool) := (points_Hex.f k 70).bind fun bt106 => ((points_Hex.f k 103).bind fun bt108 => ((points_Read.f (([97, 13, 10, 98, 0, 255] : List Int))).bind fun t113 => ((fleuronlaw1_same.f k t113 (([97, 10, 98, 65533, 65533] : List Int))).bind fun t119 => (if t119 = true then ((points_Put.f 8226).bind fun t120 => (if t120.toList = ([226, 128, 162] : List UInt8) then ((points_Letter.f 95).bind fun t121 => (if t121 = true then ((points_Letter.f 45).bind fun t122 => (if t122 = true then (some false) else ((points_Name.f 45).bind fun t123 => (if t123 = true then ((points_Digit.f 55).bind fun t124 => (if t124 = true then (if bt106.1 = 15 then (if bt106.2 = true then (if bt108.2 = true then (some false) else ((points_White.f 9).bind fun t125 => (if t125 = true then ((points_White.f 13).bind fun t126 => (if t126 = true then (some false) else ((points_Lower.f (⟨#[65, 98, 195, 132]⟩ : ByteArray)).bind fun t127 => (some (t127.toList == ([97, 98, 195, 132] : List UInt8)))))) else (some false)))) else (some false)) else (some false)) else (some false))) else (some false))))) else (some false))) else (some false))) else (some false)))))
theorem fleuronlaw1_awake.mono : ∀ k, LeO (fleuronlaw1_awake.f k ) (fleuronlaw1_awake.f (k + 1) ) := by
  intro  k
  unfold fleuronlaw1_awake.f
  repeat' first
      | (with_reducible exact fleuronlaw1_same.mono _ _ _)
      | (with_reducible exact points_Hex.mono _ _)
      | (with_reducible exact LeO.refl _)
      | (with_reducible exact LeO.none _)
      | (with_reducible refine LeO.ite ?_ ?_)
      | (with_reducible refine LeO.bind ?_ (fun _ => ?_))
      | exact fleuronlaw1_same.mono _ _ _
      | exact points_Hex.mono _ _
      | exact LeO.none _
      | refine LeO.ite ?_ ?_
      | refine LeO.bind ?_ (fun _ => ?_)
set_option maxHeartbeats 8000000 in
set_option maxRecDepth 100000 in
theorem fleuronlaw1_awake.calls (k : Nat)  (r : Bool) (w : World) (h : fleuronlaw1_awake.f k  = some r) (ht0_ : r = true) :
    Calls Try.prog 8 #[] w fun e w' => e = .returned (.bool r) ∧ Below w.heap.size w w' := by
  have HB := Aside0.mk (Below.refl w.heap.size w)
  have H : ((points_Hex.f k 70).bind fun bt106 => ((points_Hex.f k 103).bind fun bt108 => ((points_Read.f (([97, 13, 10, 98, 0, 255] : List Int))).bind fun t113 => ((fleuronlaw1_same.f k t113 (([97, 10, 98, 65533, 65533] : List Int))).bind fun t119 => (if t119 = true then ((points_Put.f 8226).bind fun t120 => (if t120.toList = ([226, 128, 162] : List UInt8) then ((points_Letter.f 95).bind fun t121 => (if t121 = true then ((points_Letter.f 45).bind fun t122 => (if t122 = true then (some false) else ((points_Name.f 45).bind fun t123 => (if t123 = true then ((points_Digit.f 55).bind fun t124 => (if t124 = true then (if bt106.1 = 15 then (if bt106.2 = true then (if bt108.2 = true then (some false) else ((points_White.f 9).bind fun t125 => (if t125 = true then ((points_White.f 13).bind fun t126 => (if t126 = true then (some false) else ((points_Lower.f (⟨#[65, 98, 195, 132]⟩ : ByteArray)).bind fun t127 => (some (t127.toList == ([97, 98, 195, 132] : List UInt8)))))) else (some false)))) else (some false)) else (some false)) else (some false))) else (some false))))) else (some false))) else (some false))) else (some false)))))) = some r := h
  clear h
  have ht_ := Aside0.mk ht0_
  clear ht0_
  replace H := Option.bind_eq_some_iff.mp H
  obtain ⟨⟨t106, t107⟩, A10, H⟩ := H
  replace H : ((points_Hex.f k 103).bind fun bt108 => ((points_Read.f (([97, 13, 10, 98, 0, 255] : List Int))).bind fun t113 => ((fleuronlaw1_same.f k t113 (([97, 10, 98, 65533, 65533] : List Int))).bind fun t119 => (if t119 = true then ((points_Put.f 8226).bind fun t120 => (if t120.toList = ([226, 128, 162] : List UInt8) then ((points_Letter.f 95).bind fun t121 => (if t121 = true then ((points_Letter.f 45).bind fun t122 => (if t122 = true then (some false) else ((points_Name.f 45).bind fun t123 => (if t123 = true then ((points_Digit.f 55).bind fun t124 => (if t124 = true then (if t106 = 15 then (if t107 = true then (if bt108.2 = true then (some false) else ((points_White.f 9).bind fun t125 => (if t125 = true then ((points_White.f 13).bind fun t126 => (if t126 = true then (some false) else ((points_Lower.f (⟨#[65, 98, 195, 132]⟩ : ByteArray)).bind fun t127 => (some (t127.toList == ([97, 98, 195, 132] : List UInt8)))))) else (some false)))) else (some false)) else (some false)) else (some false))) else (some false))))) else (some false))) else (some false))) else (some false))))) = some r := H
  have A1 := Aside0.mk A10
  clear A10
  replace H := Option.bind_eq_some_iff.mp H
  obtain ⟨⟨t108, t109⟩, A20, H⟩ := H
  replace H : ((points_Read.f (([97, 13, 10, 98, 0, 255] : List Int))).bind fun t113 => ((fleuronlaw1_same.f k t113 (([97, 10, 98, 65533, 65533] : List Int))).bind fun t119 => (if t119 = true then ((points_Put.f 8226).bind fun t120 => (if t120.toList = ([226, 128, 162] : List UInt8) then ((points_Letter.f 95).bind fun t121 => (if t121 = true then ((points_Letter.f 45).bind fun t122 => (if t122 = true then (some false) else ((points_Name.f 45).bind fun t123 => (if t123 = true then ((points_Digit.f 55).bind fun t124 => (if t124 = true then (if t106 = 15 then (if t107 = true then (if t109 = true then (some false) else ((points_White.f 9).bind fun t125 => (if t125 = true then ((points_White.f 13).bind fun t126 => (if t126 = true then (some false) else ((points_Lower.f (⟨#[65, 98, 195, 132]⟩ : ByteArray)).bind fun t127 => (some (t127.toList == ([97, 98, 195, 132] : List UInt8)))))) else (some false)))) else (some false)) else (some false)) else (some false))) else (some false))))) else (some false))) else (some false))) else (some false)))) = some r := H
  have A2 := Aside0.mk A20
  clear A20
  obtain ⟨y110, hy110⟩ : ∃ y_ : List Int, y_ = (([97, 13, 10, 98, 0, 255] : List Int)) := ⟨_, rfl⟩
  replace H : ((points_Read.f y110).bind fun t113 => ((fleuronlaw1_same.f k t113 (([97, 10, 98, 65533, 65533] : List Int))).bind fun t119 => (if t119 = true then ((points_Put.f 8226).bind fun t120 => (if t120.toList = ([226, 128, 162] : List UInt8) then ((points_Letter.f 95).bind fun t121 => (if t121 = true then ((points_Letter.f 45).bind fun t122 => (if t122 = true then (some false) else ((points_Name.f 45).bind fun t123 => (if t123 = true then ((points_Digit.f 55).bind fun t124 => (if t124 = true then (if t106 = 15 then (if t107 = true then (if t109 = true then (some false) else ((points_White.f 9).bind fun t125 => (if t125 = true then ((points_White.f 13).bind fun t126 => (if t126 = true then (some false) else ((points_Lower.f (⟨#[65, 98, 195, 132]⟩ : ByteArray)).bind fun t127 => (some (t127.toList == ([97, 98, 195, 132] : List UInt8)))))) else (some false)))) else (some false)) else (some false)) else (some false))) else (some false))))) else (some false))) else (some false))) else (some false)))) = some r := by first | (rw [hy110]; with_reducible exact H) | (have H2_ := (Option.bind_some _ _).symm.trans H; rw [hy110]; with_reducible exact H2_) | (have H2_ := (Option.bind_some _ _).symm.trans H; with_reducible exact H2_) | with_reducible exact H | (rw [hy110]; exact H) | exact H
  have Ny110 := Aside0.mk hy110
  clear hy110
  replace H := Option.bind_eq_some_iff.mp H
  obtain ⟨t113, A30, H⟩ := H
  replace H : ((fleuronlaw1_same.f k t113 (([97, 10, 98, 65533, 65533] : List Int))).bind fun t119 => (if t119 = true then ((points_Put.f 8226).bind fun t120 => (if t120.toList = ([226, 128, 162] : List UInt8) then ((points_Letter.f 95).bind fun t121 => (if t121 = true then ((points_Letter.f 45).bind fun t122 => (if t122 = true then (some false) else ((points_Name.f 45).bind fun t123 => (if t123 = true then ((points_Digit.f 55).bind fun t124 => (if t124 = true then (if t106 = 15 then (if t107 = true then (if t109 = true then (some false) else ((points_White.f 9).bind fun t125 => (if t125 = true then ((points_White.f 13).bind fun t126 => (if t126 = true then (some false) else ((points_Lower.f (⟨#[65, 98, 195, 132]⟩ : ByteArray)).bind fun t127 => (some (t127.toList == ([97, 98, 195, 132] : List UInt8)))))) else (some false)))) else (some false)) else (some false)) else (some false))) else (some false))))) else (some false))) else (some false))) else (some false))) = some r := H
  have A3 := Aside0.mk A30
  clear A30
  obtain ⟨y116, hy116⟩ : ∃ y_ : List Int, y_ = (([97, 10, 98, 65533, 65533] : List Int)) := ⟨_, rfl⟩
  replace H : ((fleuronlaw1_same.f k t113 y116).bind fun t119 => (if t119 = true then ((points_Put.f 8226).bind fun t120 => (if t120.toList = ([226, 128, 162] : List UInt8) then ((points_Letter.f 95).bind fun t121 => (if t121 = true then ((points_Letter.f 45).bind fun t122 => (if t122 = true then (some false) else ((points_Name.f 45).bind fun t123 => (if t123 = true then ((points_Digit.f 55).bind fun t124 => (if t124 = true then (if t106 = 15 then (if t107 = true then (if t109 = true then (some false) else ((points_White.f 9).bind fun t125 => (if t125 = true then ((points_White.f 13).bind fun t126 => (if t126 = true then (some false) else ((points_Lower.f (⟨#[65, 98, 195, 132]⟩ : ByteArray)).bind fun t127 => (some (t127.toList == ([97, 98, 195, 132] : List UInt8)))))) else (some false)))) else (some false)) else (some false)) else (some false))) else (some false))))) else (some false))) else (some false))) else (some false))) = some r := by first | (rw [hy116]; with_reducible exact H) | (have H2_ := (Option.bind_some _ _).symm.trans H; rw [hy116]; with_reducible exact H2_) | (have H2_ := (Option.bind_some _ _).symm.trans H; with_reducible exact H2_) | with_reducible exact H | (rw [hy116]; exact H) | exact H
  have Ny116 := Aside0.mk hy116
  clear hy116
  replace H := Option.bind_eq_some_iff.mp H
  obtain ⟨t119, A40, H⟩ := H
  replace H : (if t119 = true then ((points_Put.f 8226).bind fun t120 => (if t120.toList = ([226, 128, 162] : List UInt8) then ((points_Letter.f 95).bind fun t121 => (if t121 = true then ((points_Letter.f 45).bind fun t122 => (if t122 = true then (some false) else ((points_Name.f 45).bind fun t123 => (if t123 = true then ((points_Digit.f 55).bind fun t124 => (if t124 = true then (if t106 = 15 then (if t107 = true then (if t109 = true then (some false) else ((points_White.f 9).bind fun t125 => (if t125 = true then ((points_White.f 13).bind fun t126 => (if t126 = true then (some false) else ((points_Lower.f (⟨#[65, 98, 195, 132]⟩ : ByteArray)).bind fun t127 => (some (t127.toList == ([97, 98, 195, 132] : List UInt8)))))) else (some false)))) else (some false)) else (some false)) else (some false))) else (some false))))) else (some false))) else (some false))) else (some false)) = some r := H
  have A4 := Aside0.mk A40
  clear A40
  by_cases c5 : t119 = true
  · subst c5
    have H1 : ((points_Put.f 8226).bind fun t120 => (if t120.toList = ([226, 128, 162] : List UInt8) then ((points_Letter.f 95).bind fun t121 => (if t121 = true then ((points_Letter.f 45).bind fun t122 => (if t122 = true then (some false) else ((points_Name.f 45).bind fun t123 => (if t123 = true then ((points_Digit.f 55).bind fun t124 => (if t124 = true then (if t106 = 15 then (if t107 = true then (if t109 = true then (some false) else ((points_White.f 9).bind fun t125 => (if t125 = true then ((points_White.f 13).bind fun t126 => (if t126 = true then (some false) else ((points_Lower.f (⟨#[65, 98, 195, 132]⟩ : ByteArray)).bind fun t127 => (some (t127.toList == ([97, 98, 195, 132] : List UInt8)))))) else (some false)))) else (some false)) else (some false)) else (some false))) else (some false))))) else (some false))) else (some false))) = some r := by rw [if_pos rfl] at H; exact H
    clear H
    have H := H1
    clear H1
    replace H := Option.bind_eq_some_iff.mp H
    obtain ⟨t120, A60, H⟩ := H
    replace H : (if t120.toList = ([226, 128, 162] : List UInt8) then ((points_Letter.f 95).bind fun t121 => (if t121 = true then ((points_Letter.f 45).bind fun t122 => (if t122 = true then (some false) else ((points_Name.f 45).bind fun t123 => (if t123 = true then ((points_Digit.f 55).bind fun t124 => (if t124 = true then (if t106 = 15 then (if t107 = true then (if t109 = true then (some false) else ((points_White.f 9).bind fun t125 => (if t125 = true then ((points_White.f 13).bind fun t126 => (if t126 = true then (some false) else ((points_Lower.f (⟨#[65, 98, 195, 132]⟩ : ByteArray)).bind fun t127 => (some (t127.toList == ([97, 98, 195, 132] : List UInt8)))))) else (some false)))) else (some false)) else (some false)) else (some false))) else (some false))))) else (some false))) else (some false)) = some r := H
    have A6 := Aside0.mk A60
    clear A60
    by_cases c7 : t120.toList = ([226, 128, 162] : List UInt8)
    · rw [if_pos c7] at H
      have c7b0 : (t120.toList == ([226, 128, 162] : List UInt8)) = true := beq_iff_eq.mpr c7
      have c7b1 : (t120.toList != ([226, 128, 162] : List UInt8)) = false := bne_eq_false_iff_eq.mpr c7
      clear c7
      replace H := Option.bind_eq_some_iff.mp H
      obtain ⟨t121, A80, H⟩ := H
      replace H : (if t121 = true then ((points_Letter.f 45).bind fun t122 => (if t122 = true then (some false) else ((points_Name.f 45).bind fun t123 => (if t123 = true then ((points_Digit.f 55).bind fun t124 => (if t124 = true then (if t106 = 15 then (if t107 = true then (if t109 = true then (some false) else ((points_White.f 9).bind fun t125 => (if t125 = true then ((points_White.f 13).bind fun t126 => (if t126 = true then (some false) else ((points_Lower.f (⟨#[65, 98, 195, 132]⟩ : ByteArray)).bind fun t127 => (some (t127.toList == ([97, 98, 195, 132] : List UInt8)))))) else (some false)))) else (some false)) else (some false)) else (some false))) else (some false))))) else (some false)) = some r := H
      have A8 := Aside0.mk A80
      clear A80
      by_cases c9 : t121 = true
      · subst c9
        have H1 : ((points_Letter.f 45).bind fun t122 => (if t122 = true then (some false) else ((points_Name.f 45).bind fun t123 => (if t123 = true then ((points_Digit.f 55).bind fun t124 => (if t124 = true then (if t106 = 15 then (if t107 = true then (if t109 = true then (some false) else ((points_White.f 9).bind fun t125 => (if t125 = true then ((points_White.f 13).bind fun t126 => (if t126 = true then (some false) else ((points_Lower.f (⟨#[65, 98, 195, 132]⟩ : ByteArray)).bind fun t127 => (some (t127.toList == ([97, 98, 195, 132] : List UInt8)))))) else (some false)))) else (some false)) else (some false)) else (some false))) else (some false))))) = some r := by rw [if_pos rfl] at H; exact H
        clear H
        have H := H1
        clear H1
        replace H := Option.bind_eq_some_iff.mp H
        obtain ⟨t122, A100, H⟩ := H
        replace H : (if t122 = true then (some false) else ((points_Name.f 45).bind fun t123 => (if t123 = true then ((points_Digit.f 55).bind fun t124 => (if t124 = true then (if t106 = 15 then (if t107 = true then (if t109 = true then (some false) else ((points_White.f 9).bind fun t125 => (if t125 = true then ((points_White.f 13).bind fun t126 => (if t126 = true then (some false) else ((points_Lower.f (⟨#[65, 98, 195, 132]⟩ : ByteArray)).bind fun t127 => (some (t127.toList == ([97, 98, 195, 132] : List UInt8)))))) else (some false)))) else (some false)) else (some false)) else (some false))) else (some false)))) = some r := H
        have A10 := Aside0.mk A100
        clear A100
        by_cases c11 : t122 = true
        · subst c11
          have H1 : (some false) = some r := by rw [if_pos rfl] at H; exact H
          clear H
          have H := H1
          clear H1
          exact absurd ((Option.some.inj H).trans ht_.out) (by decide)
        · replace c11 := Bool.eq_false_iff.mpr c11
          subst c11
          have H1 : ((points_Name.f 45).bind fun t123 => (if t123 = true then ((points_Digit.f 55).bind fun t124 => (if t124 = true then (if t106 = 15 then (if t107 = true then (if t109 = true then (some false) else ((points_White.f 9).bind fun t125 => (if t125 = true then ((points_White.f 13).bind fun t126 => (if t126 = true then (some false) else ((points_Lower.f (⟨#[65, 98, 195, 132]⟩ : ByteArray)).bind fun t127 => (some (t127.toList == ([97, 98, 195, 132] : List UInt8)))))) else (some false)))) else (some false)) else (some false)) else (some false))) else (some false))) = some r := by rw [if_neg (show ¬ (false = true) by decide)] at H; exact H
          clear H
          have H := H1
          clear H1
          replace H := Option.bind_eq_some_iff.mp H
          obtain ⟨t123, A120, H⟩ := H
          replace H : (if t123 = true then ((points_Digit.f 55).bind fun t124 => (if t124 = true then (if t106 = 15 then (if t107 = true then (if t109 = true then (some false) else ((points_White.f 9).bind fun t125 => (if t125 = true then ((points_White.f 13).bind fun t126 => (if t126 = true then (some false) else ((points_Lower.f (⟨#[65, 98, 195, 132]⟩ : ByteArray)).bind fun t127 => (some (t127.toList == ([97, 98, 195, 132] : List UInt8)))))) else (some false)))) else (some false)) else (some false)) else (some false))) else (some false)) = some r := H
          have A12 := Aside0.mk A120
          clear A120
          by_cases c13 : t123 = true
          · subst c13
            have H1 : ((points_Digit.f 55).bind fun t124 => (if t124 = true then (if t106 = 15 then (if t107 = true then (if t109 = true then (some false) else ((points_White.f 9).bind fun t125 => (if t125 = true then ((points_White.f 13).bind fun t126 => (if t126 = true then (some false) else ((points_Lower.f (⟨#[65, 98, 195, 132]⟩ : ByteArray)).bind fun t127 => (some (t127.toList == ([97, 98, 195, 132] : List UInt8)))))) else (some false)))) else (some false)) else (some false)) else (some false))) = some r := by rw [if_pos rfl] at H; exact H
            clear H
            have H := H1
            clear H1
            replace H := Option.bind_eq_some_iff.mp H
            obtain ⟨t124, A140, H⟩ := H
            replace H : (if t124 = true then (if t106 = 15 then (if t107 = true then (if t109 = true then (some false) else ((points_White.f 9).bind fun t125 => (if t125 = true then ((points_White.f 13).bind fun t126 => (if t126 = true then (some false) else ((points_Lower.f (⟨#[65, 98, 195, 132]⟩ : ByteArray)).bind fun t127 => (some (t127.toList == ([97, 98, 195, 132] : List UInt8)))))) else (some false)))) else (some false)) else (some false)) else (some false)) = some r := H
            have A14 := Aside0.mk A140
            clear A140
            by_cases c15 : t124 = true
            · subst c15
              have H1 : (if t106 = 15 then (if t107 = true then (if t109 = true then (some false) else ((points_White.f 9).bind fun t125 => (if t125 = true then ((points_White.f 13).bind fun t126 => (if t126 = true then (some false) else ((points_Lower.f (⟨#[65, 98, 195, 132]⟩ : ByteArray)).bind fun t127 => (some (t127.toList == ([97, 98, 195, 132] : List UInt8)))))) else (some false)))) else (some false)) else (some false)) = some r := by rw [if_pos rfl] at H; exact H
              clear H
              have H := H1
              clear H1
              by_cases c16 : t106 = 15
              · rw [if_pos c16] at H
                have c16b0 : (t106 == 15) = true := beq_iff_eq.mpr c16
                have c16b1 : (t106 != 15) = false := bne_eq_false_iff_eq.mpr c16
                clear c16
                by_cases c17 : t107 = true
                · subst c17
                  have H1 : (if t109 = true then (some false) else ((points_White.f 9).bind fun t125 => (if t125 = true then ((points_White.f 13).bind fun t126 => (if t126 = true then (some false) else ((points_Lower.f (⟨#[65, 98, 195, 132]⟩ : ByteArray)).bind fun t127 => (some (t127.toList == ([97, 98, 195, 132] : List UInt8)))))) else (some false)))) = some r := by rw [if_pos rfl] at H; exact H
                  clear H
                  have H := H1
                  clear H1
                  by_cases c18 : t109 = true
                  · subst c18
                    have H1 : (some false) = some r := by rw [if_pos rfl] at H; exact H
                    clear H
                    have H := H1
                    clear H1
                    exact absurd ((Option.some.inj H).trans ht_.out) (by decide)
                  · replace c18 := Bool.eq_false_iff.mpr c18
                    subst c18
                    have H1 : ((points_White.f 9).bind fun t125 => (if t125 = true then ((points_White.f 13).bind fun t126 => (if t126 = true then (some false) else ((points_Lower.f (⟨#[65, 98, 195, 132]⟩ : ByteArray)).bind fun t127 => (some (t127.toList == ([97, 98, 195, 132] : List UInt8)))))) else (some false))) = some r := by rw [if_neg (show ¬ (false = true) by decide)] at H; exact H
                    clear H
                    have H := H1
                    clear H1
                    replace H := Option.bind_eq_some_iff.mp H
                    obtain ⟨t125, A190, H⟩ := H
                    replace H : (if t125 = true then ((points_White.f 13).bind fun t126 => (if t126 = true then (some false) else ((points_Lower.f (⟨#[65, 98, 195, 132]⟩ : ByteArray)).bind fun t127 => (some (t127.toList == ([97, 98, 195, 132] : List UInt8)))))) else (some false)) = some r := H
                    have A19 := Aside0.mk A190
                    clear A190
                    by_cases c20 : t125 = true
                    · subst c20
                      have H1 : ((points_White.f 13).bind fun t126 => (if t126 = true then (some false) else ((points_Lower.f (⟨#[65, 98, 195, 132]⟩ : ByteArray)).bind fun t127 => (some (t127.toList == ([97, 98, 195, 132] : List UInt8)))))) = some r := by rw [if_pos rfl] at H; exact H
                      clear H
                      have H := H1
                      clear H1
                      replace H := Option.bind_eq_some_iff.mp H
                      obtain ⟨t126, A210, H⟩ := H
                      replace H : (if t126 = true then (some false) else ((points_Lower.f (⟨#[65, 98, 195, 132]⟩ : ByteArray)).bind fun t127 => (some (t127.toList == ([97, 98, 195, 132] : List UInt8))))) = some r := H
                      have A21 := Aside0.mk A210
                      clear A210
                      by_cases c22 : t126 = true
                      · subst c22
                        have H1 : (some false) = some r := by rw [if_pos rfl] at H; exact H
                        clear H
                        have H := H1
                        clear H1
                        exact absurd ((Option.some.inj H).trans ht_.out) (by decide)
                      · replace c22 := Bool.eq_false_iff.mpr c22
                        subst c22
                        have H1 : ((points_Lower.f (⟨#[65, 98, 195, 132]⟩ : ByteArray)).bind fun t127 => (some (t127.toList == ([97, 98, 195, 132] : List UInt8)))) = some r := by rw [if_neg (show ¬ (false = true) by decide)] at H; exact H
                        clear H
                        have H := H1
                        clear H1
                        replace H := Option.bind_eq_some_iff.mp H
                        obtain ⟨t127, A230, H⟩ := H
                        replace H : (some (t127.toList == ([97, 98, 195, 132] : List UInt8))) = some r := H
                        have A23 := Aside0.mk A230
                        clear A230
                        obtain rfl := Option.some.inj H
                        go_enter Try.func8, Try.ntmps8
                        go_wp2_with (first | ((with_reducible refine gate_callee (f := 9) rfl ?_); refine goesL_ (some 6) rfl rfl Try.func9 (by kernel_rfl) rfl #[.int .i32 70] rfl (by (try simp only [List.map_toArray, List.map_cons, List.map_nil]); first | done | rfl | (simp only [List.length_drop, List.length_take]; rfl)) ?_; (with_reducible refine (points_Hex.calls k 70 t106 true _ A1.out).mono ?_); rintro e w' ⟨rfl, ⟨nd, rfl⟩⟩; refine ⟨_, rfl, ?_⟩) | ((with_reducible refine gate_callee (f := 9) rfl ?_); refine goesL_ (some 10) rfl rfl Try.func9 (by kernel_rfl) rfl #[.int .i32 103] rfl (by (try simp only [List.map_toArray, List.map_cons, List.map_nil]); first | done | rfl | (simp only [List.length_drop, List.length_take]; rfl)) ?_; (with_reducible refine (points_Hex.calls k 103 t108 false _ A2.out).mono ?_); rintro e w' ⟨rfl, ⟨nd, rfl⟩⟩; refine ⟨_, rfl, ?_⟩) | ((with_reducible refine gate_dst (N := 13) rfl ?_); refine Kd.R_lit (Kd.int .u8) _ 5 ?hg (N := 13) ?hd (xs := ([97, 13, 10, 98, 0, 255] : List Int)) (inner := [.int .u8 97, .int .u8 13, .int .u8 10, .int .u8 98, .int .u8 0, .int .u8 255]) (ok := fun _ => True) (okp := fun _ => True) ?hr ?hp (fun _ hk => hk) trivial (Below.refl _ _) (Nat.le_refl _) (by simp) ?_; (case hd => rfl); (case hg => rfl); (case hr => first | (go_simp; done) | (go_simp; rfl)); (case hp => exact (Reps.one (show Kd.M (Kd.int .u8) _ _ _ 97 [.int .u8 97] from rfl) (Reps.one (show Kd.M (Kd.int .u8) _ _ _ 13 [.int .u8 13] from rfl) (Reps.one (show Kd.M (Kd.int .u8) _ _ _ 10 [.int .u8 10] from rfl) (Reps.one (show Kd.M (Kd.int .u8) _ _ _ 98 [.int .u8 98] from rfl) (Reps.one (show Kd.M (Kd.int .u8) _ _ _ 0 [.int .u8 0] from rfl) (Reps.one (show Kd.M (Kd.int .u8) _ _ _ 255 [.int .u8 255] from rfl) (Reps.none _ _)))))))); intro v111 w24 ho25 hb hg_ hnew_; clear hg_ hnew_; (first | rw [← Ny110.out] at ho25 | (simp only [Int.reduceToNat] at ho25; rw [← Ny110.out] at ho25)); have n0_ := Aside0.mk (Kd.R_lower ho25 (below_size (by repeat (first | (with_reducible first | exact HB.out | apply below_alloc | apply pw_below_drewN | apply below_drew1) | exact HB.out)))); have n1_ := Aside0.mk (below_step (by repeat (first | (with_reducible first | exact HB.out | apply below_alloc | apply pw_below_drewN | apply below_drew1) | exact HB.out)) hb); clear HB; have HO112 := n0_; have HB := n1_; clear n0_ n1_; clear hb ho25; obtain ⟨Ao26, co26, eo26⟩ := Kd.R_slice HO112.out; subst eo26; obtain ⟨wcv, hcv, hC0, hL0, hB0⟩ := conv_own Try.underlying22 Try.underlying5 HO112.out (by rw [Ny110.out]; exact List.cons_ne_nil _ _) HB.out; have HCc := Aside0.mk hC0; have HLc := Aside0.mk hL0; clear HB HO112 hC0 hL0; have HB := Aside0.mk hB0; have HO112 := Aside0.mk (Kd.R_nil (Kd.int .u8) 5 wcv w.heap.size (fun _ => True)); clear hB0) | ((with_reducible refine gate_callee (f := 12) rfl ?_); refine goesL_ (some 15) rfl rfl Try.func12 (by kernel_rfl) rfl #[.slice Ao26 y110.length co26] rfl (by (try simp only [List.map_toArray, List.map_cons, List.map_nil]); first | done | rfl | (simp only [List.length_drop, List.length_take]; rfl)) ?_; (with_reducible refine (points_Read.calls _ _ y110 t113 _ ?side1 ?side2 A3.out).mono ?_); (case side1 => exact HCc.out); (case side2 => exact HLc.out); rintro e w27 ⟨v114, rfl, ho0, hb⟩; refine ⟨_, rfl, ?_⟩; have n0_ := Aside0.mk (Kd.R_below (by (with_reducible repeat (first | apply Kd.R_alloc | apply Kd.R_drewN | apply Kd.R_drew)); exact HO112.out) hb); have n1_ := Aside0.mk (Kd.R_lower ho0 (below_size (by repeat (first | (with_reducible first | exact HB.out | apply below_alloc | apply pw_below_drewN | apply below_drew1) | exact HB.out)))); have n2_ := Aside0.mk (below_step (by repeat (first | (with_reducible first | exact HB.out | apply below_alloc | apply pw_below_drewN | apply below_drew1) | exact HB.out)) hb); clear HO112; clear HB; have HO112 := n0_; have HO115 := n1_; have HB := n2_; clear n0_ n1_ n2_; (try clear hb); (try clear hb2); (try clear hk); (try clear hi); (try clear ho0)) | ((with_reducible refine gate_dst (N := 16) rfl ?_); refine Kd.R_lit (Kd.int .i32) _ 21 ?hg (N := 16) ?hd (xs := ([97, 10, 98, 65533, 65533] : List Int)) (inner := [.int .i32 97, .int .i32 10, .int .i32 98, .int .i32 65533, .int .i32 65533]) (ok := fun _ => True) (okp := fun _ => True) ?hr ?hp (fun _ hk => hk) trivial (Below.refl _ _) (Nat.le_refl _) (by simp) ?_; (case hd => rfl); (case hg => rfl); (case hr => first | (go_simp; done) | (go_simp; rfl)); (case hp => exact (Reps.one (show Kd.M (Kd.int .i32) _ _ _ 97 [.int .i32 97] from rfl) (Reps.one (show Kd.M (Kd.int .i32) _ _ _ 10 [.int .i32 10] from rfl) (Reps.one (show Kd.M (Kd.int .i32) _ _ _ 98 [.int .i32 98] from rfl) (Reps.one (show Kd.M (Kd.int .i32) _ _ _ 65533 [.int .i32 65533] from rfl) (Reps.one (show Kd.M (Kd.int .i32) _ _ _ 65533 [.int .i32 65533] from rfl) (Reps.none _ _))))))); intro v117 w28 ho29 hb hg_ hnew_; clear hg_ hnew_; (first | rw [← Ny116.out] at ho29 | (simp only [Int.reduceToNat] at ho29; rw [← Ny116.out] at ho29)); have n0_ := Aside0.mk (Kd.R_below (by (with_reducible repeat (first | apply Kd.R_alloc | apply Kd.R_drewN | apply Kd.R_drew)); exact HO112.out) hb); have n1_ := Aside0.mk (Kd.R_elder' (by (with_reducible repeat (first | apply Kd.R_alloc | apply Kd.R_drewN | apply Kd.R_drew)); exact HO115.out) (Kd.R_base ho29) hb); have n2_ := Aside0.mk (Kd.R_lower (Kd.R_new' ho29 (Kd.R_lt (by (with_reducible repeat (first | apply Kd.R_alloc | apply Kd.R_drewN | apply Kd.R_drew)); exact HO115.out))) (below_size (by repeat (first | (with_reducible first | exact HB.out | apply below_alloc | apply pw_below_drewN | apply below_drew1) | exact HB.out)))); have n3_ := Aside0.mk (below_step (by repeat (first | (with_reducible first | exact HB.out | apply below_alloc | apply pw_below_drewN | apply below_drew1) | exact HB.out)) hb); clear HO112; clear HO115; clear HB; have HO112 := n0_; have HO115 := n1_; have HO118 := n2_; have HB := n3_; clear n0_ n1_ n2_ n3_; clear hb ho29; obtain ⟨Ao30, co30, eo30⟩ := Kd.R_slice HO115.out; subst eo30; obtain ⟨Ao31, co31, eo31⟩ := Kd.R_slice HO118.out; subst eo31) | ((with_reducible refine gate_callee (f := 11) rfl ?_); refine goesL_ (some 17) rfl rfl Try.func11 (by kernel_rfl) rfl #[.slice Ao30 t113.length co30, .slice Ao31 y116.length co31] rfl (by (try simp only [List.map_toArray, List.map_cons, List.map_nil]); first | done | rfl | (simp only [List.length_drop, List.length_take]; rfl)) ?_; (with_reducible refine (fleuronlaw1_same.calls k _ _ t113 _ _ y116 true _ ?side1 ?side2 ?side3 ?side4 A4.out).mono ?_); (case side1 => repeat (first | exact (Kd.R_reads' HO115.out).2.2 | (with_reducible refine Kd.C_alloc ?_ _) | (with_reducible refine Kd.C_drewN ?_ _) | (with_reducible refine Kd.C_drew ?_))); (case side2 => exact (Kd.R_reads' HO115.out).2.1); (case side3 => repeat (first | exact (Kd.R_reads' HO118.out).2.2 | (with_reducible refine Kd.C_alloc ?_ _) | (with_reducible refine Kd.C_drewN ?_ _) | (with_reducible refine Kd.C_drew ?_))); (case side4 => exact (Kd.R_reads' HO118.out).2.1); rintro e w' ⟨rfl, ⟨nd, rfl⟩⟩; refine ⟨_, rfl, ?_⟩) | (go_at_call 14; (with_reducible refine (points_Put.calls 8226 t120 _ A6.out).mono ?_); rintro e w32 ⟨rfl, hb⟩; have n0_ := Aside0.mk (Kd.R_below (by (with_reducible repeat (first | apply Kd.R_alloc | apply Kd.R_drewN | apply Kd.R_drew)); exact HO112.out) hb); have n1_ := Aside0.mk (Kd.R_below (by (with_reducible repeat (first | apply Kd.R_alloc | apply Kd.R_drewN | apply Kd.R_drew)); exact HO115.out) hb); have n2_ := Aside0.mk (Kd.R_below (by (with_reducible repeat (first | apply Kd.R_alloc | apply Kd.R_drewN | apply Kd.R_drew)); exact HO118.out) hb); have n3_ := Aside0.mk (below_step (by repeat (first | (with_reducible first | exact HB.out | apply below_alloc | apply pw_below_drewN | apply below_drew1) | exact HB.out)) hb); clear HO112; clear HO115; clear HO118; clear HB; have HO112 := n0_; have HO115 := n1_; have HO118 := n2_; have HB := n3_; clear n0_ n1_ n2_ n3_; (try clear hb); (try clear hb2); (try clear hk); (try clear hi)) | (go_at_call 16; (with_reducible refine (points_Letter.calls 95 true _ A8.out).mono ?_); rintro e w' ⟨rfl, ⟨nd, rfl⟩⟩) | (go_at_call 16; (with_reducible refine (points_Letter.calls 45 false _ A10.out).mono ?_); rintro e w' ⟨rfl, ⟨nd, rfl⟩⟩) | (go_at_call 20; (with_reducible refine (points_Name.calls 45 true _ A12.out).mono ?_); rintro e w' ⟨rfl, ⟨nd, rfl⟩⟩) | (go_at_call 18; (with_reducible refine (points_Digit.calls 55 true _ A14.out).mono ?_); rintro e w' ⟨rfl, ⟨nd, rfl⟩⟩) | (go_at_call 22; (with_reducible refine (points_White.calls 9 true _ A19.out).mono ?_); rintro e w' ⟨rfl, ⟨nd, rfl⟩⟩) | (go_at_call 22; (with_reducible refine (points_White.calls 13 false _ A21.out).mono ?_); rintro e w' ⟨rfl, ⟨nd, rfl⟩⟩) | (go_at_call 24; (with_reducible refine (points_Lower.calls (⟨#[65, 98, 195, 132]⟩ : ByteArray) t127 _ A23.out).mono ?_); rintro e w33 ⟨rfl, hb⟩; have n0_ := Aside0.mk (Kd.R_below (by (with_reducible repeat (first | apply Kd.R_alloc | apply Kd.R_drewN | apply Kd.R_drew)); exact HO112.out) hb); have n1_ := Aside0.mk (Kd.R_below (by (with_reducible repeat (first | apply Kd.R_alloc | apply Kd.R_drewN | apply Kd.R_drew)); exact HO115.out) hb); have n2_ := Aside0.mk (Kd.R_below (by (with_reducible repeat (first | apply Kd.R_alloc | apply Kd.R_drewN | apply Kd.R_drew)); exact HO118.out) hb); have n3_ := Aside0.mk (below_step (by repeat (first | (with_reducible first | exact HB.out | apply below_alloc | apply pw_below_drewN | apply below_drew1) | exact HB.out)) hb); clear HO112; clear HO115; clear HO118; clear HB; have HO112 := n0_; have HO115 := n1_; have HO118 := n2_; have HB := n3_; clear n0_ n1_ n2_ n3_; (try clear hb); (try clear hb2); (try clear hk); (try clear hi)))
                        go_ret
                        exact ⟨by first | rfl | (simp [errW_none, errW_some] <;> rfl) | (simp [*, errW_none, errW_some] <;> rfl), by repeat (first | (with_reducible first | exact HB.out | apply below_alloc | apply pw_below_drewN | apply below_drew1) | exact HB.out)⟩
                    · replace c20 := Bool.eq_false_iff.mpr c20
                      subst c20
                      have H1 : (some false) = some r := by rw [if_neg (show ¬ (false = true) by decide)] at H; exact H
                      clear H
                      have H := H1
                      clear H1
                      exact absurd ((Option.some.inj H).trans ht_.out) (by decide)
                · replace c17 := Bool.eq_false_iff.mpr c17
                  subst c17
                  have H1 : (some false) = some r := by rw [if_neg (show ¬ (false = true) by decide)] at H; exact H
                  clear H
                  have H := H1
                  clear H1
                  exact absurd ((Option.some.inj H).trans ht_.out) (by decide)
              · rw [if_neg c16] at H
                have c16b0 : (t106 == 15) = false := beq_eq_false_iff_ne.mpr c16
                have c16b1 : (t106 != 15) = true := bne_iff_ne.mpr c16
                exact absurd ((Option.some.inj H).trans ht_.out) (by decide)
            · replace c15 := Bool.eq_false_iff.mpr c15
              subst c15
              have H1 : (some false) = some r := by rw [if_neg (show ¬ (false = true) by decide)] at H; exact H
              clear H
              have H := H1
              clear H1
              exact absurd ((Option.some.inj H).trans ht_.out) (by decide)
          · replace c13 := Bool.eq_false_iff.mpr c13
            subst c13
            have H1 : (some false) = some r := by rw [if_neg (show ¬ (false = true) by decide)] at H; exact H
            clear H
            have H := H1
            clear H1
            exact absurd ((Option.some.inj H).trans ht_.out) (by decide)
      · replace c9 := Bool.eq_false_iff.mpr c9
        subst c9
        have H1 : (some false) = some r := by rw [if_neg (show ¬ (false = true) by decide)] at H; exact H
        clear H
        have H := H1
        clear H1
        exact absurd ((Option.some.inj H).trans ht_.out) (by decide)
    · rw [if_neg c7] at H
      have c7b0 : (t120.toList == ([226, 128, 162] : List UInt8)) = false := beq_eq_false_iff_ne.mpr c7
      have c7b1 : (t120.toList != ([226, 128, 162] : List UInt8)) = true := bne_iff_ne.mpr c7
      exact absurd ((Option.some.inj H).trans ht_.out) (by decide)
  · replace c5 := Bool.eq_false_iff.mpr c5
    subst c5
    have H1 : (some false) = some r := by rw [if_neg (show ¬ (false = true) by decide)] at H; exact H
    clear H
    have H := H1
    clear H1
    exact absurd ((Option.some.inj H).trans ht_.out) (by decide)

/-! ### fleuronref1_Hex: function 10 -/
mutual
def fleuronref1_Hex.j0 : Nat → Int → Bool → Option (Int × Bool)
  | 0, _, _ => none
  | k + 1, x0, x4 => if x4 = true then (some (wrap64 (wrap32 (x0 - 48)), true)) else (if x0 ≥ 97 then (fleuronref1_Hex.j1 k x0 (decide (x0 ≤ 102))) else (fleuronref1_Hex.j1 k x0 false))
def fleuronref1_Hex.j1 : Nat → Int → Bool → Option (Int × Bool)
  | 0, _, _ => none
  | k + 1, x0, x14 => if x14 = true then (some (wrap64 ((wrap64 (wrap32 (x0 - 97))) + 10), true)) else (if x0 ≥ 65 then (if x0 ≤ 70 then (some (wrap64 ((wrap64 (wrap32 (x0 - 65))) + 10), true)) else (some (0, false))) else (some (0, false)))
end
def fleuronref1_Hex.f (k : Nat) (a0 : Int) : Option (Int × Bool) := if a0 ≥ 48 then (fleuronref1_Hex.j0 k a0 (decide (a0 ≤ 57))) else (fleuronref1_Hex.j0 k a0 false)
theorem fleuronref1_Hex.mono_l : ∀ k, (∀ y0 y1, LeO (fleuronref1_Hex.j0 k y0 y1) (fleuronref1_Hex.j0 (k + 1) y0 y1)) ∧ (∀ y0 y1, LeO (fleuronref1_Hex.j1 k y0 y1) (fleuronref1_Hex.j1 (k + 1) y0 y1))
  | 0 => ⟨fun _ _ r h => by simp [fleuronref1_Hex.j0] at h, fun _ _ r h => by simp [fleuronref1_Hex.j1] at h⟩
  | k + 1 => by
    obtain ⟨ih0, ih1⟩ := fleuronref1_Hex.mono_l k
    refine ⟨?_, ?_⟩
    · intro y0 y1
      unfold fleuronref1_Hex.j0
      repeat' first
      | (with_reducible exact ih0 _ _)
      | (with_reducible exact ih1 _ _)
      | (with_reducible exact LeO.refl _)
      | (with_reducible exact LeO.none _)
      | (with_reducible refine LeO.ite ?_ ?_)
      | (with_reducible refine LeO.bind ?_ (fun _ => ?_))
      | exact ih0 _ _
      | exact ih1 _ _
      | exact LeO.none _
      | refine LeO.ite ?_ ?_
      | refine LeO.bind ?_ (fun _ => ?_)
    · intro y0 y1
      unfold fleuronref1_Hex.j1
      repeat' first
      | (with_reducible exact ih0 _ _)
      | (with_reducible exact ih1 _ _)
      | (with_reducible exact LeO.refl _)
      | (with_reducible exact LeO.none _)
      | (with_reducible refine LeO.ite ?_ ?_)
      | (with_reducible refine LeO.bind ?_ (fun _ => ?_))
      | exact ih0 _ _
      | exact ih1 _ _
      | exact LeO.none _
      | refine LeO.ite ?_ ?_
      | refine LeO.bind ?_ (fun _ => ?_)
theorem fleuronref1_Hex.mono : ∀ a0 k, LeO (fleuronref1_Hex.f k a0) (fleuronref1_Hex.f (k + 1) a0) := by
  intro a0 k
  obtain ⟨ih0, ih1⟩ := fleuronref1_Hex.mono_l k
  unfold fleuronref1_Hex.f
  repeat' first
      | (with_reducible exact ih0 _ _)
      | (with_reducible exact ih1 _ _)
      | (with_reducible exact LeO.refl _)
      | (with_reducible exact LeO.none _)
      | (with_reducible refine LeO.ite ?_ ?_)
      | (with_reducible refine LeO.bind ?_ (fun _ => ?_))
      | exact ih0 _ _
      | exact ih1 _ _
      | exact LeO.none _
      | refine LeO.ite ?_ ?_
      | refine LeO.bind ?_ (fun _ => ?_)
set_option maxHeartbeats 8000000 in
set_option maxRecDepth 100000 in
theorem fleuronref1_Hex.calls (k : Nat) (a0 : Int) (r1 : Int) (r2 : Bool) (w : World) (h : fleuronref1_Hex.f k a0 = some (r1, r2)) :
    Calls Try.prog 10 #[.int .i32 a0] w fun e w' => e = .returned (.tuple #[.int .i64 r1, .bool r2]) ∧ Drawn0 w w' := by
  have H : (if a0 ≥ 48 then (fleuronref1_Hex.j0 k a0 (decide (a0 ≤ 57))) else (fleuronref1_Hex.j0 k a0 false)) = some (r1, r2) := h
  clear h
  have HC2 := Aside0.mk H
  clear H
  go_enter Try.func10, Try.ntmps10
  go_upto_region 1 with (fail)
  go_cut [4] (fun v4 wc => ∃ (kq : Nat) (x4_1 : Bool), v4 = .bool x4_1 ∧ Aside0 (fleuronref1_Hex.j0 kq a0 x4_1 = some (r1, r2)) ∧ Aside0 (kq ≤ k) ∧ Drawn0 w wc)
  case first =>
    have H := HC2.out
    clear HC2
    by_cases c3 : a0 ≥ 48
    · rw [if_pos c3] at H
      have c3b0 : decide (48 ≤ a0) = true := decide_eq_true c3
      clear c3
      (first | rw [c3b0] | (simp only [i64_w, i32_w]; rw [c3b0]) | skip)
      have H' := Aside0.mk H
      clear H
      go_wp2
      go_meet
      case rel => exact ⟨_, (decide (a0 ≤ 57)), (by first | rfl | (simp; done) | (simp [*]; done)), H', ⟨by first | omega | exact Nat.le_refl _⟩, by repeat (first | exact Drawn0.refl _ | apply Drawn0.step)⟩
    · rw [if_neg c3] at H
      have c3b0 : decide (48 ≤ a0) = false := decide_eq_false c3
      clear c3
      (first | rw [c3b0] | (simp only [i64_w, i32_w]; rw [c3b0]) | skip)
      have H' := Aside0.mk H
      clear H
      go_wp2
      go_meet
      case rel => exact ⟨_, (false), (by first | rfl | (simp; done) | (simp [*]; done)), H', ⟨by first | omega | exact Nat.le_refl _⟩, by repeat (first | exact Drawn0.refl _ | apply Drawn0.step)⟩
  case rest =>
    clear HC2
    try clear c1
    try clear p2
    try clear c3
    try clear c3b0
    obtain ⟨kq, x4_1, rfl, HA, HJ1, ⟨mc1, rfl⟩⟩ := hcut
    cases kq with
    | zero => exact absurd HA.out (by simp [fleuronref1_Hex.j0])
    | succ kj1 =>
      have H := HA.out
      clear HA
      simp only [fleuronref1_Hex.j0] at H
      by_cases c4 : x4_1 = true
      · subst c4
        have H1 : (some (wrap64 (wrap32 (a0 - 48)), true)) = some (r1, r2) := by rw [if_pos rfl] at H; exact H
        clear H
        have H := H1
        clear H1
        simp only [Option.some.injEq, Prod.mk.injEq] at H
        obtain ⟨rfl, rfl⟩ := H
        go_wp2
        go_ret2
        exact ⟨by first | rfl | (simp; done) | (simp [*]; done), by repeat (first | exact Drawn0.refl _ | apply Drawn0.step)⟩
      · replace c4 := Bool.eq_false_iff.mpr c4
        subst c4
        have H1 : (if a0 ≥ 97 then (fleuronref1_Hex.j1 kj1 a0 (decide (a0 ≤ 102))) else (fleuronref1_Hex.j1 kj1 a0 false)) = some (r1, r2) := by rw [if_neg (show ¬ (false = true) by decide)] at H; exact H
        clear H
        have H := H1
        clear H1
        have HC5 := Aside0.mk H
        clear H
        go_upto_region 3 with (fail)
        go_cut [14] (fun v14 wc => ∃ (kq : Nat) (x14_4 : Bool), v14 = .bool x14_4 ∧ Aside0 (fleuronref1_Hex.j1 kq a0 x14_4 = some (r1, r2)) ∧ Aside0 (kq ≤ kj1) ∧ Drawn0 w wc)
        case first =>
          have H := HC5.out
          clear HC5
          by_cases c6 : a0 ≥ 97
          · rw [if_pos c6] at H
            have c6b0 : decide (97 ≤ a0) = true := decide_eq_true c6
            clear c6
            (first | rw [c6b0] | (simp only [i64_w, i32_w]; rw [c6b0]) | skip)
            have H' := Aside0.mk H
            clear H
            go_wp2
            go_meet
            case rel => exact ⟨_, (decide (a0 ≤ 102)), (by first | rfl | (simp; done) | (simp [*]; done)), H', ⟨by have := HJ1.out; first | omega | exact Nat.le_refl _⟩, by repeat (first | exact Drawn0.refl _ | apply Drawn0.step)⟩
          · rw [if_neg c6] at H
            have c6b0 : decide (97 ≤ a0) = false := decide_eq_false c6
            clear c6
            (first | rw [c6b0] | (simp only [i64_w, i32_w]; rw [c6b0]) | skip)
            have H' := Aside0.mk H
            clear H
            go_wp2
            go_meet
            case rel => exact ⟨_, (false), (by first | rfl | (simp; done) | (simp [*]; done)), H', ⟨by have := HJ1.out; first | omega | exact Nat.le_refl _⟩, by repeat (first | exact Drawn0.refl _ | apply Drawn0.step)⟩
        case rest =>
          clear HC5
          try clear c1
          try clear p2
          try clear c3
          try clear c3b0
          try clear p3
          try clear c4
          try clear c6
          try clear c6b0
          try clear p6
          try clear p2
          obtain ⟨kq, x14_4, rfl, HA, HJ4, ⟨mc4, rfl⟩⟩ := hcut
          cases kq with
          | zero => exact absurd HA.out (by simp [fleuronref1_Hex.j1])
          | succ kj4 =>
            have H := HA.out
            clear HA
            simp only [fleuronref1_Hex.j1] at H
            by_cases c7 : x14_4 = true
            · subst c7
              have H1 : (some (wrap64 ((wrap64 (wrap32 (a0 - 97))) + 10), true)) = some (r1, r2) := by rw [if_pos rfl] at H; exact H
              clear H
              have H := H1
              clear H1
              simp only [Option.some.injEq, Prod.mk.injEq] at H
              obtain ⟨rfl, rfl⟩ := H
              go_wp2
              go_ret2
              exact ⟨by first | rfl | (simp; done) | (simp [*]; done), by repeat (first | exact Drawn0.refl _ | apply Drawn0.step)⟩
            · replace c7 := Bool.eq_false_iff.mpr c7
              subst c7
              have H1 : (if a0 ≥ 65 then (if a0 ≤ 70 then (some (wrap64 ((wrap64 (wrap32 (a0 - 65))) + 10), true)) else (some (0, false))) else (some (0, false))) = some (r1, r2) := by rw [if_neg (show ¬ (false = true) by decide)] at H; exact H
              clear H
              have H := H1
              clear H1
              by_cases c8 : a0 ≥ 65
              · rw [if_pos c8] at H
                have c8b0 : decide (65 ≤ a0) = true := decide_eq_true c8
                clear c8
                by_cases c9 : a0 ≤ 70
                · rw [if_pos c9] at H
                  have c9b0 : decide (a0 ≤ 70) = true := decide_eq_true c9
                  clear c9
                  simp only [Option.some.injEq, Prod.mk.injEq] at H
                  obtain ⟨rfl, rfl⟩ := H
                  go_wp2
                  go_ret2
                  exact ⟨by first | rfl | (simp; done) | (simp [*]; done), by repeat (first | exact Drawn0.refl _ | apply Drawn0.step)⟩
                · rw [if_neg c9] at H
                  have c9b0 : decide (a0 ≤ 70) = false := decide_eq_false c9
                  clear c9
                  simp only [Option.some.injEq, Prod.mk.injEq] at H
                  obtain ⟨rfl, rfl⟩ := H
                  go_wp2
                  go_ret2
                  exact ⟨by first | rfl | (simp; done) | (simp [*]; done), by repeat (first | exact Drawn0.refl _ | apply Drawn0.step)⟩
              · rw [if_neg c8] at H
                have c8b0 : decide (65 ≤ a0) = false := decide_eq_false c8
                clear c8
                simp only [Option.some.injEq, Prod.mk.injEq] at H
                obtain ⟨rfl, rfl⟩ := H
                go_wp2
                go_ret2
                exact ⟨by first | rfl | (simp; done) | (simp [*]; done), by repeat (first | exact Drawn0.refl _ | apply Drawn0.step)⟩

end Go.Proofs.Ytohnoohnppeooaa.Print
