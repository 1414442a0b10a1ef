/- Written by a program of this session out of the translation, with contracts given by hand beside. -/
import Derived.Test.YtohnoohnppeooaaPrint0
import Derived.Test.YtohnoohnppeooaaPrint1
import Derived.Test.YtohnoohnppeooaaPrint4
import Derived.Test.YtohnoohnppeooaaPrint6
namespace Go.Proofs.Ytohnoohnppeooaa.Print
open Go.RowKit Go.Proofs.YtohnoohnppeooaaW.PrintWords Go.Proofs.YtohnoohnppeooaaW.PrintLast Go.Proofs.YtohnoohnppeooaaW.PrintMore
attribute [local go_sem] max2_int min2_int max_two min_two max_three min_three max_four min_four   -- for this text's walks alone
set_option linter.unusedVariables false
set_option linter.unusedSimpArgs false

/-! ### fleuronlaw1_PointsHex: function 6 -/
def fleuronlaw1_PointsHex.f (k : Nat) (a0 : Int) (a1 : Int) : Option (Bool) := if 0 ≤ (Int.tmod (wrap64 ((Int.tmod a1 16) + 16)) 16) then (if (Int.tmod (wrap64 ((Int.tmod a1 16) + 16)) 16) < 16 then ((points_Hex.f k (wrap32 (bt (⟨#[48, 49, 50, 51, 52, 53, 54, 55, 56, 57, 97, 98, 99, 100, 101, 102]⟩ : ByteArray) (Int.tmod (wrap64 ((Int.tmod a1 16) + 16)) 16)))).bind fun bt178 => ((points_Hex.f k (wrap32 (bt (⟨#[48, 49, 50, 51, 52, 53, 54, 55, 56, 57, 65, 66, 67, 68, 69, 70]⟩ : ByteArray) (Int.tmod (wrap64 ((Int.tmod a1 16) + 16)) 16)))).bind fun bt180 => ((points_Hex.f k a0).bind fun bt182 => (if bt178.2 = true then (if bt180.2 = true then (if bt178.1 = (Int.tmod (wrap64 ((Int.tmod a1 16) + 16)) 16) then (if bt180.1 = (Int.tmod (wrap64 ((Int.tmod a1 16) + 16)) 16) then ((points_Letter.f a0).bind fun t184 => (if t184 = true then ((points_Digit.f a0).bind fun t185 => (if t185 = true then (some false) else ((points_Name.f a0).bind fun t186 => (if t186 = true then ((points_Digit.f a0).bind fun t187 => (if t187 = true then (if bt182.2 = true then ((points_Name.f a0).bind fun t188 => (if t188 = true then ((points_White.f a0).bind fun t189 => (if t189 = true then ((points_Name.f a0).bind fun t190 => (if t190 = true then (some false) else (some false))) else ((fleuronlaw1_awake.f k).bind fun t191 => (some t191)))) else (some false))) else (some false)) else ((points_White.f a0).bind fun t192 => (if t192 = true then ((points_Name.f a0).bind fun t193 => (if t193 = true then (some false) else (if bt182.2 = true then (some false) else ((fleuronlaw1_awake.f k).bind fun t194 => (some t194))))) else ((fleuronlaw1_awake.f k).bind fun t195 => (some t195)))))) else (some false))))) else ((points_Digit.f a0).bind fun t196 => (if t196 = true then (if bt182.2 = true then ((points_Name.f a0).bind fun t197 => (if t197 = true then ((points_White.f a0).bind fun t198 => (if t198 = true then ((points_Name.f a0).bind fun t199 => (if t199 = true then (some false) else (some false))) else ((fleuronlaw1_awake.f k).bind fun t200 => (some t200)))) else (some false))) else (some false)) else ((points_White.f a0).bind fun t201 => (if t201 = true then ((points_Name.f a0).bind fun t202 => (if t202 = true then (some false) else (if bt182.2 = true then (some false) else ((fleuronlaw1_awake.f k).bind fun t203 => (some t203))))) else ((fleuronlaw1_awake.f k).bind fun t204 => (some t204)))))))) else (some false)) else (some false)) else (some false)) else (some false))))) else (none)) else (none)
theorem fleuronlaw1_PointsHex.mono : ∀ a0 a1 k, LeO (fleuronlaw1_PointsHex.f k a0 a1) (fleuronlaw1_PointsHex.f (k + 1) a0 a1) := by
  intro a0 a1 k
  unfold fleuronlaw1_PointsHex.f
  repeat' first
      | (with_reducible exact fleuronlaw1_awake.mono _)
      | (with_reducible exact points_Hex.mono _ _)
      | (with_reducible exact LeO.refl _)
      | (with_reducible exact LeO.none _)
      | (with_reducible refine LeO.ite ?_ ?_)
      | (with_reducible refine LeO.bind ?_ (fun _ => ?_))
      | exact fleuronlaw1_awake.mono _
      | exact points_Hex.mono _ _
      | exact LeO.none _
      | refine LeO.ite ?_ ?_
      | refine LeO.bind ?_ (fun _ => ?_)
set_option maxHeartbeats 8000000 in
set_option maxRecDepth 100000 in
theorem fleuronlaw1_PointsHex.calls (k : Nat) (a0 : Int) (a1 : Int) (r : Bool) (w : World) (h : fleuronlaw1_PointsHex.f k a0 a1 = some r) (ht0_ : r = true) :
    Calls Try.prog 6 #[.int .i32 a0, .int .i64 a1] w fun e w' => e = .returned (.bool r) ∧ Below w.heap.size w w' := by
  have HB := Aside0.mk (Below.refl w.heap.size w)
  have H : (if 0 ≤ (Int.tmod (wrap64 ((Int.tmod a1 16) + 16)) 16) then (if (Int.tmod (wrap64 ((Int.tmod a1 16) + 16)) 16) < 16 then ((points_Hex.f k (wrap32 (bt (⟨#[48, 49, 50, 51, 52, 53, 54, 55, 56, 57, 97, 98, 99, 100, 101, 102]⟩ : ByteArray) (Int.tmod (wrap64 ((Int.tmod a1 16) + 16)) 16)))).bind fun bt178 => ((points_Hex.f k (wrap32 (bt (⟨#[48, 49, 50, 51, 52, 53, 54, 55, 56, 57, 65, 66, 67, 68, 69, 70]⟩ : ByteArray) (Int.tmod (wrap64 ((Int.tmod a1 16) + 16)) 16)))).bind fun bt180 => ((points_Hex.f k a0).bind fun bt182 => (if bt178.2 = true then (if bt180.2 = true then (if bt178.1 = (Int.tmod (wrap64 ((Int.tmod a1 16) + 16)) 16) then (if bt180.1 = (Int.tmod (wrap64 ((Int.tmod a1 16) + 16)) 16) then ((points_Letter.f a0).bind fun t184 => (if t184 = true then ((points_Digit.f a0).bind fun t185 => (if t185 = true then (some false) else ((points_Name.f a0).bind fun t186 => (if t186 = true then ((points_Digit.f a0).bind fun t187 => (if t187 = true then (if bt182.2 = true then ((points_Name.f a0).bind fun t188 => (if t188 = true then ((points_White.f a0).bind fun t189 => (if t189 = true then ((points_Name.f a0).bind fun t190 => (if t190 = true then (some false) else (some false))) else ((fleuronlaw1_awake.f k).bind fun t191 => (some t191)))) else (some false))) else (some false)) else ((points_White.f a0).bind fun t192 => (if t192 = true then ((points_Name.f a0).bind fun t193 => (if t193 = true then (some false) else (if bt182.2 = true then (some false) else ((fleuronlaw1_awake.f k).bind fun t194 => (some t194))))) else ((fleuronlaw1_awake.f k).bind fun t195 => (some t195)))))) else (some false))))) else ((points_Digit.f a0).bind fun t196 => (if t196 = true then (if bt182.2 = true then ((points_Name.f a0).bind fun t197 => (if t197 = true then ((points_White.f a0).bind fun t198 => (if t198 = true then ((points_Name.f a0).bind fun t199 => (if t199 = true then (some false) else (some false))) else ((fleuronlaw1_awake.f k).bind fun t200 => (some t200)))) else (some false))) else (some false)) else ((points_White.f a0).bind fun t201 => (if t201 = true then ((points_Name.f a0).bind fun t202 => (if t202 = true then (some false) else (if bt182.2 = true then (some false) else ((fleuronlaw1_awake.f k).bind fun t203 => (some t203))))) else ((fleuronlaw1_awake.f k).bind fun t204 => (some t204)))))))) else (some false)) else (some false)) else (some false)) else (some false))))) else (none)) else (none)) = some r := h
  clear h
  have ht_ := Aside0.mk ht0_
  clear ht0_
  obtain ⟨ji3, hji3⟩ : ∃ j_ : Int, (Int.tmod (wrap64 ((Int.tmod a1 16) + 16)) 16) = j_ := ⟨_, rfl⟩
  replace H : (if 0 ≤ (ji3) then (if (ji3) < 16 then ((points_Hex.f k (wrap32 (bt (⟨#[48, 49, 50, 51, 52, 53, 54, 55, 56, 57, 97, 98, 99, 100, 101, 102]⟩ : ByteArray) (ji3)))).bind fun bt178 => ((points_Hex.f k (wrap32 (bt (⟨#[48, 49, 50, 51, 52, 53, 54, 55, 56, 57, 65, 66, 67, 68, 69, 70]⟩ : ByteArray) (ji3)))).bind fun bt180 => ((points_Hex.f k a0).bind fun bt182 => (if bt178.2 = true then (if bt180.2 = true then (if bt178.1 = (ji3) then (if bt180.1 = (ji3) then ((points_Letter.f a0).bind fun t184 => (if t184 = true then ((points_Digit.f a0).bind fun t185 => (if t185 = true then (some false) else ((points_Name.f a0).bind fun t186 => (if t186 = true then ((points_Digit.f a0).bind fun t187 => (if t187 = true then (if bt182.2 = true then ((points_Name.f a0).bind fun t188 => (if t188 = true then ((points_White.f a0).bind fun t189 => (if t189 = true then ((points_Name.f a0).bind fun t190 => (if t190 = true then (some false) else (some false))) else ((fleuronlaw1_awake.f k).bind fun t191 => (some t191)))) else (some false))) else (some false)) else ((points_White.f a0).bind fun t192 => (if t192 = true then ((points_Name.f a0).bind fun t193 => (if t193 = true then (some false) else (if bt182.2 = true then (some false) else ((fleuronlaw1_awake.f k).bind fun t194 => (some t194))))) else ((fleuronlaw1_awake.f k).bind fun t195 => (some t195)))))) else (some false))))) else ((points_Digit.f a0).bind fun t196 => (if t196 = true then (if bt182.2 = true then ((points_Name.f a0).bind fun t197 => (if t197 = true then ((points_White.f a0).bind fun t198 => (if t198 = true then ((points_Name.f a0).bind fun t199 => (if t199 = true then (some false) else (some false))) else ((fleuronlaw1_awake.f k).bind fun t200 => (some t200)))) else (some false))) else (some false)) else ((points_White.f a0).bind fun t201 => (if t201 = true then ((points_Name.f a0).bind fun t202 => (if t202 = true then (some false) else (if bt182.2 = true then (some false) else ((fleuronlaw1_awake.f k).bind fun t203 => (some t203))))) else ((fleuronlaw1_awake.f k).bind fun t204 => (some t204)))))))) else (some false)) else (some false)) else (some false)) else (some false))))) else (none)) else (none)) = some r := by first | (rw [hji3] at H; exact H) | (simp only [hji3] at H ⊢; exact H)
  by_cases c4 : 0 ≤ (ji3)
  · rw [if_pos c4] at H
    have c4b0 : decide (0 ≤ (ji3)) = true := decide_eq_true c4
    clear c4
    by_cases c5 : (ji3) < 16
    · rw [if_pos c5] at H
      have c5b0 : decide ((ji3) < 16) = true := decide_eq_true c5
      clear c5
      replace H := Option.bind_eq_some_iff.mp H
      obtain ⟨⟨t178, t179⟩, A70, H⟩ := H
      replace H : ((points_Hex.f k (wrap32 (bt (⟨#[48, 49, 50, 51, 52, 53, 54, 55, 56, 57, 65, 66, 67, 68, 69, 70]⟩ : ByteArray) (ji3)))).bind fun bt180 => ((points_Hex.f k a0).bind fun bt182 => (if t179 = true then (if bt180.2 = true then (if t178 = (ji3) then (if bt180.1 = (ji3) then ((points_Letter.f a0).bind fun t184 => (if t184 = true then ((points_Digit.f a0).bind fun t185 => (if t185 = true then (some false) else ((points_Name.f a0).bind fun t186 => (if t186 = true then ((points_Digit.f a0).bind fun t187 => (if t187 = true then (if bt182.2 = true then ((points_Name.f a0).bind fun t188 => (if t188 = true then ((points_White.f a0).bind fun t189 => (if t189 = true then ((points_Name.f a0).bind fun t190 => (if t190 = true then (some false) else (some false))) else ((fleuronlaw1_awake.f k).bind fun t191 => (some t191)))) else (some false))) else (some false)) else ((points_White.f a0).bind fun t192 => (if t192 = true then ((points_Name.f a0).bind fun t193 => (if t193 = true then (some false) else (if bt182.2 = true then (some false) else ((fleuronlaw1_awake.f k).bind fun t194 => (some t194))))) else ((fleuronlaw1_awake.f k).bind fun t195 => (some t195)))))) else (some false))))) else ((points_Digit.f a0).bind fun t196 => (if t196 = true then (if bt182.2 = true then ((points_Name.f a0).bind fun t197 => (if t197 = true then ((points_White.f a0).bind fun t198 => (if t198 = true then ((points_Name.f a0).bind fun t199 => (if t199 = true then (some false) else (some false))) else ((fleuronlaw1_awake.f k).bind fun t200 => (some t200)))) else (some false))) else (some false)) else ((points_White.f a0).bind fun t201 => (if t201 = true then ((points_Name.f a0).bind fun t202 => (if t202 = true then (some false) else (if bt182.2 = true then (some false) else ((fleuronlaw1_awake.f k).bind fun t203 => (some t203))))) else ((fleuronlaw1_awake.f k).bind fun t204 => (some t204)))))))) else (some false)) else (some false)) else (some false)) else (some false)))) = some r := H
      have A7 := Aside0.mk A70
      clear A70
      replace H := Option.bind_eq_some_iff.mp H
      obtain ⟨⟨t180, t181⟩, A90, H⟩ := H
      replace H : ((points_Hex.f k a0).bind fun bt182 => (if t179 = true then (if t181 = true then (if t178 = (ji3) then (if t180 = (ji3) then ((points_Letter.f a0).bind fun t184 => (if t184 = true then ((points_Digit.f a0).bind fun t185 => (if t185 = true then (some false) else ((points_Name.f a0).bind fun t186 => (if t186 = true then ((points_Digit.f a0).bind fun t187 => (if t187 = true then (if bt182.2 = true then ((points_Name.f a0).bind fun t188 => (if t188 = true then ((points_White.f a0).bind fun t189 => (if t189 = true then ((points_Name.f a0).bind fun t190 => (if t190 = true then (some false) else (some false))) else ((fleuronlaw1_awake.f k).bind fun t191 => (some t191)))) else (some false))) else (some false)) else ((points_White.f a0).bind fun t192 => (if t192 = true then ((points_Name.f a0).bind fun t193 => (if t193 = true then (some false) else (if bt182.2 = true then (some false) else ((fleuronlaw1_awake.f k).bind fun t194 => (some t194))))) else ((fleuronlaw1_awake.f k).bind fun t195 => (some t195)))))) else (some false))))) else ((points_Digit.f a0).bind fun t196 => (if t196 = true then (if bt182.2 = true then ((points_Name.f a0).bind fun t197 => (if t197 = true then ((points_White.f a0).bind fun t198 => (if t198 = true then ((points_Name.f a0).bind fun t199 => (if t199 = true then (some false) else (some false))) else ((fleuronlaw1_awake.f k).bind fun t200 => (some t200)))) else (some false))) else (some false)) else ((points_White.f a0).bind fun t201 => (if t201 = true then ((points_Name.f a0).bind fun t202 => (if t202 = true then (some false) else (if bt182.2 = true then (some false) else ((fleuronlaw1_awake.f k).bind fun t203 => (some t203))))) else ((fleuronlaw1_awake.f k).bind fun t204 => (some t204)))))))) else (some false)) else (some false)) else (some false)) else (some false))) = some r := H
      have A9 := Aside0.mk A90
      clear A90
      replace H := Option.bind_eq_some_iff.mp H
      obtain ⟨⟨t182, t183⟩, A100, H⟩ := H
      replace H : (if t179 = true then (if t181 = true then (if t178 = (ji3) then (if t180 = (ji3) then ((points_Letter.f a0).bind fun t184 => (if t184 = true then ((points_Digit.f a0).bind fun t185 => (if t185 = true then (some false) else ((points_Name.f a0).bind fun t186 => (if t186 = true then ((points_Digit.f a0).bind fun t187 => (if t187 = true then (if t183 = true then ((points_Name.f a0).bind fun t188 => (if t188 = true then ((points_White.f a0).bind fun t189 => (if t189 = true then ((points_Name.f a0).bind fun t190 => (if t190 = true then (some false) else (some false))) else ((fleuronlaw1_awake.f k).bind fun t191 => (some t191)))) else (some false))) else (some false)) else ((points_White.f a0).bind fun t192 => (if t192 = true then ((points_Name.f a0).bind fun t193 => (if t193 = true then (some false) else (if t183 = true then (some false) else ((fleuronlaw1_awake.f k).bind fun t194 => (some t194))))) else ((fleuronlaw1_awake.f k).bind fun t195 => (some t195)))))) else (some false))))) else ((points_Digit.f a0).bind fun t196 => (if t196 = true then (if t183 = true then ((points_Name.f a0).bind fun t197 => (if t197 = true then ((points_White.f a0).bind fun t198 => (if t198 = true then ((points_Name.f a0).bind fun t199 => (if t199 = true then (some false) else (some false))) else ((fleuronlaw1_awake.f k).bind fun t200 => (some t200)))) else (some false))) else (some false)) else ((points_White.f a0).bind fun t201 => (if t201 = true then ((points_Name.f a0).bind fun t202 => (if t202 = true then (some false) else (if t183 = true then (some false) else ((fleuronlaw1_awake.f k).bind fun t203 => (some t203))))) else ((fleuronlaw1_awake.f k).bind fun t204 => (some t204)))))))) else (some false)) else (some false)) else (some false)) else (some false)) = some r := H
      have A10 := Aside0.mk A100
      clear A100
      by_cases c11 : t179 = true
      · subst c11
        have H1 : (if t181 = true then (if t178 = (ji3) then (if t180 = (ji3) then ((points_Letter.f a0).bind fun t184 => (if t184 = true then ((points_Digit.f a0).bind fun t185 => (if t185 = true then (some false) else ((points_Name.f a0).bind fun t186 => (if t186 = true then ((points_Digit.f a0).bind fun t187 => (if t187 = true then (if t183 = true then ((points_Name.f a0).bind fun t188 => (if t188 = true then ((points_White.f a0).bind fun t189 => (if t189 = true then ((points_Name.f a0).bind fun t190 => (if t190 = true then (some false) else (some false))) else ((fleuronlaw1_awake.f k).bind fun t191 => (some t191)))) else (some false))) else (some false)) else ((points_White.f a0).bind fun t192 => (if t192 = true then ((points_Name.f a0).bind fun t193 => (if t193 = true then (some false) else (if t183 = true then (some false) else ((fleuronlaw1_awake.f k).bind fun t194 => (some t194))))) else ((fleuronlaw1_awake.f k).bind fun t195 => (some t195)))))) else (some false))))) else ((points_Digit.f a0).bind fun t196 => (if t196 = true then (if t183 = true then ((points_Name.f a0).bind fun t197 => (if t197 = true then ((points_White.f a0).bind fun t198 => (if t198 = true then ((points_Name.f a0).bind fun t199 => (if t199 = true then (some false) else (some false))) else ((fleuronlaw1_awake.f k).bind fun t200 => (some t200)))) else (some false))) else (some false)) else ((points_White.f a0).bind fun t201 => (if t201 = true then ((points_Name.f a0).bind fun t202 => (if t202 = true then (some false) else (if t183 = true then (some false) else ((fleuronlaw1_awake.f k).bind fun t203 => (some t203))))) else ((fleuronlaw1_awake.f k).bind fun t204 => (some t204)))))))) else (some false)) else (some false)) else (some false)) = some r := by rw [if_pos rfl] at H; exact H
        clear H
        have H := H1
        clear H1
        by_cases c12 : t181 = true
        · subst c12
          have H1 : (if t178 = (ji3) then (if t180 = (ji3) then ((points_Letter.f a0).bind fun t184 => (if t184 = true then ((points_Digit.f a0).bind fun t185 => (if t185 = true then (some false) else ((points_Name.f a0).bind fun t186 => (if t186 = true then ((points_Digit.f a0).bind fun t187 => (if t187 = true then (if t183 = true then ((points_Name.f a0).bind fun t188 => (if t188 = true then ((points_White.f a0).bind fun t189 => (if t189 = true then ((points_Name.f a0).bind fun t190 => (if t190 = true then (some false) else (some false))) else ((fleuronlaw1_awake.f k).bind fun t191 => (some t191)))) else (some false))) else (some false)) else ((points_White.f a0).bind fun t192 => (if t192 = true then ((points_Name.f a0).bind fun t193 => (if t193 = true then (some false) else (if t183 = true then (some false) else ((fleuronlaw1_awake.f k).bind fun t194 => (some t194))))) else ((fleuronlaw1_awake.f k).bind fun t195 => (some t195)))))) else (some false))))) else ((points_Digit.f a0).bind fun t196 => (if t196 = true then (if t183 = true then ((points_Name.f a0).bind fun t197 => (if t197 = true then ((points_White.f a0).bind fun t198 => (if t198 = true then ((points_Name.f a0).bind fun t199 => (if t199 = true then (some false) else (some false))) else ((fleuronlaw1_awake.f k).bind fun t200 => (some t200)))) else (some false))) else (some false)) else ((points_White.f a0).bind fun t201 => (if t201 = true then ((points_Name.f a0).bind fun t202 => (if t202 = true then (some false) else (if t183 = true then (some false) else ((fleuronlaw1_awake.f k).bind fun t203 => (some t203))))) else ((fleuronlaw1_awake.f k).bind fun t204 => (some t204)))))))) else (some false)) else (some false)) = some r := by rw [if_pos rfl] at H; exact H
          clear H
          have H := H1
          clear H1
          by_cases c13 : t178 = (ji3)
          · rw [if_pos c13] at H
            have c13b0 : (t178 == (ji3)) = true := beq_iff_eq.mpr c13
            have c13b1 : (t178 != (ji3)) = false := bne_eq_false_iff_eq.mpr c13
            clear c13
            by_cases c14 : t180 = (ji3)
            · rw [if_pos c14] at H
              have c14b0 : (t180 == (ji3)) = true := beq_iff_eq.mpr c14
              have c14b1 : (t180 != (ji3)) = false := bne_eq_false_iff_eq.mpr c14
              clear c14
              replace H := Option.bind_eq_some_iff.mp H
              obtain ⟨t184, A150, H⟩ := H
              replace H : (if t184 = true then ((points_Digit.f a0).bind fun t185 => (if t185 = true then (some false) else ((points_Name.f a0).bind fun t186 => (if t186 = true then ((points_Digit.f a0).bind fun t187 => (if t187 = true then (if t183 = true then ((points_Name.f a0).bind fun t188 => (if t188 = true then ((points_White.f a0).bind fun t189 => (if t189 = true then ((points_Name.f a0).bind fun t190 => (if t190 = true then (some false) else (some false))) else ((fleuronlaw1_awake.f k).bind fun t191 => (some t191)))) else (some false))) else (some false)) else ((points_White.f a0).bind fun t192 => (if t192 = true then ((points_Name.f a0).bind fun t193 => (if t193 = true then (some false) else (if t183 = true then (some false) else ((fleuronlaw1_awake.f k).bind fun t194 => (some t194))))) else ((fleuronlaw1_awake.f k).bind fun t195 => (some t195)))))) else (some false))))) else ((points_Digit.f a0).bind fun t196 => (if t196 = true then (if t183 = true then ((points_Name.f a0).bind fun t197 => (if t197 = true then ((points_White.f a0).bind fun t198 => (if t198 = true then ((points_Name.f a0).bind fun t199 => (if t199 = true then (some false) else (some false))) else ((fleuronlaw1_awake.f k).bind fun t200 => (some t200)))) else (some false))) else (some false)) else ((points_White.f a0).bind fun t201 => (if t201 = true then ((points_Name.f a0).bind fun t202 => (if t202 = true then (some false) else (if t183 = true then (some false) else ((fleuronlaw1_awake.f k).bind fun t203 => (some t203))))) else ((fleuronlaw1_awake.f k).bind fun t204 => (some t204))))))) = some r := H
              have A15 := Aside0.mk A150
              clear A150
              by_cases c16 : t184 = true
              · subst c16
                have H1 : ((points_Digit.f a0).bind fun t185 => (if t185 = true then (some false) else ((points_Name.f a0).bind fun t186 => (if t186 = true then ((points_Digit.f a0).bind fun t187 => (if t187 = true then (if t183 = true then ((points_Name.f a0).bind fun t188 => (if t188 = true then ((points_White.f a0).bind fun t189 => (if t189 = true then ((points_Name.f a0).bind fun t190 => (if t190 = true then (some false) else (some false))) else ((fleuronlaw1_awake.f k).bind fun t191 => (some t191)))) else (some false))) else (some false)) else ((points_White.f a0).bind fun t192 => (if t192 = true then ((points_Name.f a0).bind fun t193 => (if t193 = true then (some false) else (if t183 = true then (some false) else ((fleuronlaw1_awake.f k).bind fun t194 => (some t194))))) else ((fleuronlaw1_awake.f k).bind fun t195 => (some t195)))))) else (some false))))) = some r := by rw [if_pos rfl] at H; exact H
                clear H
                have H := H1
                clear H1
                replace H := Option.bind_eq_some_iff.mp H
                obtain ⟨t185, A170, H⟩ := H
                replace H : (if t185 = true then (some false) else ((points_Name.f a0).bind fun t186 => (if t186 = true then ((points_Digit.f a0).bind fun t187 => (if t187 = true then (if t183 = true then ((points_Name.f a0).bind fun t188 => (if t188 = true then ((points_White.f a0).bind fun t189 => (if t189 = true then ((points_Name.f a0).bind fun t190 => (if t190 = true then (some false) else (some false))) else ((fleuronlaw1_awake.f k).bind fun t191 => (some t191)))) else (some false))) else (some false)) else ((points_White.f a0).bind fun t192 => (if t192 = true then ((points_Name.f a0).bind fun t193 => (if t193 = true then (some false) else (if t183 = true then (some false) else ((fleuronlaw1_awake.f k).bind fun t194 => (some t194))))) else ((fleuronlaw1_awake.f k).bind fun t195 => (some t195)))))) else (some false)))) = some r := H
                have A17 := Aside0.mk A170
                clear A170
                by_cases c18 : t185 = true
                · subst c18
                  have H1 : (some false) = some r := by rw [if_pos rfl] at H; exact H
                  clear H
                  have H := H1
                  clear H1
                  exact absurd ((Option.some.inj H).trans ht_.out) (by decide)
                · replace c18 := Bool.eq_false_iff.mpr c18
                  subst c18
                  have H1 : ((points_Name.f a0).bind fun t186 => (if t186 = true then ((points_Digit.f a0).bind fun t187 => (if t187 = true then (if t183 = true then ((points_Name.f a0).bind fun t188 => (if t188 = true then ((points_White.f a0).bind fun t189 => (if t189 = true then ((points_Name.f a0).bind fun t190 => (if t190 = true then (some false) else (some false))) else ((fleuronlaw1_awake.f k).bind fun t191 => (some t191)))) else (some false))) else (some false)) else ((points_White.f a0).bind fun t192 => (if t192 = true then ((points_Name.f a0).bind fun t193 => (if t193 = true then (some false) else (if t183 = true then (some false) else ((fleuronlaw1_awake.f k).bind fun t194 => (some t194))))) else ((fleuronlaw1_awake.f k).bind fun t195 => (some t195)))))) else (some false))) = some r := by rw [if_neg (show ¬ (false = true) by decide)] at H; exact H
                  clear H
                  have H := H1
                  clear H1
                  replace H := Option.bind_eq_some_iff.mp H
                  obtain ⟨t186, A190, H⟩ := H
                  replace H : (if t186 = true then ((points_Digit.f a0).bind fun t187 => (if t187 = true then (if t183 = true then ((points_Name.f a0).bind fun t188 => (if t188 = true then ((points_White.f a0).bind fun t189 => (if t189 = true then ((points_Name.f a0).bind fun t190 => (if t190 = true then (some false) else (some false))) else ((fleuronlaw1_awake.f k).bind fun t191 => (some t191)))) else (some false))) else (some false)) else ((points_White.f a0).bind fun t192 => (if t192 = true then ((points_Name.f a0).bind fun t193 => (if t193 = true then (some false) else (if t183 = true then (some false) else ((fleuronlaw1_awake.f k).bind fun t194 => (some t194))))) else ((fleuronlaw1_awake.f k).bind fun t195 => (some t195)))))) else (some false)) = some r := H
                  have A19 := Aside0.mk A190
                  clear A190
                  by_cases c20 : t186 = true
                  · subst c20
                    have H1 : ((points_Digit.f a0).bind fun t187 => (if t187 = true then (if t183 = true then ((points_Name.f a0).bind fun t188 => (if t188 = true then ((points_White.f a0).bind fun t189 => (if t189 = true then ((points_Name.f a0).bind fun t190 => (if t190 = true then (some false) else (some false))) else ((fleuronlaw1_awake.f k).bind fun t191 => (some t191)))) else (some false))) else (some false)) else ((points_White.f a0).bind fun t192 => (if t192 = true then ((points_Name.f a0).bind fun t193 => (if t193 = true then (some false) else (if t183 = true then (some false) else ((fleuronlaw1_awake.f k).bind fun t194 => (some t194))))) else ((fleuronlaw1_awake.f k).bind fun t195 => (some t195)))))) = some r := by rw [if_pos rfl] at H; exact H
                    clear H
                    have H := H1
                    clear H1
                    replace H := Option.bind_eq_some_iff.mp H
                    obtain ⟨t187, A210, H⟩ := H
                    replace H : (if t187 = true then (if t183 = true then ((points_Name.f a0).bind fun t188 => (if t188 = true then ((points_White.f a0).bind fun t189 => (if t189 = true then ((points_Name.f a0).bind fun t190 => (if t190 = true then (some false) else (some false))) else ((fleuronlaw1_awake.f k).bind fun t191 => (some t191)))) else (some false))) else (some false)) else ((points_White.f a0).bind fun t192 => (if t192 = true then ((points_Name.f a0).bind fun t193 => (if t193 = true then (some false) else (if t183 = true then (some false) else ((fleuronlaw1_awake.f k).bind fun t194 => (some t194))))) else ((fleuronlaw1_awake.f k).bind fun t195 => (some t195))))) = some r := H
                    have A21 := Aside0.mk A210
                    clear A210
                    by_cases c22 : t187 = true
                    · subst c22
                      have H1 : (if t183 = true then ((points_Name.f a0).bind fun t188 => (if t188 = true then ((points_White.f a0).bind fun t189 => (if t189 = true then ((points_Name.f a0).bind fun t190 => (if t190 = true then (some false) else (some false))) else ((fleuronlaw1_awake.f k).bind fun t191 => (some t191)))) else (some false))) else (some false)) = some r := by rw [if_pos rfl] at H; exact H
                      clear H
                      have H := H1
                      clear H1
                      by_cases c23 : t183 = true
                      · subst c23
                        have H1 : ((points_Name.f a0).bind fun t188 => (if t188 = true then ((points_White.f a0).bind fun t189 => (if t189 = true then ((points_Name.f a0).bind fun t190 => (if t190 = true then (some false) else (some false))) else ((fleuronlaw1_awake.f k).bind fun t191 => (some t191)))) else (some false))) = some r := by rw [if_pos rfl] at H; exact H
                        clear H
                        have H := H1
                        clear H1
                        replace H := Option.bind_eq_some_iff.mp H
                        obtain ⟨t188, A240, H⟩ := H
                        replace H : (if t188 = true then ((points_White.f a0).bind fun t189 => (if t189 = true then ((points_Name.f a0).bind fun t190 => (if t190 = true then (some false) else (some false))) else ((fleuronlaw1_awake.f k).bind fun t191 => (some t191)))) else (some false)) = some r := H
                        have A24 := Aside0.mk A240
                        clear A240
                        by_cases c25 : t188 = true
                        · subst c25
                          have H1 : ((points_White.f a0).bind fun t189 => (if t189 = true then ((points_Name.f a0).bind fun t190 => (if t190 = true then (some false) else (some false))) else ((fleuronlaw1_awake.f k).bind fun t191 => (some t191)))) = some r := by rw [if_pos rfl] at H; exact H
                          clear H
                          have H := H1
                          clear H1
                          replace H := Option.bind_eq_some_iff.mp H
                          obtain ⟨t189, A260, H⟩ := H
                          replace H : (if t189 = true then ((points_Name.f a0).bind fun t190 => (if t190 = true then (some false) else (some false))) else ((fleuronlaw1_awake.f k).bind fun t191 => (some t191))) = some r := H
                          have A26 := Aside0.mk A260
                          clear A260
                          by_cases c27 : t189 = true
                          · subst c27
                            have H1 : ((points_Name.f a0).bind fun t190 => (if t190 = true then (some false) else (some false))) = some r := by rw [if_pos rfl] at H; exact H
                            clear H
                            have H := H1
                            clear H1
                            replace H := Option.bind_eq_some_iff.mp H
                            obtain ⟨t190, A280, H⟩ := H
                            replace H : (if t190 = true then (some false) else (some false)) = some r := H
                            have A28 := Aside0.mk A280
                            clear A280
                            by_cases c29 : t190 = true
                            · subst c29
                              have H1 : (some false) = some r := by rw [if_pos rfl] at H; exact H
                              clear H
                              have H := H1
                              clear H1
                              exact absurd ((Option.some.inj H).trans ht_.out) (by decide)
                            · replace c29 := Bool.eq_false_iff.mpr c29
                              subst c29
                              have H1 : (some false) = some r := by rw [if_neg (show ¬ (false = true) by decide)] at H; exact H
                              clear H
                              have H := H1
                              clear H1
                              exact absurd ((Option.some.inj H).trans ht_.out) (by decide)
                          · replace c27 := Bool.eq_false_iff.mpr c27
                            subst c27
                            have H1 : ((fleuronlaw1_awake.f k).bind fun t191 => (some t191)) = some r := by rw [if_neg (show ¬ (false = true) by decide)] at H; exact H
                            clear H
                            have H := H1
                            clear H1
                            replace H := Option.bind_eq_some_iff.mp H
                            obtain ⟨t191, A300, H⟩ := H
                            replace H : (some t191) = some r := H
                            have A30 := Aside0.mk A300
                            clear A300
                            obtain rfl := Option.some.inj H
                            have p6 : 0 ≤ ((ji3) : Int) := of_decide_eq_true (by first | (with_reducible assumption) | assumption)
                            have q6 : (ji3) < (16 : Int) := of_decide_eq_true (by first | (with_reducible assumption) | assumption)
                            have hx6 := bt_at (⟨#[48, 49, 50, 51, 52, 53, 54, 55, 56, 57, 97, 98, 99, 100, 101, 102]⟩ : ByteArray) (ji3)
                            replace p6 := eq_true p6
                            replace q6 := eq_true q6
                            go_enter Try.func6, Try.ntmps6
                            go_wp2_with (first | ((with_reducible refine gate_callee (f := 9) rfl ?_); refine goesL_ (some 20) rfl rfl Try.func9 (by kernel_rfl) rfl #[.int .i32 (wrap32 (bt (⟨#[48, 49, 50, 51, 52, 53, 54, 55, 56, 57, 97, 98, 99, 100, 101, 102]⟩ : ByteArray) (ji3)))] rfl (by (try simp only [List.map_toArray, List.map_cons, List.map_nil]); first | done | (simp only [hji3]; rfl) | rfl | (simp only [List.length_drop, List.length_take]; rfl)) ?_; (with_reducible refine (points_Hex.calls k (wrap32 (bt (⟨#[48, 49, 50, 51, 52, 53, 54, 55, 56, 57, 97, 98, 99, 100, 101, 102]⟩ : ByteArray) (ji3))) t178 true _ A7.out).mono ?_); rintro e w' ⟨rfl, ⟨nd, rfl⟩⟩; refine ⟨_, rfl, ?_⟩; have p8 : 0 ≤ ((ji3) : Int) := of_decide_eq_true (by first | (with_reducible assumption) | assumption); have q8 : (ji3) < (16 : Int) := of_decide_eq_true (by first | (with_reducible assumption) | assumption); have hx8 := bt_at (⟨#[48, 49, 50, 51, 52, 53, 54, 55, 56, 57, 65, 66, 67, 68, 69, 70]⟩ : ByteArray) (ji3); replace p8 := eq_true p8; replace q8 := eq_true q8) | ((with_reducible refine gate_callee (f := 9) rfl ?_); refine goesL_ (some 27) rfl rfl Try.func9 (by kernel_rfl) rfl #[.int .i32 (wrap32 (bt (⟨#[48, 49, 50, 51, 52, 53, 54, 55, 56, 57, 65, 66, 67, 68, 69, 70]⟩ : ByteArray) (ji3)))] rfl (by (try simp only [List.map_toArray, List.map_cons, List.map_nil]); first | done | (simp only [hji3]; rfl) | rfl | (simp only [List.length_drop, List.length_take]; rfl)) ?_; (with_reducible refine (points_Hex.calls k (wrap32 (bt (⟨#[48, 49, 50, 51, 52, 53, 54, 55, 56, 57, 65, 66, 67, 68, 69, 70]⟩ : ByteArray) (ji3))) t180 true _ A9.out).mono ?_); rintro e w' ⟨rfl, ⟨nd, rfl⟩⟩; refine ⟨_, rfl, ?_⟩) | ((with_reducible refine gate_callee (f := 9) rfl ?_); refine goesL_ (some 32) rfl rfl Try.func9 (by kernel_rfl) rfl #[.int .i32 a0] rfl (by (try simp only [List.map_toArray, List.map_cons, List.map_nil]); first | done | rfl | (simp only [List.length_drop, List.length_take]; rfl)) ?_; (with_reducible refine (points_Hex.calls k a0 t182 true _ A10.out).mono ?_); rintro e w' ⟨rfl, ⟨nd, rfl⟩⟩; refine ⟨_, rfl, ?_⟩) | (go_at_call 16; (with_reducible refine (points_Letter.calls a0 true _ A15.out).mono ?_); rintro e w' ⟨rfl, ⟨nd, rfl⟩⟩) | (go_at_call 18; (with_reducible refine (points_Digit.calls a0 false _ A17.out).mono ?_); rintro e w' ⟨rfl, ⟨nd, rfl⟩⟩) | (go_at_call 20; (with_reducible refine (points_Name.calls a0 true _ A19.out).mono ?_); rintro e w' ⟨rfl, ⟨nd, rfl⟩⟩) | (go_at_call 18; (with_reducible refine (points_Digit.calls a0 true _ A21.out).mono ?_); rintro e w' ⟨rfl, ⟨nd, rfl⟩⟩) | (go_at_call 20; (with_reducible refine (points_Name.calls a0 true _ A24.out).mono ?_); rintro e w' ⟨rfl, ⟨nd, rfl⟩⟩) | (go_at_call 22; (with_reducible refine (points_White.calls a0 false _ A26.out).mono ?_); rintro e w' ⟨rfl, ⟨nd, rfl⟩⟩) | (go_at_call 8; (with_reducible refine (fleuronlaw1_awake.calls k  t191 _ A30.out ht_.out).mono ?_); rintro e w31 ⟨rfl, hb⟩; have n0_ := Aside0.mk (below_step (by repeat (first | (with_reducible first | exact HB.out | apply below_alloc | apply pw_below_drewN | apply below_drew1) | exact HB.out)) hb); clear HB; have HB := n0_; clear n0_; (try clear hb); (try clear hb2); (try clear hk); (try clear hi)))
                            go_ret
                            exact ⟨by first | rfl | exact absurd (Option.some.inj (A19.out.symm.trans A34.out)) (by decide) | (simp [errW_none, errW_some] <;> rfl) | (simp only [← hji3]; first | rfl | (simp [errW_none, errW_some] <;> rfl)) | (simp [*, errW_none, errW_some] <;> rfl), by repeat (first | (with_reducible first | exact HB.out | apply below_alloc | apply pw_below_drewN | apply below_drew1) | exact HB.out)⟩
                        · replace c25 := Bool.eq_false_iff.mpr c25
                          subst c25
                          have H1 : (some false) = some r := by rw [if_neg (show ¬ (false = true) by decide)] at H; exact H
                          clear H
                          have H := H1
                          clear H1
                          exact absurd ((Option.some.inj H).trans ht_.out) (by decide)
                      · replace c23 := Bool.eq_false_iff.mpr c23
                        subst c23
                        have H1 : (some false) = some r := by rw [if_neg (show ¬ (false = true) by decide)] at H; exact H
                        clear H
                        have H := H1
                        clear H1
                        exact absurd ((Option.some.inj H).trans ht_.out) (by decide)
                    · replace c22 := Bool.eq_false_iff.mpr c22
                      subst c22
                      have H1 : ((points_White.f a0).bind fun t192 => (if t192 = true then ((points_Name.f a0).bind fun t193 => (if t193 = true then (some false) else (if t183 = true then (some false) else ((fleuronlaw1_awake.f k).bind fun t194 => (some t194))))) else ((fleuronlaw1_awake.f k).bind fun t195 => (some t195)))) = some r := by rw [if_neg (show ¬ (false = true) by decide)] at H; exact H
                      clear H
                      have H := H1
                      clear H1
                      replace H := Option.bind_eq_some_iff.mp H
                      obtain ⟨t192, A320, H⟩ := H
                      replace H : (if t192 = true then ((points_Name.f a0).bind fun t193 => (if t193 = true then (some false) else (if t183 = true then (some false) else ((fleuronlaw1_awake.f k).bind fun t194 => (some t194))))) else ((fleuronlaw1_awake.f k).bind fun t195 => (some t195))) = some r := H
                      have A32 := Aside0.mk A320
                      clear A320
                      by_cases c33 : t192 = true
                      · subst c33
                        have H1 : ((points_Name.f a0).bind fun t193 => (if t193 = true then (some false) else (if t183 = true then (some false) else ((fleuronlaw1_awake.f k).bind fun t194 => (some t194))))) = some r := by rw [if_pos rfl] at H; exact H
                        clear H
                        have H := H1
                        clear H1
                        replace H := Option.bind_eq_some_iff.mp H
                        obtain ⟨t193, A340, H⟩ := H
                        replace H : (if t193 = true then (some false) else (if t183 = true then (some false) else ((fleuronlaw1_awake.f k).bind fun t194 => (some t194)))) = some r := H
                        have A34 := Aside0.mk A340
                        clear A340
                        by_cases c35 : t193 = true
                        · subst c35
                          have H1 : (some false) = some r := by rw [if_pos rfl] at H; exact H
                          clear H
                          have H := H1
                          clear H1
                          exact absurd ((Option.some.inj H).trans ht_.out) (by decide)
                        · replace c35 := Bool.eq_false_iff.mpr c35
                          subst c35
                          have H1 : (if t183 = true then (some false) else ((fleuronlaw1_awake.f k).bind fun t194 => (some t194))) = some r := by rw [if_neg (show ¬ (false = true) by decide)] at H; exact H
                          clear H
                          have H := H1
                          clear H1
                          by_cases c36 : t183 = true
                          · subst c36
                            have H1 : (some false) = some r := by rw [if_pos rfl] at H; exact H
                            clear H
                            have H := H1
                            clear H1
                            exact absurd ((Option.some.inj H).trans ht_.out) (by decide)
                          · replace c36 := Bool.eq_false_iff.mpr c36
                            subst c36
                            have H1 : ((fleuronlaw1_awake.f k).bind fun t194 => (some t194)) = some r := by rw [if_neg (show ¬ (false = true) by decide)] at H; exact H
                            clear H
                            have H := H1
                            clear H1
                            replace H := Option.bind_eq_some_iff.mp H
                            obtain ⟨t194, A370, H⟩ := H
                            replace H : (some t194) = some r := H
                            have A37 := Aside0.mk A370
                            clear A370
                            obtain rfl := Option.some.inj H
                            have p6 : 0 ≤ ((ji3) : Int) := of_decide_eq_true (by first | (with_reducible assumption) | assumption)
                            have q6 : (ji3) < (16 : Int) := of_decide_eq_true (by first | (with_reducible assumption) | assumption)
                            have hx6 := bt_at (⟨#[48, 49, 50, 51, 52, 53, 54, 55, 56, 57, 97, 98, 99, 100, 101, 102]⟩ : ByteArray) (ji3)
                            replace p6 := eq_true p6
                            replace q6 := eq_true q6
                            go_enter Try.func6, Try.ntmps6
                            go_wp2_with (first | ((with_reducible refine gate_callee (f := 9) rfl ?_); refine goesL_ (some 20) rfl rfl Try.func9 (by kernel_rfl) rfl #[.int .i32 (wrap32 (bt (⟨#[48, 49, 50, 51, 52, 53, 54, 55, 56, 57, 97, 98, 99, 100, 101, 102]⟩ : ByteArray) (ji3)))] rfl (by (try simp only [List.map_toArray, List.map_cons, List.map_nil]); first | done | (simp only [hji3]; rfl) | rfl | (simp only [List.length_drop, List.length_take]; rfl)) ?_; (with_reducible refine (points_Hex.calls k (wrap32 (bt (⟨#[48, 49, 50, 51, 52, 53, 54, 55, 56, 57, 97, 98, 99, 100, 101, 102]⟩ : ByteArray) (ji3))) t178 true _ A7.out).mono ?_); rintro e w' ⟨rfl, ⟨nd, rfl⟩⟩; refine ⟨_, rfl, ?_⟩; have p8 : 0 ≤ ((ji3) : Int) := of_decide_eq_true (by first | (with_reducible assumption) | assumption); have q8 : (ji3) < (16 : Int) := of_decide_eq_true (by first | (with_reducible assumption) | assumption); have hx8 := bt_at (⟨#[48, 49, 50, 51, 52, 53, 54, 55, 56, 57, 65, 66, 67, 68, 69, 70]⟩ : ByteArray) (ji3); replace p8 := eq_true p8; replace q8 := eq_true q8) | ((with_reducible refine gate_callee (f := 9) rfl ?_); refine goesL_ (some 27) rfl rfl Try.func9 (by kernel_rfl) rfl #[.int .i32 (wrap32 (bt (⟨#[48, 49, 50, 51, 52, 53, 54, 55, 56, 57, 65, 66, 67, 68, 69, 70]⟩ : ByteArray) (ji3)))] rfl (by (try simp only [List.map_toArray, List.map_cons, List.map_nil]); first | done | (simp only [hji3]; rfl) | rfl | (simp only [List.length_drop, List.length_take]; rfl)) ?_; (with_reducible refine (points_Hex.calls k (wrap32 (bt (⟨#[48, 49, 50, 51, 52, 53, 54, 55, 56, 57, 65, 66, 67, 68, 69, 70]⟩ : ByteArray) (ji3))) t180 true _ A9.out).mono ?_); rintro e w' ⟨rfl, ⟨nd, rfl⟩⟩; refine ⟨_, rfl, ?_⟩) | ((with_reducible refine gate_callee (f := 9) rfl ?_); refine goesL_ (some 32) rfl rfl Try.func9 (by kernel_rfl) rfl #[.int .i32 a0] rfl (by (try simp only [List.map_toArray, List.map_cons, List.map_nil]); first | done | rfl | (simp only [List.length_drop, List.length_take]; rfl)) ?_; (with_reducible refine (points_Hex.calls k a0 t182 false _ A10.out).mono ?_); rintro e w' ⟨rfl, ⟨nd, rfl⟩⟩; refine ⟨_, rfl, ?_⟩) | (go_at_call 16; (with_reducible refine (points_Letter.calls a0 true _ A15.out).mono ?_); rintro e w' ⟨rfl, ⟨nd, rfl⟩⟩) | (go_at_call 18; (with_reducible refine (points_Digit.calls a0 false _ A17.out).mono ?_); rintro e w' ⟨rfl, ⟨nd, rfl⟩⟩) | (go_at_call 20; (with_reducible refine (points_Name.calls a0 true _ A19.out).mono ?_); rintro e w' ⟨rfl, ⟨nd, rfl⟩⟩) | (go_at_call 18; (with_reducible refine (points_Digit.calls a0 false _ A21.out).mono ?_); rintro e w' ⟨rfl, ⟨nd, rfl⟩⟩) | (go_at_call 22; (with_reducible refine (points_White.calls a0 true _ A32.out).mono ?_); rintro e w' ⟨rfl, ⟨nd, rfl⟩⟩) | (go_at_call 20; (with_reducible refine (points_Name.calls a0 false _ A34.out).mono ?_); rintro e w' ⟨rfl, ⟨nd, rfl⟩⟩) | (go_at_call 8; (with_reducible refine (fleuronlaw1_awake.calls k  t194 _ A37.out ht_.out).mono ?_); rintro e w38 ⟨rfl, hb⟩; have n0_ := Aside0.mk (below_step (by repeat (first | (with_reducible first | exact HB.out | apply below_alloc | apply pw_below_drewN | apply below_drew1) | exact HB.out)) hb); clear HB; have HB := n0_; clear n0_; (try clear hb); (try clear hb2); (try clear hk); (try clear hi)))
                            go_ret
                            exact ⟨by first | rfl | exact absurd (Option.some.inj (A19.out.symm.trans A34.out)) (by decide) | (simp [errW_none, errW_some] <;> rfl) | (simp only [← hji3]; first | rfl | (simp [errW_none, errW_some] <;> rfl)) | (simp [*, errW_none, errW_some] <;> rfl), by repeat (first | (with_reducible first | exact HB.out | apply below_alloc | apply pw_below_drewN | apply below_drew1) | exact HB.out)⟩
                      · replace c33 := Bool.eq_false_iff.mpr c33
                        subst c33
                        have H1 : ((fleuronlaw1_awake.f k).bind fun t195 => (some t195)) = some r := by rw [if_neg (show ¬ (false = true) by decide)] at H; exact H
                        clear H
                        have H := H1
                        clear H1
                        replace H := Option.bind_eq_some_iff.mp H
                        obtain ⟨t195, A390, H⟩ := H
                        replace H : (some t195) = some r := H
                        have A39 := Aside0.mk A390
                        clear A390
                        obtain rfl := Option.some.inj H
                        have p6 : 0 ≤ ((ji3) : Int) := of_decide_eq_true (by first | (with_reducible assumption) | assumption)
                        have q6 : (ji3) < (16 : Int) := of_decide_eq_true (by first | (with_reducible assumption) | assumption)
                        have hx6 := bt_at (⟨#[48, 49, 50, 51, 52, 53, 54, 55, 56, 57, 97, 98, 99, 100, 101, 102]⟩ : ByteArray) (ji3)
                        replace p6 := eq_true p6
                        replace q6 := eq_true q6
                        go_enter Try.func6, Try.ntmps6
                        go_wp2_with (first | ((with_reducible refine gate_callee (f := 9) rfl ?_); refine goesL_ (some 20) rfl rfl Try.func9 (by kernel_rfl) rfl #[.int .i32 (wrap32 (bt (⟨#[48, 49, 50, 51, 52, 53, 54, 55, 56, 57, 97, 98, 99, 100, 101, 102]⟩ : ByteArray) (ji3)))] rfl (by (try simp only [List.map_toArray, List.map_cons, List.map_nil]); first | done | (simp only [hji3]; rfl) | rfl | (simp only [List.length_drop, List.length_take]; rfl)) ?_; (with_reducible refine (points_Hex.calls k (wrap32 (bt (⟨#[48, 49, 50, 51, 52, 53, 54, 55, 56, 57, 97, 98, 99, 100, 101, 102]⟩ : ByteArray) (ji3))) t178 true _ A7.out).mono ?_); rintro e w' ⟨rfl, ⟨nd, rfl⟩⟩; refine ⟨_, rfl, ?_⟩; have p8 : 0 ≤ ((ji3) : Int) := of_decide_eq_true (by first | (with_reducible assumption) | assumption); have q8 : (ji3) < (16 : Int) := of_decide_eq_true (by first | (with_reducible assumption) | assumption); have hx8 := bt_at (⟨#[48, 49, 50, 51, 52, 53, 54, 55, 56, 57, 65, 66, 67, 68, 69, 70]⟩ : ByteArray) (ji3); replace p8 := eq_true p8; replace q8 := eq_true q8) | ((with_reducible refine gate_callee (f := 9) rfl ?_); refine goesL_ (some 27) rfl rfl Try.func9 (by kernel_rfl) rfl #[.int .i32 (wrap32 (bt (⟨#[48, 49, 50, 51, 52, 53, 54, 55, 56, 57, 65, 66, 67, 68, 69, 70]⟩ : ByteArray) (ji3)))] rfl (by (try simp only [List.map_toArray, List.map_cons, List.map_nil]); first | done | (simp only [hji3]; rfl) | rfl | (simp only [List.length_drop, List.length_take]; rfl)) ?_; (with_reducible refine (points_Hex.calls k (wrap32 (bt (⟨#[48, 49, 50, 51, 52, 53, 54, 55, 56, 57, 65, 66, 67, 68, 69, 70]⟩ : ByteArray) (ji3))) t180 true _ A9.out).mono ?_); rintro e w' ⟨rfl, ⟨nd, rfl⟩⟩; refine ⟨_, rfl, ?_⟩) | ((with_reducible refine gate_callee (f := 9) rfl ?_); refine goesL_ (some 32) rfl rfl Try.func9 (by kernel_rfl) rfl #[.int .i32 a0] rfl (by (try simp only [List.map_toArray, List.map_cons, List.map_nil]); first | done | rfl | (simp only [List.length_drop, List.length_take]; rfl)) ?_; (with_reducible refine (points_Hex.calls k a0 t182 t183 _ A10.out).mono ?_); rintro e w' ⟨rfl, ⟨nd, rfl⟩⟩; refine ⟨_, rfl, ?_⟩) | (go_at_call 16; (with_reducible refine (points_Letter.calls a0 true _ A15.out).mono ?_); rintro e w' ⟨rfl, ⟨nd, rfl⟩⟩) | (go_at_call 18; (with_reducible refine (points_Digit.calls a0 false _ A17.out).mono ?_); rintro e w' ⟨rfl, ⟨nd, rfl⟩⟩) | (go_at_call 20; (with_reducible refine (points_Name.calls a0 true _ A19.out).mono ?_); rintro e w' ⟨rfl, ⟨nd, rfl⟩⟩) | (go_at_call 18; (with_reducible refine (points_Digit.calls a0 false _ A21.out).mono ?_); rintro e w' ⟨rfl, ⟨nd, rfl⟩⟩) | (go_at_call 22; (with_reducible refine (points_White.calls a0 false _ A32.out).mono ?_); rintro e w' ⟨rfl, ⟨nd, rfl⟩⟩) | (go_at_call 8; (with_reducible refine (fleuronlaw1_awake.calls k  t195 _ A39.out ht_.out).mono ?_); rintro e w40 ⟨rfl, hb⟩; have n0_ := Aside0.mk (below_step (by repeat (first | (with_reducible first | exact HB.out | apply below_alloc | apply pw_below_drewN | apply below_drew1) | exact HB.out)) hb); clear HB; have HB := n0_; clear n0_; (try clear hb); (try clear hb2); (try clear hk); (try clear hi)))
                        go_ret
                        exact ⟨by first | rfl | exact absurd (Option.some.inj (A19.out.symm.trans A34.out)) (by decide) | (simp [errW_none, errW_some] <;> rfl) | (simp only [← hji3]; first | rfl | (simp [errW_none, errW_some] <;> rfl)) | (simp [*, errW_none, errW_some] <;> rfl), by repeat (first | (with_reducible first | exact HB.out | apply below_alloc | apply pw_below_drewN | apply below_drew1) | exact HB.out)⟩
                  · replace c20 := Bool.eq_false_iff.mpr c20
                    subst c20
                    have H1 : (some false) = some r := by rw [if_neg (show ¬ (false = true) by decide)] at H; exact H
                    clear H
                    have H := H1
                    clear H1
                    exact absurd ((Option.some.inj H).trans ht_.out) (by decide)
              · replace c16 := Bool.eq_false_iff.mpr c16
                subst c16
                have H1 : ((points_Digit.f a0).bind fun t196 => (if t196 = true then (if t183 = true then ((points_Name.f a0).bind fun t197 => (if t197 = true then ((points_White.f a0).bind fun t198 => (if t198 = true then ((points_Name.f a0).bind fun t199 => (if t199 = true then (some false) else (some false))) else ((fleuronlaw1_awake.f k).bind fun t200 => (some t200)))) else (some false))) else (some false)) else ((points_White.f a0).bind fun t201 => (if t201 = true then ((points_Name.f a0).bind fun t202 => (if t202 = true then (some false) else (if t183 = true then (some false) else ((fleuronlaw1_awake.f k).bind fun t203 => (some t203))))) else ((fleuronlaw1_awake.f k).bind fun t204 => (some t204)))))) = some r := by rw [if_neg (show ¬ (false = true) by decide)] at H; exact H
                clear H
                have H := H1
                clear H1
                replace H := Option.bind_eq_some_iff.mp H
                obtain ⟨t196, A410, H⟩ := H
                replace H : (if t196 = true then (if t183 = true then ((points_Name.f a0).bind fun t197 => (if t197 = true then ((points_White.f a0).bind fun t198 => (if t198 = true then ((points_Name.f a0).bind fun t199 => (if t199 = true then (some false) else (some false))) else ((fleuronlaw1_awake.f k).bind fun t200 => (some t200)))) else (some false))) else (some false)) else ((points_White.f a0).bind fun t201 => (if t201 = true then ((points_Name.f a0).bind fun t202 => (if t202 = true then (some false) else (if t183 = true then (some false) else ((fleuronlaw1_awake.f k).bind fun t203 => (some t203))))) else ((fleuronlaw1_awake.f k).bind fun t204 => (some t204))))) = some r := H
                have A41 := Aside0.mk A410
                clear A410
                by_cases c42 : t196 = true
                · subst c42
                  have H1 : (if t183 = true then ((points_Name.f a0).bind fun t197 => (if t197 = true then ((points_White.f a0).bind fun t198 => (if t198 = true then ((points_Name.f a0).bind fun t199 => (if t199 = true then (some false) else (some false))) else ((fleuronlaw1_awake.f k).bind fun t200 => (some t200)))) else (some false))) else (some false)) = some r := by rw [if_pos rfl] at H; exact H
                  clear H
                  have H := H1
                  clear H1
                  by_cases c43 : t183 = true
                  · subst c43
                    have H1 : ((points_Name.f a0).bind fun t197 => (if t197 = true then ((points_White.f a0).bind fun t198 => (if t198 = true then ((points_Name.f a0).bind fun t199 => (if t199 = true then (some false) else (some false))) else ((fleuronlaw1_awake.f k).bind fun t200 => (some t200)))) else (some false))) = some r := by rw [if_pos rfl] at H; exact H
                    clear H
                    have H := H1
                    clear H1
                    replace H := Option.bind_eq_some_iff.mp H
                    obtain ⟨t197, A440, H⟩ := H
                    replace H : (if t197 = true then ((points_White.f a0).bind fun t198 => (if t198 = true then ((points_Name.f a0).bind fun t199 => (if t199 = true then (some false) else (some false))) else ((fleuronlaw1_awake.f k).bind fun t200 => (some t200)))) else (some false)) = some r := H
                    have A44 := Aside0.mk A440
                    clear A440
                    by_cases c45 : t197 = true
                    · subst c45
                      have H1 : ((points_White.f a0).bind fun t198 => (if t198 = true then ((points_Name.f a0).bind fun t199 => (if t199 = true then (some false) else (some false))) else ((fleuronlaw1_awake.f k).bind fun t200 => (some t200)))) = some r := by rw [if_pos rfl] at H; exact H
                      clear H
                      have H := H1
                      clear H1
                      replace H := Option.bind_eq_some_iff.mp H
                      obtain ⟨t198, A460, H⟩ := H
                      replace H : (if t198 = true then ((points_Name.f a0).bind fun t199 => (if t199 = true then (some false) else (some false))) else ((fleuronlaw1_awake.f k).bind fun t200 => (some t200))) = some r := H
                      have A46 := Aside0.mk A460
                      clear A460
                      by_cases c47 : t198 = true
                      · subst c47
                        have H1 : ((points_Name.f a0).bind fun t199 => (if t199 = true then (some false) else (some false))) = some r := by rw [if_pos rfl] at H; exact H
                        clear H
                        have H := H1
                        clear H1
                        replace H := Option.bind_eq_some_iff.mp H
                        obtain ⟨t199, A480, H⟩ := H
                        replace H : (if t199 = true then (some false) else (some false)) = some r := H
                        have A48 := Aside0.mk A480
                        clear A480
                        by_cases c49 : t199 = true
                        · subst c49
                          have H1 : (some false) = some r := by rw [if_pos rfl] at H; exact H
                          clear H
                          have H := H1
                          clear H1
                          exact absurd ((Option.some.inj H).trans ht_.out) (by decide)
                        · replace c49 := Bool.eq_false_iff.mpr c49
                          subst c49
                          have H1 : (some false) = some r := by rw [if_neg (show ¬ (false = true) by decide)] at H; exact H
                          clear H
                          have H := H1
                          clear H1
                          exact absurd ((Option.some.inj H).trans ht_.out) (by decide)
                      · replace c47 := Bool.eq_false_iff.mpr c47
                        subst c47
                        have H1 : ((fleuronlaw1_awake.f k).bind fun t200 => (some t200)) = some r := by rw [if_neg (show ¬ (false = true) by decide)] at H; exact H
                        clear H
                        have H := H1
                        clear H1
                        replace H := Option.bind_eq_some_iff.mp H
                        obtain ⟨t200, A500, H⟩ := H
                        replace H : (some t200) = some r := H
                        have A50 := Aside0.mk A500
                        clear A500
                        obtain rfl := Option.some.inj H
                        have p6 : 0 ≤ ((ji3) : Int) := of_decide_eq_true (by first | (with_reducible assumption) | assumption)
                        have q6 : (ji3) < (16 : Int) := of_decide_eq_true (by first | (with_reducible assumption) | assumption)
                        have hx6 := bt_at (⟨#[48, 49, 50, 51, 52, 53, 54, 55, 56, 57, 97, 98, 99, 100, 101, 102]⟩ : ByteArray) (ji3)
                        replace p6 := eq_true p6
                        replace q6 := eq_true q6
                        go_enter Try.func6, Try.ntmps6
                        go_wp2_with (first | ((with_reducible refine gate_callee (f := 9) rfl ?_); refine goesL_ (some 20) rfl rfl Try.func9 (by kernel_rfl) rfl #[.int .i32 (wrap32 (bt (⟨#[48, 49, 50, 51, 52, 53, 54, 55, 56, 57, 97, 98, 99, 100, 101, 102]⟩ : ByteArray) (ji3)))] rfl (by (try simp only [List.map_toArray, List.map_cons, List.map_nil]); first | done | (simp only [hji3]; rfl) | rfl | (simp only [List.length_drop, List.length_take]; rfl)) ?_; (with_reducible refine (points_Hex.calls k (wrap32 (bt (⟨#[48, 49, 50, 51, 52, 53, 54, 55, 56, 57, 97, 98, 99, 100, 101, 102]⟩ : ByteArray) (ji3))) t178 true _ A7.out).mono ?_); rintro e w' ⟨rfl, ⟨nd, rfl⟩⟩; refine ⟨_, rfl, ?_⟩; have p8 : 0 ≤ ((ji3) : Int) := of_decide_eq_true (by first | (with_reducible assumption) | assumption); have q8 : (ji3) < (16 : Int) := of_decide_eq_true (by first | (with_reducible assumption) | assumption); have hx8 := bt_at (⟨#[48, 49, 50, 51, 52, 53, 54, 55, 56, 57, 65, 66, 67, 68, 69, 70]⟩ : ByteArray) (ji3); replace p8 := eq_true p8; replace q8 := eq_true q8) | ((with_reducible refine gate_callee (f := 9) rfl ?_); refine goesL_ (some 27) rfl rfl Try.func9 (by kernel_rfl) rfl #[.int .i32 (wrap32 (bt (⟨#[48, 49, 50, 51, 52, 53, 54, 55, 56, 57, 65, 66, 67, 68, 69, 70]⟩ : ByteArray) (ji3)))] rfl (by (try simp only [List.map_toArray, List.map_cons, List.map_nil]); first | done | (simp only [hji3]; rfl) | rfl | (simp only [List.length_drop, List.length_take]; rfl)) ?_; (with_reducible refine (points_Hex.calls k (wrap32 (bt (⟨#[48, 49, 50, 51, 52, 53, 54, 55, 56, 57, 65, 66, 67, 68, 69, 70]⟩ : ByteArray) (ji3))) t180 true _ A9.out).mono ?_); rintro e w' ⟨rfl, ⟨nd, rfl⟩⟩; refine ⟨_, rfl, ?_⟩) | ((with_reducible refine gate_callee (f := 9) rfl ?_); refine goesL_ (some 32) rfl rfl Try.func9 (by kernel_rfl) rfl #[.int .i32 a0] rfl (by (try simp only [List.map_toArray, List.map_cons, List.map_nil]); first | done | rfl | (simp only [List.length_drop, List.length_take]; rfl)) ?_; (with_reducible refine (points_Hex.calls k a0 t182 true _ A10.out).mono ?_); rintro e w' ⟨rfl, ⟨nd, rfl⟩⟩; refine ⟨_, rfl, ?_⟩) | (go_at_call 16; (with_reducible refine (points_Letter.calls a0 false _ A15.out).mono ?_); rintro e w' ⟨rfl, ⟨nd, rfl⟩⟩) | (go_at_call 18; (with_reducible refine (points_Digit.calls a0 true _ A41.out).mono ?_); rintro e w' ⟨rfl, ⟨nd, rfl⟩⟩) | (go_at_call 20; (with_reducible refine (points_Name.calls a0 true _ A44.out).mono ?_); rintro e w' ⟨rfl, ⟨nd, rfl⟩⟩) | (go_at_call 22; (with_reducible refine (points_White.calls a0 false _ A46.out).mono ?_); rintro e w' ⟨rfl, ⟨nd, rfl⟩⟩) | (go_at_call 8; (with_reducible refine (fleuronlaw1_awake.calls k  t200 _ A50.out ht_.out).mono ?_); rintro e w51 ⟨rfl, hb⟩; have n0_ := Aside0.mk (below_step (by repeat (first | (with_reducible first | exact HB.out | apply below_alloc | apply pw_below_drewN | apply below_drew1) | exact HB.out)) hb); clear HB; have HB := n0_; clear n0_; (try clear hb); (try clear hb2); (try clear hk); (try clear hi)))
                        go_ret
                        exact ⟨by first | rfl | exact absurd (Option.some.inj (A19.out.symm.trans A34.out)) (by decide) | (simp [errW_none, errW_some] <;> rfl) | (simp only [← hji3]; first | rfl | (simp [errW_none, errW_some] <;> rfl)) | (simp [*, errW_none, errW_some] <;> rfl), by repeat (first | (with_reducible first | exact HB.out | apply below_alloc | apply pw_below_drewN | apply below_drew1) | exact HB.out)⟩
                    · replace c45 := Bool.eq_false_iff.mpr c45
                      subst c45
                      have H1 : (some false) = some r := by rw [if_neg (show ¬ (false = true) by decide)] at H; exact H
                      clear H
                      have H := H1
                      clear H1
                      exact absurd ((Option.some.inj H).trans ht_.out) (by decide)
                  · replace c43 := Bool.eq_false_iff.mpr c43
                    subst c43
                    have H1 : (some false) = some r := by rw [if_neg (show ¬ (false = true) by decide)] at H; exact H
                    clear H
                    have H := H1
                    clear H1
                    exact absurd ((Option.some.inj H).trans ht_.out) (by decide)
                · replace c42 := Bool.eq_false_iff.mpr c42
                  subst c42
                  have H1 : ((points_White.f a0).bind fun t201 => (if t201 = true then ((points_Name.f a0).bind fun t202 => (if t202 = true then (some false) else (if t183 = true then (some false) else ((fleuronlaw1_awake.f k).bind fun t203 => (some t203))))) else ((fleuronlaw1_awake.f k).bind fun t204 => (some t204)))) = some r := by rw [if_neg (show ¬ (false = true) by decide)] at H; exact H
                  clear H
                  have H := H1
                  clear H1
                  replace H := Option.bind_eq_some_iff.mp H
                  obtain ⟨t201, A520, H⟩ := H
                  replace H : (if t201 = true then ((points_Name.f a0).bind fun t202 => (if t202 = true then (some false) else (if t183 = true then (some false) else ((fleuronlaw1_awake.f k).bind fun t203 => (some t203))))) else ((fleuronlaw1_awake.f k).bind fun t204 => (some t204))) = some r := H
                  have A52 := Aside0.mk A520
                  clear A520
                  by_cases c53 : t201 = true
                  · subst c53
                    have H1 : ((points_Name.f a0).bind fun t202 => (if t202 = true then (some false) else (if t183 = true then (some false) else ((fleuronlaw1_awake.f k).bind fun t203 => (some t203))))) = some r := by rw [if_pos rfl] at H; exact H
                    clear H
                    have H := H1
                    clear H1
                    replace H := Option.bind_eq_some_iff.mp H
                    obtain ⟨t202, A540, H⟩ := H
                    replace H : (if t202 = true then (some false) else (if t183 = true then (some false) else ((fleuronlaw1_awake.f k).bind fun t203 => (some t203)))) = some r := H
                    have A54 := Aside0.mk A540
                    clear A540
                    by_cases c55 : t202 = true
                    · subst c55
                      have H1 : (some false) = some r := by rw [if_pos rfl] at H; exact H
                      clear H
                      have H := H1
                      clear H1
                      exact absurd ((Option.some.inj H).trans ht_.out) (by decide)
                    · replace c55 := Bool.eq_false_iff.mpr c55
                      subst c55
                      have H1 : (if t183 = true then (some false) else ((fleuronlaw1_awake.f k).bind fun t203 => (some t203))) = some r := by rw [if_neg (show ¬ (false = true) by decide)] at H; exact H
                      clear H
                      have H := H1
                      clear H1
                      by_cases c56 : t183 = true
                      · subst c56
                        have H1 : (some false) = some r := by rw [if_pos rfl] at H; exact H
                        clear H
                        have H := H1
                        clear H1
                        exact absurd ((Option.some.inj H).trans ht_.out) (by decide)
                      · replace c56 := Bool.eq_false_iff.mpr c56
                        subst c56
                        have H1 : ((fleuronlaw1_awake.f k).bind fun t203 => (some t203)) = some r := by rw [if_neg (show ¬ (false = true) by decide)] at H; exact H
                        clear H
                        have H := H1
                        clear H1
                        replace H := Option.bind_eq_some_iff.mp H
                        obtain ⟨t203, A570, H⟩ := H
                        replace H : (some t203) = some r := H
                        have A57 := Aside0.mk A570
                        clear A570
                        obtain rfl := Option.some.inj H
                        have p6 : 0 ≤ ((ji3) : Int) := of_decide_eq_true (by first | (with_reducible assumption) | assumption)
                        have q6 : (ji3) < (16 : Int) := of_decide_eq_true (by first | (with_reducible assumption) | assumption)
                        have hx6 := bt_at (⟨#[48, 49, 50, 51, 52, 53, 54, 55, 56, 57, 97, 98, 99, 100, 101, 102]⟩ : ByteArray) (ji3)
                        replace p6 := eq_true p6
                        replace q6 := eq_true q6
                        go_enter Try.func6, Try.ntmps6
                        go_wp2_with (first | ((with_reducible refine gate_callee (f := 9) rfl ?_); refine goesL_ (some 20) rfl rfl Try.func9 (by kernel_rfl) rfl #[.int .i32 (wrap32 (bt (⟨#[48, 49, 50, 51, 52, 53, 54, 55, 56, 57, 97, 98, 99, 100, 101, 102]⟩ : ByteArray) (ji3)))] rfl (by (try simp only [List.map_toArray, List.map_cons, List.map_nil]); first | done | (simp only [hji3]; rfl) | rfl | (simp only [List.length_drop, List.length_take]; rfl)) ?_; (with_reducible refine (points_Hex.calls k (wrap32 (bt (⟨#[48, 49, 50, 51, 52, 53, 54, 55, 56, 57, 97, 98, 99, 100, 101, 102]⟩ : ByteArray) (ji3))) t178 true _ A7.out).mono ?_); rintro e w' ⟨rfl, ⟨nd, rfl⟩⟩; refine ⟨_, rfl, ?_⟩; have p8 : 0 ≤ ((ji3) : Int) := of_decide_eq_true (by first | (with_reducible assumption) | assumption); have q8 : (ji3) < (16 : Int) := of_decide_eq_true (by first | (with_reducible assumption) | assumption); have hx8 := bt_at (⟨#[48, 49, 50, 51, 52, 53, 54, 55, 56, 57, 65, 66, 67, 68, 69, 70]⟩ : ByteArray) (ji3); replace p8 := eq_true p8; replace q8 := eq_true q8) | ((with_reducible refine gate_callee (f := 9) rfl ?_); refine goesL_ (some 27) rfl rfl Try.func9 (by kernel_rfl) rfl #[.int .i32 (wrap32 (bt (⟨#[48, 49, 50, 51, 52, 53, 54, 55, 56, 57, 65, 66, 67, 68, 69, 70]⟩ : ByteArray) (ji3)))] rfl (by (try simp only [List.map_toArray, List.map_cons, List.map_nil]); first | done | (simp only [hji3]; rfl) | rfl | (simp only [List.length_drop, List.length_take]; rfl)) ?_; (with_reducible refine (points_Hex.calls k (wrap32 (bt (⟨#[48, 49, 50, 51, 52, 53, 54, 55, 56, 57, 65, 66, 67, 68, 69, 70]⟩ : ByteArray) (ji3))) t180 true _ A9.out).mono ?_); rintro e w' ⟨rfl, ⟨nd, rfl⟩⟩; refine ⟨_, rfl, ?_⟩) | ((with_reducible refine gate_callee (f := 9) rfl ?_); refine goesL_ (some 32) rfl rfl Try.func9 (by kernel_rfl) rfl #[.int .i32 a0] rfl (by (try simp only [List.map_toArray, List.map_cons, List.map_nil]); first | done | rfl | (simp only [List.length_drop, List.length_take]; rfl)) ?_; (with_reducible refine (points_Hex.calls k a0 t182 false _ A10.out).mono ?_); rintro e w' ⟨rfl, ⟨nd, rfl⟩⟩; refine ⟨_, rfl, ?_⟩) | (go_at_call 16; (with_reducible refine (points_Letter.calls a0 false _ A15.out).mono ?_); rintro e w' ⟨rfl, ⟨nd, rfl⟩⟩) | (go_at_call 18; (with_reducible refine (points_Digit.calls a0 false _ A41.out).mono ?_); rintro e w' ⟨rfl, ⟨nd, rfl⟩⟩) | (go_at_call 22; (with_reducible refine (points_White.calls a0 true _ A52.out).mono ?_); rintro e w' ⟨rfl, ⟨nd, rfl⟩⟩) | (go_at_call 20; (with_reducible refine (points_Name.calls a0 false _ A54.out).mono ?_); rintro e w' ⟨rfl, ⟨nd, rfl⟩⟩) | (go_at_call 8; (with_reducible refine (fleuronlaw1_awake.calls k  t203 _ A57.out ht_.out).mono ?_); rintro e w58 ⟨rfl, hb⟩; have n0_ := Aside0.mk (below_step (by repeat (first | (with_reducible first | exact HB.out | apply below_alloc | apply pw_below_drewN | apply below_drew1) | exact HB.out)) hb); clear HB; have HB := n0_; clear n0_; (try clear hb); (try clear hb2); (try clear hk); (try clear hi)))
                        go_ret
                        exact ⟨by first | rfl | exact absurd (Option.some.inj (A19.out.symm.trans A34.out)) (by decide) | (simp [errW_none, errW_some] <;> rfl) | (simp only [← hji3]; first | rfl | (simp [errW_none, errW_some] <;> rfl)) | (simp [*, errW_none, errW_some] <;> rfl), by repeat (first | (with_reducible first | exact HB.out | apply below_alloc | apply pw_below_drewN | apply below_drew1) | exact HB.out)⟩
                  · replace c53 := Bool.eq_false_iff.mpr c53
                    subst c53
                    have H1 : ((fleuronlaw1_awake.f k).bind fun t204 => (some t204)) = some r := by rw [if_neg (show ¬ (false = true) by decide)] at H; exact H
                    clear H
                    have H := H1
                    clear H1
                    replace H := Option.bind_eq_some_iff.mp H
                    obtain ⟨t204, A590, H⟩ := H
                    replace H : (some t204) = some r := H
                    have A59 := Aside0.mk A590
                    clear A590
                    obtain rfl := Option.some.inj H
                    have p6 : 0 ≤ ((ji3) : Int) := of_decide_eq_true (by first | (with_reducible assumption) | assumption)
                    have q6 : (ji3) < (16 : Int) := of_decide_eq_true (by first | (with_reducible assumption) | assumption)
                    have hx6 := bt_at (⟨#[48, 49, 50, 51, 52, 53, 54, 55, 56, 57, 97, 98, 99, 100, 101, 102]⟩ : ByteArray) (ji3)
                    replace p6 := eq_true p6
                    replace q6 := eq_true q6
                    go_enter Try.func6, Try.ntmps6
                    go_wp2_with (first | ((with_reducible refine gate_callee (f := 9) rfl ?_); refine goesL_ (some 20) rfl rfl Try.func9 (by kernel_rfl) rfl #[.int .i32 (wrap32 (bt (⟨#[48, 49, 50, 51, 52, 53, 54, 55, 56, 57, 97, 98, 99, 100, 101, 102]⟩ : ByteArray) (ji3)))] rfl (by (try simp only [List.map_toArray, List.map_cons, List.map_nil]); first | done | (simp only [hji3]; rfl) | rfl | (simp only [List.length_drop, List.length_take]; rfl)) ?_; (with_reducible refine (points_Hex.calls k (wrap32 (bt (⟨#[48, 49, 50, 51, 52, 53, 54, 55, 56, 57, 97, 98, 99, 100, 101, 102]⟩ : ByteArray) (ji3))) t178 true _ A7.out).mono ?_); rintro e w' ⟨rfl, ⟨nd, rfl⟩⟩; refine ⟨_, rfl, ?_⟩; have p8 : 0 ≤ ((ji3) : Int) := of_decide_eq_true (by first | (with_reducible assumption) | assumption); have q8 : (ji3) < (16 : Int) := of_decide_eq_true (by first | (with_reducible assumption) | assumption); have hx8 := bt_at (⟨#[48, 49, 50, 51, 52, 53, 54, 55, 56, 57, 65, 66, 67, 68, 69, 70]⟩ : ByteArray) (ji3); replace p8 := eq_true p8; replace q8 := eq_true q8) | ((with_reducible refine gate_callee (f := 9) rfl ?_); refine goesL_ (some 27) rfl rfl Try.func9 (by kernel_rfl) rfl #[.int .i32 (wrap32 (bt (⟨#[48, 49, 50, 51, 52, 53, 54, 55, 56, 57, 65, 66, 67, 68, 69, 70]⟩ : ByteArray) (ji3)))] rfl (by (try simp only [List.map_toArray, List.map_cons, List.map_nil]); first | done | (simp only [hji3]; rfl) | rfl | (simp only [List.length_drop, List.length_take]; rfl)) ?_; (with_reducible refine (points_Hex.calls k (wrap32 (bt (⟨#[48, 49, 50, 51, 52, 53, 54, 55, 56, 57, 65, 66, 67, 68, 69, 70]⟩ : ByteArray) (ji3))) t180 true _ A9.out).mono ?_); rintro e w' ⟨rfl, ⟨nd, rfl⟩⟩; refine ⟨_, rfl, ?_⟩) | ((with_reducible refine gate_callee (f := 9) rfl ?_); refine goesL_ (some 32) rfl rfl Try.func9 (by kernel_rfl) rfl #[.int .i32 a0] rfl (by (try simp only [List.map_toArray, List.map_cons, List.map_nil]); first | done | rfl | (simp only [List.length_drop, List.length_take]; rfl)) ?_; (with_reducible refine (points_Hex.calls k a0 t182 t183 _ A10.out).mono ?_); rintro e w' ⟨rfl, ⟨nd, rfl⟩⟩; refine ⟨_, rfl, ?_⟩) | (go_at_call 16; (with_reducible refine (points_Letter.calls a0 false _ A15.out).mono ?_); rintro e w' ⟨rfl, ⟨nd, rfl⟩⟩) | (go_at_call 18; (with_reducible refine (points_Digit.calls a0 false _ A41.out).mono ?_); rintro e w' ⟨rfl, ⟨nd, rfl⟩⟩) | (go_at_call 22; (with_reducible refine (points_White.calls a0 false _ A52.out).mono ?_); rintro e w' ⟨rfl, ⟨nd, rfl⟩⟩) | (go_at_call 8; (with_reducible refine (fleuronlaw1_awake.calls k  t204 _ A59.out ht_.out).mono ?_); rintro e w60 ⟨rfl, hb⟩; have n0_ := Aside0.mk (below_step (by repeat (first | (with_reducible first | exact HB.out | apply below_alloc | apply pw_below_drewN | apply below_drew1) | exact HB.out)) hb); clear HB; have HB := n0_; clear n0_; (try clear hb); (try clear hb2); (try clear hk); (try clear hi)))
                    go_ret
                    exact ⟨by first | rfl | exact absurd (Option.some.inj (A19.out.symm.trans A34.out)) (by decide) | (simp [errW_none, errW_some] <;> rfl) | (simp only [← hji3]; first | rfl | (simp [errW_none, errW_some] <;> rfl)) | (simp [*, errW_none, errW_some] <;> rfl), by repeat (first | (with_reducible first | exact HB.out | apply below_alloc | apply pw_below_drewN | apply below_drew1) | exact HB.out)⟩
            · rw [if_neg c14] at H
              have c14b0 : (t180 == (ji3)) = false := beq_eq_false_iff_ne.mpr c14
              have c14b1 : (t180 != (ji3)) = true := bne_iff_ne.mpr c14
              exact absurd ((Option.some.inj H).trans ht_.out) (by decide)
          · rw [if_neg c13] at H
            have c13b0 : (t178 == (ji3)) = false := beq_eq_false_iff_ne.mpr c13
            have c13b1 : (t178 != (ji3)) = true := bne_iff_ne.mpr c13
            exact absurd ((Option.some.inj H).trans ht_.out) (by decide)
        · replace c12 := Bool.eq_false_iff.mpr c12
          subst c12
          have H1 : (some false) = some r := by rw [if_neg (show ¬ (false = true) by decide)] at H; exact H
          clear H
          have H := H1
          clear H1
          exact absurd ((Option.some.inj H).trans ht_.out) (by decide)
      · replace c11 := Bool.eq_false_iff.mpr c11
        subst c11
        have H1 : (some false) = some r := by rw [if_neg (show ¬ (false = true) by decide)] at H; exact H
        clear H
        have H := H1
        clear H1
        exact absurd ((Option.some.inj H).trans ht_.out) (by decide)
    · rw [if_neg c5] at H
      exact absurd H (by simp)
  · rw [if_neg c4] at H
    exact absurd H (by simp)

/-- THE ONE PURE STATEMENT of fleuronlaw1_PointsHex: yours. -/
def fleuronlaw1_PointsHex.Pure : Prop := ∀ (a0 : Int) (a1 : Int), (Lit.int .i32 a0).wf = true → (Lit.int .i64 a1).wf = true → ∃ k, fleuronlaw1_PointsHex.f k a0 a1 = some true
theorem fleuronlaw1_PointsHex.walk (P : fleuronlaw1_PointsHex.Pure) (a0 : Int) (a1 : Int) (w : World) (w0 : (Lit.int .i32 a0).wf = true) (w1 : (Lit.int .i64 a1).wf = true) :
    Calls Try.prog 6 #[.int .i32 a0, .int .i64 a1] w fun e w' => e = .returned (.bool true) ∧ Below w.heap.size w w' := by
  obtain ⟨k, h⟩ := P a0 a1 w0 w1
  refine (fleuronlaw1_PointsHex.calls k a0 a1 true w h rfl).mono ?_
  rintro e w' ⟨rfl, hd⟩
  exact ⟨rfl, hd⟩

end Go.Proofs.Ytohnoohnppeooaa.Print
