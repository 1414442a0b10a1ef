-- PRINTED BY print.sh 35421559b90ae4d0a3588c463048766b98c2df88dd9212a6774a882060cdf62d: not written by this session
import Derived.Test.YtmadmnbaefifiaaPBoundBoxesx0
import Derived.Test.YtmadmnbaefifiaaPBoundBoxesx1
namespace Go.Proofs.Ytmadmnbaefifiaa.PBoundBoxes
open Go.RowKit Go.Proofs.YtmadmnbaefifiaaW.PrintWords Go.Proofs.YtmadmnbaefifiaaW.PrintLast Go.Proofs.YtmadmnbaefifiaaW.PrintMore
attribute [local go_sem] max2_int min2_int max_two min_two max_three min_three max_four min_four   -- for this text's walks alone
set_option linter.unusedVariables false
set_option linter.unusedSimpArgs false

/-! ### fleuronlaw23_awake: function 7 -/
def fleuronlaw23_awake.f (k : Nat)  : Option (Bool) := (some (([(⟨(-1), (⟨#[97]⟩ : ByteArray), (⟨#[]⟩ : ByteArray), ([] : List (S30))⟩ : S26)] : List (S26)) : List (S26))).bind fun y115 => ((bound_Input.f k 10 y115).bind fun t118 => (if t118 = 0 then ((bound_Input.f k 65537 y115).bind fun t119 => (if t119 = 3 then ((bound_Input.f k 0 ([] : List (S26))).bind fun t120 => (if t120 = 4 then ((bound_Boxes.f 2).bind fun t121 => (if t121 = 12 then ((bound_Boxes.f (-1)).bind fun t122 => (if t122 = 0 then ((bound_Boxes.f 1001).bind fun t123 => (if t123 = 0 then ((bound_Steps.f 0 0 0).bind fun t124 => (if t124 = 1100 then ((bound_Steps.f 4611686018427387904 1 1).bind fun t125 => (some (t125 == 4611686018427387904))) else (some false))) else (some false))) else (some false))) else (some false))) else (some false))) else (some false))) else (some false)))
theorem fleuronlaw23_awake.mono : ∀ k, LeO (fleuronlaw23_awake.f k ) (fleuronlaw23_awake.f (k + 1) ) := by
  intro  k
  unfold fleuronlaw23_awake.f
  repeat' first
      | (with_reducible exact bound_Input.mono _ _ _)
      | (with_reducible exact LeO.refl _)
      | (with_reducible exact LeO.none _)
      | (with_reducible refine LeO.ite ?_ ?_)
      | (with_reducible refine LeO.bind ?_ (fun _ => ?_))
      | exact bound_Input.mono _ _ _
      | exact LeO.none _
      | refine LeO.ite ?_ ?_
      | refine LeO.bind ?_ (fun _ => ?_)
set_option maxHeartbeats 8000000 in
set_option maxRecDepth 100000 in
theorem fleuronlaw23_awake.calls (k : Nat)  (r : Bool) (w : World) (h : fleuronlaw23_awake.f k  = some r) :
    Calls Try.prog 7 #[] w fun e w' => e = .returned (.bool r) ∧ Below w.heap.size w w' := by
  have hu26 := Try.underlying26
  have HB := Aside0.mk (Below.refl w.heap.size w)
  have H : ((some (([(⟨(-1), (⟨#[97]⟩ : ByteArray), (⟨#[]⟩ : ByteArray), ([] : List (S30))⟩ : S26)] : List (S26)) : List (S26))).bind fun y115 => ((bound_Input.f k 10 y115).bind fun t118 => (if t118 = 0 then ((bound_Input.f k 65537 y115).bind fun t119 => (if t119 = 3 then ((bound_Input.f k 0 ([] : List (S26))).bind fun t120 => (if t120 = 4 then ((bound_Boxes.f 2).bind fun t121 => (if t121 = 12 then ((bound_Boxes.f (-1)).bind fun t122 => (if t122 = 0 then ((bound_Boxes.f 1001).bind fun t123 => (if t123 = 0 then ((bound_Steps.f 0 0 0).bind fun t124 => (if t124 = 1100 then ((bound_Steps.f 4611686018427387904 1 1).bind fun t125 => (some (t125 == 4611686018427387904))) else (some false))) else (some false))) else (some false))) else (some false))) else (some false))) else (some false))) else (some false)))) = some r := h
  clear h
  obtain ⟨y115, hy115⟩ : ∃ y_ : List (S26), y_ = (([(⟨(-1), (⟨#[97]⟩ : ByteArray), (⟨#[]⟩ : ByteArray), ([] : List (S30))⟩ : S26)] : List (S26))) := ⟨_, rfl⟩
  replace H : ((bound_Input.f k 10 y115).bind fun t118 => (if t118 = 0 then ((bound_Input.f k 65537 y115).bind fun t119 => (if t119 = 3 then ((bound_Input.f k 0 ([] : List (S26))).bind fun t120 => (if t120 = 4 then ((bound_Boxes.f 2).bind fun t121 => (if t121 = 12 then ((bound_Boxes.f (-1)).bind fun t122 => (if t122 = 0 then ((bound_Boxes.f 1001).bind fun t123 => (if t123 = 0 then ((bound_Steps.f 0 0 0).bind fun t124 => (if t124 = 1100 then ((bound_Steps.f 4611686018427387904 1 1).bind fun t125 => (some (t125 == 4611686018427387904))) else (some false))) else (some false))) else (some false))) else (some false))) else (some false))) else (some false))) else (some false))) = some r := by first | (rw [hy115]; with_reducible exact H) | (have H2_ := (Option.bind_some _ _).symm.trans H; rw [hy115]; with_reducible exact H2_) | (have H2_ := (Option.bind_some _ _).symm.trans H; with_reducible exact H2_) | with_reducible exact H | (rw [hy115]; exact H) | exact H
  have Ny115 := Aside0.mk hy115
  clear hy115
  replace H := Option.bind_eq_some_iff.mp H
  obtain ⟨t118, A10, H⟩ := H
  replace H : (if t118 = 0 then ((bound_Input.f k 65537 y115).bind fun t119 => (if t119 = 3 then ((bound_Input.f k 0 ([] : List (S26))).bind fun t120 => (if t120 = 4 then ((bound_Boxes.f 2).bind fun t121 => (if t121 = 12 then ((bound_Boxes.f (-1)).bind fun t122 => (if t122 = 0 then ((bound_Boxes.f 1001).bind fun t123 => (if t123 = 0 then ((bound_Steps.f 0 0 0).bind fun t124 => (if t124 = 1100 then ((bound_Steps.f 4611686018427387904 1 1).bind fun t125 => (some (t125 == 4611686018427387904))) else (some false))) else (some false))) else (some false))) else (some false))) else (some false))) else (some false))) else (some false)) = some r := H
  have A1 := Aside0.mk A10
  clear A10
  by_cases c2 : t118 = 0
  · rw [if_pos c2] at H
    have c2b0 : (t118 == 0) = true := beq_iff_eq.mpr c2
    have c2b1 : (t118 != 0) = false := bne_eq_false_iff_eq.mpr c2
    clear c2
    replace H := Option.bind_eq_some_iff.mp H
    obtain ⟨t119, A30, H⟩ := H
    replace H : (if t119 = 3 then ((bound_Input.f k 0 ([] : List (S26))).bind fun t120 => (if t120 = 4 then ((bound_Boxes.f 2).bind fun t121 => (if t121 = 12 then ((bound_Boxes.f (-1)).bind fun t122 => (if t122 = 0 then ((bound_Boxes.f 1001).bind fun t123 => (if t123 = 0 then ((bound_Steps.f 0 0 0).bind fun t124 => (if t124 = 1100 then ((bound_Steps.f 4611686018427387904 1 1).bind fun t125 => (some (t125 == 4611686018427387904))) else (some false))) else (some false))) else (some false))) else (some false))) else (some false))) else (some false)) = some r := H
    have A3 := Aside0.mk A30
    clear A30
    by_cases c4 : t119 = 3
    · rw [if_pos c4] at H
      have c4b0 : (t119 == 3) = true := beq_iff_eq.mpr c4
      have c4b1 : (t119 != 3) = false := bne_eq_false_iff_eq.mpr c4
      clear c4
      replace H := Option.bind_eq_some_iff.mp H
      obtain ⟨t120, A50, H⟩ := H
      replace H : (if t120 = 4 then ((bound_Boxes.f 2).bind fun t121 => (if t121 = 12 then ((bound_Boxes.f (-1)).bind fun t122 => (if t122 = 0 then ((bound_Boxes.f 1001).bind fun t123 => (if t123 = 0 then ((bound_Steps.f 0 0 0).bind fun t124 => (if t124 = 1100 then ((bound_Steps.f 4611686018427387904 1 1).bind fun t125 => (some (t125 == 4611686018427387904))) else (some false))) else (some false))) else (some false))) else (some false))) else (some false)) = some r := H
      have A5 := Aside0.mk A50
      clear A50
      by_cases c6 : t120 = 4
      · rw [if_pos c6] at H
        have c6b0 : (t120 == 4) = true := beq_iff_eq.mpr c6
        have c6b1 : (t120 != 4) = false := bne_eq_false_iff_eq.mpr c6
        clear c6
        replace H := Option.bind_eq_some_iff.mp H
        obtain ⟨t121, A70, H⟩ := H
        replace H : (if t121 = 12 then ((bound_Boxes.f (-1)).bind fun t122 => (if t122 = 0 then ((bound_Boxes.f 1001).bind fun t123 => (if t123 = 0 then ((bound_Steps.f 0 0 0).bind fun t124 => (if t124 = 1100 then ((bound_Steps.f 4611686018427387904 1 1).bind fun t125 => (some (t125 == 4611686018427387904))) else (some false))) else (some false))) else (some false))) else (some false)) = some r := H
        have A7 := Aside0.mk A70
        clear A70
        by_cases c8 : t121 = 12
        · rw [if_pos c8] at H
          have c8b0 : (t121 == 12) = true := beq_iff_eq.mpr c8
          have c8b1 : (t121 != 12) = false := bne_eq_false_iff_eq.mpr c8
          clear c8
          replace H := Option.bind_eq_some_iff.mp H
          obtain ⟨t122, A90, H⟩ := H
          replace H : (if t122 = 0 then ((bound_Boxes.f 1001).bind fun t123 => (if t123 = 0 then ((bound_Steps.f 0 0 0).bind fun t124 => (if t124 = 1100 then ((bound_Steps.f 4611686018427387904 1 1).bind fun t125 => (some (t125 == 4611686018427387904))) else (some false))) else (some false))) else (some false)) = some r := H
          have A9 := Aside0.mk A90
          clear A90
          by_cases c10 : t122 = 0
          · rw [if_pos c10] at H
            have c10b0 : (t122 == 0) = true := beq_iff_eq.mpr c10
            have c10b1 : (t122 != 0) = false := bne_eq_false_iff_eq.mpr c10
            clear c10
            replace H := Option.bind_eq_some_iff.mp H
            obtain ⟨t123, A110, H⟩ := H
            replace H : (if t123 = 0 then ((bound_Steps.f 0 0 0).bind fun t124 => (if t124 = 1100 then ((bound_Steps.f 4611686018427387904 1 1).bind fun t125 => (some (t125 == 4611686018427387904))) else (some false))) else (some false)) = some r := H
            have A11 := Aside0.mk A110
            clear A110
            by_cases c12 : t123 = 0
            · rw [if_pos c12] at H
              have c12b0 : (t123 == 0) = true := beq_iff_eq.mpr c12
              have c12b1 : (t123 != 0) = false := bne_eq_false_iff_eq.mpr c12
              clear c12
              replace H := Option.bind_eq_some_iff.mp H
              obtain ⟨t124, A130, H⟩ := H
              replace H : (if t124 = 1100 then ((bound_Steps.f 4611686018427387904 1 1).bind fun t125 => (some (t125 == 4611686018427387904))) else (some false)) = some r := H
              have A13 := Aside0.mk A130
              clear A130
              by_cases c14 : t124 = 1100
              · rw [if_pos c14] at H
                have c14b0 : (t124 == 1100) = true := beq_iff_eq.mpr c14
                have c14b1 : (t124 != 1100) = false := bne_eq_false_iff_eq.mpr c14
                clear c14
                replace H := Option.bind_eq_some_iff.mp H
                obtain ⟨t125, A150, H⟩ := H
                replace H : (some (t125 == 4611686018427387904)) = some r := H
                have A15 := Aside0.mk A150
                clear A150
                obtain rfl := Option.some.inj H
                go_enter Try.func7, Try.ntmps7
                go_wp2_with (first | ((with_reducible refine gate_dst (N := 3) rfl ?_); refine Kd.S_lit k26 _ 26 ?hg (N := 3) ?hd (xs := ([(⟨(-1), (⟨#[97]⟩ : ByteArray), (⟨#[]⟩ : ByteArray), ([] : List (S30))⟩ : S26)] : List (S26))) (inner := [.int .i64 (-1), .string (⟨#[97]⟩ : ByteArray), .string (⟨#[]⟩ : ByteArray), .slice none 0 0]) (ok := fun _ => True) (okp := fun _ => True) ?hr ?hp (fun _ hk => hk) trivial (Below.refl _ _) (Nat.le_refl _) (by simp) ?_; (case hd => rfl); (case hg => rfl); (case hr => first | (go_simp; done) | (go_simp; rfl)); (case hp => exact (Reps.c4 (show Kd.M k26 _ _ _ (⟨(-1), (⟨#[97]⟩ : ByteArray), (⟨#[]⟩ : ByteArray), ([] : List (S30))⟩ : S26) [.int .i64 (-1), .string (⟨#[97]⟩ : ByteArray), .string (⟨#[]⟩ : ByteArray), .slice none 0 0] from (k26_mkM _ _ _ (⟨(-1), (⟨#[97]⟩ : ByteArray), (⟨#[]⟩ : ByteArray), ([] : List (S30))⟩ : S26) (Kd.R_nil _ _ _ _ _))) (Reps.none _ _))); intro v116 w16 ho17 hb hg_ hnew_; clear hg_ hnew_; (first | rw [← Ny115.out] at ho17 | (simp only [Int.reduceToNat] at ho17; rw [← Ny115.out] at ho17)); have n0_ := Aside0.mk (Kd.S_lower ho17 (below_size (by repeat (first | (with_reducible first | exact HB.out | apply below_alloc | apply pw_below_drewN | apply below_drew1) | exact HB.out)))); have n1_ := Aside0.mk (below_step (by repeat (first | (with_reducible first | exact HB.out | apply below_alloc | apply pw_below_drewN | apply below_drew1) | exact HB.out)) hb); clear HB; have HO117 := n0_; have HB := n1_; clear n0_ n1_; clear hb ho17; obtain ⟨Ao18, co18, eo18⟩ := Kd.S_slice HO117.out; subst eo18) | ((with_reducible refine gate_callee (f := 8) rfl ?_); refine goesL_ (some 5) rfl rfl Try.func8 (by kernel_rfl) rfl #[.int .i64 10, .slice Ao18 y115.length co18] rfl (by (try simp only [List.map_toArray, List.map_cons, List.map_nil]); first | done | rfl | (simp only [List.length_drop, List.length_take]; rfl)) ?_; (with_reducible refine (bound_Input.calls k 10 _ _ y115 t118 _ ?side1 ?side2 A1.out).mono ?_); (case side1 => repeat (first | exact (Kd.S_reads' HO117.out).2.2 | (with_reducible refine Kd.C_alloc ?_ _) | (with_reducible refine Kd.C_drewN ?_ _) | (with_reducible refine Kd.C_drew ?_))); (case side2 => exact (Kd.S_reads' HO117.out).2.1); rintro e w19 ⟨rfl, hb⟩; refine ⟨_, rfl, ?_⟩; have n0_ := Aside0.mk (Kd.S_below (by (with_reducible repeat (first | apply Kd.S_alloc | apply Kd.S_drewN | apply Kd.S_drew)); exact HO117.out) hb); have n1_ := Aside0.mk (below_step (by repeat (first | (with_reducible first | exact HB.out | apply below_alloc | apply pw_below_drewN | apply below_drew1) | exact HB.out)) hb); clear HO117; clear HB; have HO117 := n0_; have HB := n1_; clear n0_ n1_; (try clear hb); (try clear hb2); (try clear hk); (try clear hi)) | (go_at_call 8; (with_reducible refine (bound_Input.calls k 65537 _ _ y115 t119 _ ?side1 ?side2 A3.out).mono ?_); (case side1 => repeat (first | exact (Kd.S_reads' HO117.out).2.2 | (with_reducible refine Kd.C_alloc ?_ _) | (with_reducible refine Kd.C_drewN ?_ _) | (with_reducible refine Kd.C_drew ?_))); (case side2 => exact (Kd.S_reads' HO117.out).2.1); rintro e w20 ⟨rfl, hb⟩; have n0_ := Aside0.mk (Kd.S_below (by (with_reducible repeat (first | apply Kd.S_alloc | apply Kd.S_drewN | apply Kd.S_drew)); exact HO117.out) hb); have n1_ := Aside0.mk (below_step (by repeat (first | (with_reducible first | exact HB.out | apply below_alloc | apply pw_below_drewN | apply below_drew1) | exact HB.out)) hb); clear HO117; clear HB; have HO117 := n0_; have HB := n1_; clear n0_ n1_; (try clear hb); (try clear hb2); (try clear hk); (try clear hi)) | (go_at_call 8; (refine (bound_Input.calls k 0 _ _ ([] : List (S26)) t120 _ ?side1 ?side2 A5.out).mono ?_); (case side1 => exact Kd.C_nil _ _); (case side2 => exact Nat.le_refl _); rintro e w21 ⟨rfl, hb⟩; have n0_ := Aside0.mk (Kd.S_below (by (with_reducible repeat (first | apply Kd.S_alloc | apply Kd.S_drewN | apply Kd.S_drew)); exact HO117.out) hb); have n1_ := Aside0.mk (below_step (by repeat (first | (with_reducible first | exact HB.out | apply below_alloc | apply pw_below_drewN | apply below_drew1) | exact HB.out)) hb); clear HO117; clear HB; have HO117 := n0_; have HB := n1_; clear n0_ n1_; (try clear hb); (try clear hb2); (try clear hk); (try clear hi)) | (go_at_call 11; (with_reducible refine (bound_Boxes.calls 2 t121 _ A7.out).mono ?_); rintro e w' ⟨rfl, ⟨nd, rfl⟩⟩) | (go_at_call 11; (with_reducible refine (bound_Boxes.calls (-1) t122 _ A9.out).mono ?_); rintro e w' ⟨rfl, ⟨nd, rfl⟩⟩) | (go_at_call 11; (with_reducible refine (bound_Boxes.calls 1001 t123 _ A11.out).mono ?_); rintro e w' ⟨rfl, ⟨nd, rfl⟩⟩) | (go_at_call 10; (with_reducible refine (bound_Steps.calls 0 0 0 t124 _ A13.out).mono ?_); rintro e w22 ⟨rfl, hb⟩; have n0_ := Aside0.mk (Kd.S_below (by (with_reducible repeat (first | apply Kd.S_alloc | apply Kd.S_drewN | apply Kd.S_drew)); exact HO117.out) hb); have n1_ := Aside0.mk (below_step (by repeat (first | (with_reducible first | exact HB.out | apply below_alloc | apply pw_below_drewN | apply below_drew1) | exact HB.out)) hb); clear HO117; clear HB; have HO117 := n0_; have HB := n1_; clear n0_ n1_; (try clear hb); (try clear hb2); (try clear hk); (try clear hi)) | (go_at_call 10; (with_reducible refine (bound_Steps.calls 4611686018427387904 1 1 t125 _ A15.out).mono ?_); rintro e w23 ⟨rfl, hb⟩; have n0_ := Aside0.mk (Kd.S_below (by (with_reducible repeat (first | apply Kd.S_alloc | apply Kd.S_drewN | apply Kd.S_drew)); exact HO117.out) hb); have n1_ := Aside0.mk (below_step (by repeat (first | (with_reducible first | exact HB.out | apply below_alloc | apply pw_below_drewN | apply below_drew1) | exact HB.out)) hb); clear HO117; clear HB; have HO117 := n0_; have HB := n1_; clear n0_ n1_; (try clear hb); (try clear hb2); (try clear hk); (try clear hi)))
                go_ret
                exact ⟨by first | rfl | (simp [errW_none, errW_some] <;> rfl) | (simp [*, errW_none, errW_some] <;> rfl), by repeat (first | (with_reducible first | exact HB.out | apply below_alloc | apply pw_below_drewN | apply below_drew1) | exact HB.out)⟩
              · rw [if_neg c14] at H
                have c14b0 : (t124 == 1100) = false := beq_eq_false_iff_ne.mpr c14
                have c14b1 : (t124 != 1100) = true := bne_iff_ne.mpr c14
                obtain rfl := Option.some.inj H
                go_enter Try.func7, Try.ntmps7
                go_wp2_with (first | ((with_reducible refine gate_dst (N := 3) rfl ?_); refine Kd.S_lit k26 _ 26 ?hg (N := 3) ?hd (xs := ([(⟨(-1), (⟨#[97]⟩ : ByteArray), (⟨#[]⟩ : ByteArray), ([] : List (S30))⟩ : S26)] : List (S26))) (inner := [.int .i64 (-1), .string (⟨#[97]⟩ : ByteArray), .string (⟨#[]⟩ : ByteArray), .slice none 0 0]) (ok := fun _ => True) (okp := fun _ => True) ?hr ?hp (fun _ hk => hk) trivial (Below.refl _ _) (Nat.le_refl _) (by simp) ?_; (case hd => rfl); (case hg => rfl); (case hr => first | (go_simp; done) | (go_simp; rfl)); (case hp => exact (Reps.c4 (show Kd.M k26 _ _ _ (⟨(-1), (⟨#[97]⟩ : ByteArray), (⟨#[]⟩ : ByteArray), ([] : List (S30))⟩ : S26) [.int .i64 (-1), .string (⟨#[97]⟩ : ByteArray), .string (⟨#[]⟩ : ByteArray), .slice none 0 0] from (k26_mkM _ _ _ (⟨(-1), (⟨#[97]⟩ : ByteArray), (⟨#[]⟩ : ByteArray), ([] : List (S30))⟩ : S26) (Kd.R_nil _ _ _ _ _))) (Reps.none _ _))); intro v116 w24 ho25 hb hg_ hnew_; clear hg_ hnew_; (first | rw [← Ny115.out] at ho25 | (simp only [Int.reduceToNat] at ho25; rw [← Ny115.out] at ho25)); have n0_ := Aside0.mk (Kd.S_lower ho25 (below_size (by repeat (first | (with_reducible first | exact HB.out | apply below_alloc | apply pw_below_drewN | apply below_drew1) | exact HB.out)))); have n1_ := Aside0.mk (below_step (by repeat (first | (with_reducible first | exact HB.out | apply below_alloc | apply pw_below_drewN | apply below_drew1) | exact HB.out)) hb); clear HB; have HO117 := n0_; have HB := n1_; clear n0_ n1_; clear hb ho25; obtain ⟨Ao26, co26, eo26⟩ := Kd.S_slice HO117.out; subst eo26) | ((with_reducible refine gate_callee (f := 8) rfl ?_); refine goesL_ (some 5) rfl rfl Try.func8 (by kernel_rfl) rfl #[.int .i64 10, .slice Ao26 y115.length co26] rfl (by (try simp only [List.map_toArray, List.map_cons, List.map_nil]); first | done | rfl | (simp only [List.length_drop, List.length_take]; rfl)) ?_; (with_reducible refine (bound_Input.calls k 10 _ _ y115 t118 _ ?side1 ?side2 A1.out).mono ?_); (case side1 => repeat (first | exact (Kd.S_reads' HO117.out).2.2 | (with_reducible refine Kd.C_alloc ?_ _) | (with_reducible refine Kd.C_drewN ?_ _) | (with_reducible refine Kd.C_drew ?_))); (case side2 => exact (Kd.S_reads' HO117.out).2.1); rintro e w27 ⟨rfl, hb⟩; refine ⟨_, rfl, ?_⟩; have n0_ := Aside0.mk (Kd.S_below (by (with_reducible repeat (first | apply Kd.S_alloc | apply Kd.S_drewN | apply Kd.S_drew)); exact HO117.out) hb); have n1_ := Aside0.mk (below_step (by repeat (first | (with_reducible first | exact HB.out | apply below_alloc | apply pw_below_drewN | apply below_drew1) | exact HB.out)) hb); clear HO117; clear HB; have HO117 := n0_; have HB := n1_; clear n0_ n1_; (try clear hb); (try clear hb2); (try clear hk); (try clear hi)) | (go_at_call 8; (with_reducible refine (bound_Input.calls k 65537 _ _ y115 t119 _ ?side1 ?side2 A3.out).mono ?_); (case side1 => repeat (first | exact (Kd.S_reads' HO117.out).2.2 | (with_reducible refine Kd.C_alloc ?_ _) | (with_reducible refine Kd.C_drewN ?_ _) | (with_reducible refine Kd.C_drew ?_))); (case side2 => exact (Kd.S_reads' HO117.out).2.1); rintro e w28 ⟨rfl, hb⟩; have n0_ := Aside0.mk (Kd.S_below (by (with_reducible repeat (first | apply Kd.S_alloc | apply Kd.S_drewN | apply Kd.S_drew)); exact HO117.out) hb); have n1_ := Aside0.mk (below_step (by repeat (first | (with_reducible first | exact HB.out | apply below_alloc | apply pw_below_drewN | apply below_drew1) | exact HB.out)) hb); clear HO117; clear HB; have HO117 := n0_; have HB := n1_; clear n0_ n1_; (try clear hb); (try clear hb2); (try clear hk); (try clear hi)) | (go_at_call 8; (refine (bound_Input.calls k 0 _ _ ([] : List (S26)) t120 _ ?side1 ?side2 A5.out).mono ?_); (case side1 => exact Kd.C_nil _ _); (case side2 => exact Nat.le_refl _); rintro e w29 ⟨rfl, hb⟩; have n0_ := Aside0.mk (Kd.S_below (by (with_reducible repeat (first | apply Kd.S_alloc | apply Kd.S_drewN | apply Kd.S_drew)); exact HO117.out) hb); have n1_ := Aside0.mk (below_step (by repeat (first | (with_reducible first | exact HB.out | apply below_alloc | apply pw_below_drewN | apply below_drew1) | exact HB.out)) hb); clear HO117; clear HB; have HO117 := n0_; have HB := n1_; clear n0_ n1_; (try clear hb); (try clear hb2); (try clear hk); (try clear hi)) | (go_at_call 11; (with_reducible refine (bound_Boxes.calls 2 t121 _ A7.out).mono ?_); rintro e w' ⟨rfl, ⟨nd, rfl⟩⟩) | (go_at_call 11; (with_reducible refine (bound_Boxes.calls (-1) t122 _ A9.out).mono ?_); rintro e w' ⟨rfl, ⟨nd, rfl⟩⟩) | (go_at_call 11; (with_reducible refine (bound_Boxes.calls 1001 t123 _ A11.out).mono ?_); rintro e w' ⟨rfl, ⟨nd, rfl⟩⟩) | (go_at_call 10; (with_reducible refine (bound_Steps.calls 0 0 0 t124 _ A13.out).mono ?_); rintro e w30 ⟨rfl, hb⟩; have n0_ := Aside0.mk (Kd.S_below (by (with_reducible repeat (first | apply Kd.S_alloc | apply Kd.S_drewN | apply Kd.S_drew)); exact HO117.out) hb); have n1_ := Aside0.mk (below_step (by repeat (first | (with_reducible first | exact HB.out | apply below_alloc | apply pw_below_drewN | apply below_drew1) | exact HB.out)) hb); clear HO117; clear HB; have HO117 := n0_; have HB := n1_; clear n0_ n1_; (try clear hb); (try clear hb2); (try clear hk); (try clear hi)))
                go_ret
                exact ⟨by first | rfl | (simp [errW_none, errW_some] <;> rfl) | (simp [*, errW_none, errW_some] <;> rfl), by repeat (first | (with_reducible first | exact HB.out | apply below_alloc | apply pw_below_drewN | apply below_drew1) | exact HB.out)⟩
            · rw [if_neg c12] at H
              have c12b0 : (t123 == 0) = false := beq_eq_false_iff_ne.mpr c12
              have c12b1 : (t123 != 0) = true := bne_iff_ne.mpr c12
              obtain rfl := Option.some.inj H
              go_enter Try.func7, Try.ntmps7
              go_wp2_with (first | ((with_reducible refine gate_dst (N := 3) rfl ?_); refine Kd.S_lit k26 _ 26 ?hg (N := 3) ?hd (xs := ([(⟨(-1), (⟨#[97]⟩ : ByteArray), (⟨#[]⟩ : ByteArray), ([] : List (S30))⟩ : S26)] : List (S26))) (inner := [.int .i64 (-1), .string (⟨#[97]⟩ : ByteArray), .string (⟨#[]⟩ : ByteArray), .slice none 0 0]) (ok := fun _ => True) (okp := fun _ => True) ?hr ?hp (fun _ hk => hk) trivial (Below.refl _ _) (Nat.le_refl _) (by simp) ?_; (case hd => rfl); (case hg => rfl); (case hr => first | (go_simp; done) | (go_simp; rfl)); (case hp => exact (Reps.c4 (show Kd.M k26 _ _ _ (⟨(-1), (⟨#[97]⟩ : ByteArray), (⟨#[]⟩ : ByteArray), ([] : List (S30))⟩ : S26) [.int .i64 (-1), .string (⟨#[97]⟩ : ByteArray), .string (⟨#[]⟩ : ByteArray), .slice none 0 0] from (k26_mkM _ _ _ (⟨(-1), (⟨#[97]⟩ : ByteArray), (⟨#[]⟩ : ByteArray), ([] : List (S30))⟩ : S26) (Kd.R_nil _ _ _ _ _))) (Reps.none _ _))); intro v116 w31 ho32 hb hg_ hnew_; clear hg_ hnew_; (first | rw [← Ny115.out] at ho32 | (simp only [Int.reduceToNat] at ho32; rw [← Ny115.out] at ho32)); have n0_ := Aside0.mk (Kd.S_lower ho32 (below_size (by repeat (first | (with_reducible first | exact HB.out | apply below_alloc | apply pw_below_drewN | apply below_drew1) | exact HB.out)))); have n1_ := Aside0.mk (below_step (by repeat (first | (with_reducible first | exact HB.out | apply below_alloc | apply pw_below_drewN | apply below_drew1) | exact HB.out)) hb); clear HB; have HO117 := n0_; have HB := n1_; clear n0_ n1_; clear hb ho32; obtain ⟨Ao33, co33, eo33⟩ := Kd.S_slice HO117.out; subst eo33) | ((with_reducible refine gate_callee (f := 8) rfl ?_); refine goesL_ (some 5) rfl rfl Try.func8 (by kernel_rfl) rfl #[.int .i64 10, .slice Ao33 y115.length co33] rfl (by (try simp only [List.map_toArray, List.map_cons, List.map_nil]); first | done | rfl | (simp only [List.length_drop, List.length_take]; rfl)) ?_; (with_reducible refine (bound_Input.calls k 10 _ _ y115 t118 _ ?side1 ?side2 A1.out).mono ?_); (case side1 => repeat (first | exact (Kd.S_reads' HO117.out).2.2 | (with_reducible refine Kd.C_alloc ?_ _) | (with_reducible refine Kd.C_drewN ?_ _) | (with_reducible refine Kd.C_drew ?_))); (case side2 => exact (Kd.S_reads' HO117.out).2.1); rintro e w34 ⟨rfl, hb⟩; refine ⟨_, rfl, ?_⟩; have n0_ := Aside0.mk (Kd.S_below (by (with_reducible repeat (first | apply Kd.S_alloc | apply Kd.S_drewN | apply Kd.S_drew)); exact HO117.out) hb); have n1_ := Aside0.mk (below_step (by repeat (first | (with_reducible first | exact HB.out | apply below_alloc | apply pw_below_drewN | apply below_drew1) | exact HB.out)) hb); clear HO117; clear HB; have HO117 := n0_; have HB := n1_; clear n0_ n1_; (try clear hb); (try clear hb2); (try clear hk); (try clear hi)) | (go_at_call 8; (with_reducible refine (bound_Input.calls k 65537 _ _ y115 t119 _ ?side1 ?side2 A3.out).mono ?_); (case side1 => repeat (first | exact (Kd.S_reads' HO117.out).2.2 | (with_reducible refine Kd.C_alloc ?_ _) | (with_reducible refine Kd.C_drewN ?_ _) | (with_reducible refine Kd.C_drew ?_))); (case side2 => exact (Kd.S_reads' HO117.out).2.1); rintro e w35 ⟨rfl, hb⟩; have n0_ := Aside0.mk (Kd.S_below (by (with_reducible repeat (first | apply Kd.S_alloc | apply Kd.S_drewN | apply Kd.S_drew)); exact HO117.out) hb); have n1_ := Aside0.mk (below_step (by repeat (first | (with_reducible first | exact HB.out | apply below_alloc | apply pw_below_drewN | apply below_drew1) | exact HB.out)) hb); clear HO117; clear HB; have HO117 := n0_; have HB := n1_; clear n0_ n1_; (try clear hb); (try clear hb2); (try clear hk); (try clear hi)) | (go_at_call 8; (refine (bound_Input.calls k 0 _ _ ([] : List (S26)) t120 _ ?side1 ?side2 A5.out).mono ?_); (case side1 => exact Kd.C_nil _ _); (case side2 => exact Nat.le_refl _); rintro e w36 ⟨rfl, hb⟩; have n0_ := Aside0.mk (Kd.S_below (by (with_reducible repeat (first | apply Kd.S_alloc | apply Kd.S_drewN | apply Kd.S_drew)); exact HO117.out) hb); have n1_ := Aside0.mk (below_step (by repeat (first | (with_reducible first | exact HB.out | apply below_alloc | apply pw_below_drewN | apply below_drew1) | exact HB.out)) hb); clear HO117; clear HB; have HO117 := n0_; have HB := n1_; clear n0_ n1_; (try clear hb); (try clear hb2); (try clear hk); (try clear hi)) | (go_at_call 11; (with_reducible refine (bound_Boxes.calls 2 t121 _ A7.out).mono ?_); rintro e w' ⟨rfl, ⟨nd, rfl⟩⟩) | (go_at_call 11; (with_reducible refine (bound_Boxes.calls (-1) t122 _ A9.out).mono ?_); rintro e w' ⟨rfl, ⟨nd, rfl⟩⟩) | (go_at_call 11; (with_reducible refine (bound_Boxes.calls 1001 t123 _ A11.out).mono ?_); rintro e w' ⟨rfl, ⟨nd, rfl⟩⟩))
              go_ret
              exact ⟨by first | rfl | (simp [errW_none, errW_some] <;> rfl) | (simp [*, errW_none, errW_some] <;> rfl), by repeat (first | (with_reducible first | exact HB.out | apply below_alloc | apply pw_below_drewN | apply below_drew1) | exact HB.out)⟩
          · rw [if_neg c10] at H
            have c10b0 : (t122 == 0) = false := beq_eq_false_iff_ne.mpr c10
            have c10b1 : (t122 != 0) = true := bne_iff_ne.mpr c10
            obtain rfl := Option.some.inj H
            go_enter Try.func7, Try.ntmps7
            go_wp2_with (first | ((with_reducible refine gate_dst (N := 3) rfl ?_); refine Kd.S_lit k26 _ 26 ?hg (N := 3) ?hd (xs := ([(⟨(-1), (⟨#[97]⟩ : ByteArray), (⟨#[]⟩ : ByteArray), ([] : List (S30))⟩ : S26)] : List (S26))) (inner := [.int .i64 (-1), .string (⟨#[97]⟩ : ByteArray), .string (⟨#[]⟩ : ByteArray), .slice none 0 0]) (ok := fun _ => True) (okp := fun _ => True) ?hr ?hp (fun _ hk => hk) trivial (Below.refl _ _) (Nat.le_refl _) (by simp) ?_; (case hd => rfl); (case hg => rfl); (case hr => first | (go_simp; done) | (go_simp; rfl)); (case hp => exact (Reps.c4 (show Kd.M k26 _ _ _ (⟨(-1), (⟨#[97]⟩ : ByteArray), (⟨#[]⟩ : ByteArray), ([] : List (S30))⟩ : S26) [.int .i64 (-1), .string (⟨#[97]⟩ : ByteArray), .string (⟨#[]⟩ : ByteArray), .slice none 0 0] from (k26_mkM _ _ _ (⟨(-1), (⟨#[97]⟩ : ByteArray), (⟨#[]⟩ : ByteArray), ([] : List (S30))⟩ : S26) (Kd.R_nil _ _ _ _ _))) (Reps.none _ _))); intro v116 w37 ho38 hb hg_ hnew_; clear hg_ hnew_; (first | rw [← Ny115.out] at ho38 | (simp only [Int.reduceToNat] at ho38; rw [← Ny115.out] at ho38)); have n0_ := Aside0.mk (Kd.S_lower ho38 (below_size (by repeat (first | (with_reducible first | exact HB.out | apply below_alloc | apply pw_below_drewN | apply below_drew1) | exact HB.out)))); have n1_ := Aside0.mk (below_step (by repeat (first | (with_reducible first | exact HB.out | apply below_alloc | apply pw_below_drewN | apply below_drew1) | exact HB.out)) hb); clear HB; have HO117 := n0_; have HB := n1_; clear n0_ n1_; clear hb ho38; obtain ⟨Ao39, co39, eo39⟩ := Kd.S_slice HO117.out; subst eo39) | ((with_reducible refine gate_callee (f := 8) rfl ?_); refine goesL_ (some 5) rfl rfl Try.func8 (by kernel_rfl) rfl #[.int .i64 10, .slice Ao39 y115.length co39] rfl (by (try simp only [List.map_toArray, List.map_cons, List.map_nil]); first | done | rfl | (simp only [List.length_drop, List.length_take]; rfl)) ?_; (with_reducible refine (bound_Input.calls k 10 _ _ y115 t118 _ ?side1 ?side2 A1.out).mono ?_); (case side1 => repeat (first | exact (Kd.S_reads' HO117.out).2.2 | (with_reducible refine Kd.C_alloc ?_ _) | (with_reducible refine Kd.C_drewN ?_ _) | (with_reducible refine Kd.C_drew ?_))); (case side2 => exact (Kd.S_reads' HO117.out).2.1); rintro e w40 ⟨rfl, hb⟩; refine ⟨_, rfl, ?_⟩; have n0_ := Aside0.mk (Kd.S_below (by (with_reducible repeat (first | apply Kd.S_alloc | apply Kd.S_drewN | apply Kd.S_drew)); exact HO117.out) hb); have n1_ := Aside0.mk (below_step (by repeat (first | (with_reducible first | exact HB.out | apply below_alloc | apply pw_below_drewN | apply below_drew1) | exact HB.out)) hb); clear HO117; clear HB; have HO117 := n0_; have HB := n1_; clear n0_ n1_; (try clear hb); (try clear hb2); (try clear hk); (try clear hi)) | (go_at_call 8; (with_reducible refine (bound_Input.calls k 65537 _ _ y115 t119 _ ?side1 ?side2 A3.out).mono ?_); (case side1 => repeat (first | exact (Kd.S_reads' HO117.out).2.2 | (with_reducible refine Kd.C_alloc ?_ _) | (with_reducible refine Kd.C_drewN ?_ _) | (with_reducible refine Kd.C_drew ?_))); (case side2 => exact (Kd.S_reads' HO117.out).2.1); rintro e w41 ⟨rfl, hb⟩; have n0_ := Aside0.mk (Kd.S_below (by (with_reducible repeat (first | apply Kd.S_alloc | apply Kd.S_drewN | apply Kd.S_drew)); exact HO117.out) hb); have n1_ := Aside0.mk (below_step (by repeat (first | (with_reducible first | exact HB.out | apply below_alloc | apply pw_below_drewN | apply below_drew1) | exact HB.out)) hb); clear HO117; clear HB; have HO117 := n0_; have HB := n1_; clear n0_ n1_; (try clear hb); (try clear hb2); (try clear hk); (try clear hi)) | (go_at_call 8; (refine (bound_Input.calls k 0 _ _ ([] : List (S26)) t120 _ ?side1 ?side2 A5.out).mono ?_); (case side1 => exact Kd.C_nil _ _); (case side2 => exact Nat.le_refl _); rintro e w42 ⟨rfl, hb⟩; have n0_ := Aside0.mk (Kd.S_below (by (with_reducible repeat (first | apply Kd.S_alloc | apply Kd.S_drewN | apply Kd.S_drew)); exact HO117.out) hb); have n1_ := Aside0.mk (below_step (by repeat (first | (with_reducible first | exact HB.out | apply below_alloc | apply pw_below_drewN | apply below_drew1) | exact HB.out)) hb); clear HO117; clear HB; have HO117 := n0_; have HB := n1_; clear n0_ n1_; (try clear hb); (try clear hb2); (try clear hk); (try clear hi)) | (go_at_call 11; (with_reducible refine (bound_Boxes.calls 2 t121 _ A7.out).mono ?_); rintro e w' ⟨rfl, ⟨nd, rfl⟩⟩) | (go_at_call 11; (with_reducible refine (bound_Boxes.calls (-1) t122 _ A9.out).mono ?_); rintro e w' ⟨rfl, ⟨nd, rfl⟩⟩))
            go_ret
            exact ⟨by first | rfl | (simp [errW_none, errW_some] <;> rfl) | (simp [*, errW_none, errW_some] <;> rfl), by repeat (first | (with_reducible first | exact HB.out | apply below_alloc | apply pw_below_drewN | apply below_drew1) | exact HB.out)⟩
        · rw [if_neg c8] at H
          have c8b0 : (t121 == 12) = false := beq_eq_false_iff_ne.mpr c8
          have c8b1 : (t121 != 12) = true := bne_iff_ne.mpr c8
          obtain rfl := Option.some.inj H
          go_enter Try.func7, Try.ntmps7
          go_wp2_with (first | ((with_reducible refine gate_dst (N := 3) rfl ?_); refine Kd.S_lit k26 _ 26 ?hg (N := 3) ?hd (xs := ([(⟨(-1), (⟨#[97]⟩ : ByteArray), (⟨#[]⟩ : ByteArray), ([] : List (S30))⟩ : S26)] : List (S26))) (inner := [.int .i64 (-1), .string (⟨#[97]⟩ : ByteArray), .string (⟨#[]⟩ : ByteArray), .slice none 0 0]) (ok := fun _ => True) (okp := fun _ => True) ?hr ?hp (fun _ hk => hk) trivial (Below.refl _ _) (Nat.le_refl _) (by simp) ?_; (case hd => rfl); (case hg => rfl); (case hr => first | (go_simp; done) | (go_simp; rfl)); (case hp => exact (Reps.c4 (show Kd.M k26 _ _ _ (⟨(-1), (⟨#[97]⟩ : ByteArray), (⟨#[]⟩ : ByteArray), ([] : List (S30))⟩ : S26) [.int .i64 (-1), .string (⟨#[97]⟩ : ByteArray), .string (⟨#[]⟩ : ByteArray), .slice none 0 0] from (k26_mkM _ _ _ (⟨(-1), (⟨#[97]⟩ : ByteArray), (⟨#[]⟩ : ByteArray), ([] : List (S30))⟩ : S26) (Kd.R_nil _ _ _ _ _))) (Reps.none _ _))); intro v116 w43 ho44 hb hg_ hnew_; clear hg_ hnew_; (first | rw [← Ny115.out] at ho44 | (simp only [Int.reduceToNat] at ho44; rw [← Ny115.out] at ho44)); have n0_ := Aside0.mk (Kd.S_lower ho44 (below_size (by repeat (first | (with_reducible first | exact HB.out | apply below_alloc | apply pw_below_drewN | apply below_drew1) | exact HB.out)))); have n1_ := Aside0.mk (below_step (by repeat (first | (with_reducible first | exact HB.out | apply below_alloc | apply pw_below_drewN | apply below_drew1) | exact HB.out)) hb); clear HB; have HO117 := n0_; have HB := n1_; clear n0_ n1_; clear hb ho44; obtain ⟨Ao45, co45, eo45⟩ := Kd.S_slice HO117.out; subst eo45) | ((with_reducible refine gate_callee (f := 8) rfl ?_); refine goesL_ (some 5) rfl rfl Try.func8 (by kernel_rfl) rfl #[.int .i64 10, .slice Ao45 y115.length co45] rfl (by (try simp only [List.map_toArray, List.map_cons, List.map_nil]); first | done | rfl | (simp only [List.length_drop, List.length_take]; rfl)) ?_; (with_reducible refine (bound_Input.calls k 10 _ _ y115 t118 _ ?side1 ?side2 A1.out).mono ?_); (case side1 => repeat (first | exact (Kd.S_reads' HO117.out).2.2 | (with_reducible refine Kd.C_alloc ?_ _) | (with_reducible refine Kd.C_drewN ?_ _) | (with_reducible refine Kd.C_drew ?_))); (case side2 => exact (Kd.S_reads' HO117.out).2.1); rintro e w46 ⟨rfl, hb⟩; refine ⟨_, rfl, ?_⟩; have n0_ := Aside0.mk (Kd.S_below (by (with_reducible repeat (first | apply Kd.S_alloc | apply Kd.S_drewN | apply Kd.S_drew)); exact HO117.out) hb); have n1_ := Aside0.mk (below_step (by repeat (first | (with_reducible first | exact HB.out | apply below_alloc | apply pw_below_drewN | apply below_drew1) | exact HB.out)) hb); clear HO117; clear HB; have HO117 := n0_; have HB := n1_; clear n0_ n1_; (try clear hb); (try clear hb2); (try clear hk); (try clear hi)) | (go_at_call 8; (with_reducible refine (bound_Input.calls k 65537 _ _ y115 t119 _ ?side1 ?side2 A3.out).mono ?_); (case side1 => repeat (first | exact (Kd.S_reads' HO117.out).2.2 | (with_reducible refine Kd.C_alloc ?_ _) | (with_reducible refine Kd.C_drewN ?_ _) | (with_reducible refine Kd.C_drew ?_))); (case side2 => exact (Kd.S_reads' HO117.out).2.1); rintro e w47 ⟨rfl, hb⟩; have n0_ := Aside0.mk (Kd.S_below (by (with_reducible repeat (first | apply Kd.S_alloc | apply Kd.S_drewN | apply Kd.S_drew)); exact HO117.out) hb); have n1_ := Aside0.mk (below_step (by repeat (first | (with_reducible first | exact HB.out | apply below_alloc | apply pw_below_drewN | apply below_drew1) | exact HB.out)) hb); clear HO117; clear HB; have HO117 := n0_; have HB := n1_; clear n0_ n1_; (try clear hb); (try clear hb2); (try clear hk); (try clear hi)) | (go_at_call 8; (refine (bound_Input.calls k 0 _ _ ([] : List (S26)) t120 _ ?side1 ?side2 A5.out).mono ?_); (case side1 => exact Kd.C_nil _ _); (case side2 => exact Nat.le_refl _); rintro e w48 ⟨rfl, hb⟩; have n0_ := Aside0.mk (Kd.S_below (by (with_reducible repeat (first | apply Kd.S_alloc | apply Kd.S_drewN | apply Kd.S_drew)); exact HO117.out) hb); have n1_ := Aside0.mk (below_step (by repeat (first | (with_reducible first | exact HB.out | apply below_alloc | apply pw_below_drewN | apply below_drew1) | exact HB.out)) hb); clear HO117; clear HB; have HO117 := n0_; have HB := n1_; clear n0_ n1_; (try clear hb); (try clear hb2); (try clear hk); (try clear hi)) | (go_at_call 11; (with_reducible refine (bound_Boxes.calls 2 t121 _ A7.out).mono ?_); rintro e w' ⟨rfl, ⟨nd, rfl⟩⟩))
          go_ret
          exact ⟨by first | rfl | (simp [errW_none, errW_some] <;> rfl) | (simp [*, errW_none, errW_some] <;> rfl), by repeat (first | (with_reducible first | exact HB.out | apply below_alloc | apply pw_below_drewN | apply below_drew1) | exact HB.out)⟩
      · rw [if_neg c6] at H
        have c6b0 : (t120 == 4) = false := beq_eq_false_iff_ne.mpr c6
        have c6b1 : (t120 != 4) = true := bne_iff_ne.mpr c6
        obtain rfl := Option.some.inj H
        go_enter Try.func7, Try.ntmps7
        go_wp2_with (first | ((with_reducible refine gate_dst (N := 3) rfl ?_); refine Kd.S_lit k26 _ 26 ?hg (N := 3) ?hd (xs := ([(⟨(-1), (⟨#[97]⟩ : ByteArray), (⟨#[]⟩ : ByteArray), ([] : List (S30))⟩ : S26)] : List (S26))) (inner := [.int .i64 (-1), .string (⟨#[97]⟩ : ByteArray), .string (⟨#[]⟩ : ByteArray), .slice none 0 0]) (ok := fun _ => True) (okp := fun _ => True) ?hr ?hp (fun _ hk => hk) trivial (Below.refl _ _) (Nat.le_refl _) (by simp) ?_; (case hd => rfl); (case hg => rfl); (case hr => first | (go_simp; done) | (go_simp; rfl)); (case hp => exact (Reps.c4 (show Kd.M k26 _ _ _ (⟨(-1), (⟨#[97]⟩ : ByteArray), (⟨#[]⟩ : ByteArray), ([] : List (S30))⟩ : S26) [.int .i64 (-1), .string (⟨#[97]⟩ : ByteArray), .string (⟨#[]⟩ : ByteArray), .slice none 0 0] from (k26_mkM _ _ _ (⟨(-1), (⟨#[97]⟩ : ByteArray), (⟨#[]⟩ : ByteArray), ([] : List (S30))⟩ : S26) (Kd.R_nil _ _ _ _ _))) (Reps.none _ _))); intro v116 w49 ho50 hb hg_ hnew_; clear hg_ hnew_; (first | rw [← Ny115.out] at ho50 | (simp only [Int.reduceToNat] at ho50; rw [← Ny115.out] at ho50)); have n0_ := Aside0.mk (Kd.S_lower ho50 (below_size (by repeat (first | (with_reducible first | exact HB.out | apply below_alloc | apply pw_below_drewN | apply below_drew1) | exact HB.out)))); have n1_ := Aside0.mk (below_step (by repeat (first | (with_reducible first | exact HB.out | apply below_alloc | apply pw_below_drewN | apply below_drew1) | exact HB.out)) hb); clear HB; have HO117 := n0_; have HB := n1_; clear n0_ n1_; clear hb ho50; obtain ⟨Ao51, co51, eo51⟩ := Kd.S_slice HO117.out; subst eo51) | ((with_reducible refine gate_callee (f := 8) rfl ?_); refine goesL_ (some 5) rfl rfl Try.func8 (by kernel_rfl) rfl #[.int .i64 10, .slice Ao51 y115.length co51] rfl (by (try simp only [List.map_toArray, List.map_cons, List.map_nil]); first | done | rfl | (simp only [List.length_drop, List.length_take]; rfl)) ?_; (with_reducible refine (bound_Input.calls k 10 _ _ y115 t118 _ ?side1 ?side2 A1.out).mono ?_); (case side1 => repeat (first | exact (Kd.S_reads' HO117.out).2.2 | (with_reducible refine Kd.C_alloc ?_ _) | (with_reducible refine Kd.C_drewN ?_ _) | (with_reducible refine Kd.C_drew ?_))); (case side2 => exact (Kd.S_reads' HO117.out).2.1); rintro e w52 ⟨rfl, hb⟩; refine ⟨_, rfl, ?_⟩; have n0_ := Aside0.mk (Kd.S_below (by (with_reducible repeat (first | apply Kd.S_alloc | apply Kd.S_drewN | apply Kd.S_drew)); exact HO117.out) hb); have n1_ := Aside0.mk (below_step (by repeat (first | (with_reducible first | exact HB.out | apply below_alloc | apply pw_below_drewN | apply below_drew1) | exact HB.out)) hb); clear HO117; clear HB; have HO117 := n0_; have HB := n1_; clear n0_ n1_; (try clear hb); (try clear hb2); (try clear hk); (try clear hi)) | (go_at_call 8; (with_reducible refine (bound_Input.calls k 65537 _ _ y115 t119 _ ?side1 ?side2 A3.out).mono ?_); (case side1 => repeat (first | exact (Kd.S_reads' HO117.out).2.2 | (with_reducible refine Kd.C_alloc ?_ _) | (with_reducible refine Kd.C_drewN ?_ _) | (with_reducible refine Kd.C_drew ?_))); (case side2 => exact (Kd.S_reads' HO117.out).2.1); rintro e w53 ⟨rfl, hb⟩; have n0_ := Aside0.mk (Kd.S_below (by (with_reducible repeat (first | apply Kd.S_alloc | apply Kd.S_drewN | apply Kd.S_drew)); exact HO117.out) hb); have n1_ := Aside0.mk (below_step (by repeat (first | (with_reducible first | exact HB.out | apply below_alloc | apply pw_below_drewN | apply below_drew1) | exact HB.out)) hb); clear HO117; clear HB; have HO117 := n0_; have HB := n1_; clear n0_ n1_; (try clear hb); (try clear hb2); (try clear hk); (try clear hi)) | (go_at_call 8; (refine (bound_Input.calls k 0 _ _ ([] : List (S26)) t120 _ ?side1 ?side2 A5.out).mono ?_); (case side1 => exact Kd.C_nil _ _); (case side2 => exact Nat.le_refl _); rintro e w54 ⟨rfl, hb⟩; have n0_ := Aside0.mk (Kd.S_below (by (with_reducible repeat (first | apply Kd.S_alloc | apply Kd.S_drewN | apply Kd.S_drew)); exact HO117.out) hb); have n1_ := Aside0.mk (below_step (by repeat (first | (with_reducible first | exact HB.out | apply below_alloc | apply pw_below_drewN | apply below_drew1) | exact HB.out)) hb); clear HO117; clear HB; have HO117 := n0_; have HB := n1_; clear n0_ n1_; (try clear hb); (try clear hb2); (try clear hk); (try clear hi)))
        go_ret
        exact ⟨by first | rfl | (simp [errW_none, errW_some] <;> rfl) | (simp [*, errW_none, errW_some] <;> rfl), by repeat (first | (with_reducible first | exact HB.out | apply below_alloc | apply pw_below_drewN | apply below_drew1) | exact HB.out)⟩
    · rw [if_neg c4] at H
      have c4b0 : (t119 == 3) = false := beq_eq_false_iff_ne.mpr c4
      have c4b1 : (t119 != 3) = true := bne_iff_ne.mpr c4
      obtain rfl := Option.some.inj H
      go_enter Try.func7, Try.ntmps7
      go_wp2_with (first | ((with_reducible refine gate_dst (N := 3) rfl ?_); refine Kd.S_lit k26 _ 26 ?hg (N := 3) ?hd (xs := ([(⟨(-1), (⟨#[97]⟩ : ByteArray), (⟨#[]⟩ : ByteArray), ([] : List (S30))⟩ : S26)] : List (S26))) (inner := [.int .i64 (-1), .string (⟨#[97]⟩ : ByteArray), .string (⟨#[]⟩ : ByteArray), .slice none 0 0]) (ok := fun _ => True) (okp := fun _ => True) ?hr ?hp (fun _ hk => hk) trivial (Below.refl _ _) (Nat.le_refl _) (by simp) ?_; (case hd => rfl); (case hg => rfl); (case hr => first | (go_simp; done) | (go_simp; rfl)); (case hp => exact (Reps.c4 (show Kd.M k26 _ _ _ (⟨(-1), (⟨#[97]⟩ : ByteArray), (⟨#[]⟩ : ByteArray), ([] : List (S30))⟩ : S26) [.int .i64 (-1), .string (⟨#[97]⟩ : ByteArray), .string (⟨#[]⟩ : ByteArray), .slice none 0 0] from (k26_mkM _ _ _ (⟨(-1), (⟨#[97]⟩ : ByteArray), (⟨#[]⟩ : ByteArray), ([] : List (S30))⟩ : S26) (Kd.R_nil _ _ _ _ _))) (Reps.none _ _))); intro v116 w55 ho56 hb hg_ hnew_; clear hg_ hnew_; (first | rw [← Ny115.out] at ho56 | (simp only [Int.reduceToNat] at ho56; rw [← Ny115.out] at ho56)); have n0_ := Aside0.mk (Kd.S_lower ho56 (below_size (by repeat (first | (with_reducible first | exact HB.out | apply below_alloc | apply pw_below_drewN | apply below_drew1) | exact HB.out)))); have n1_ := Aside0.mk (below_step (by repeat (first | (with_reducible first | exact HB.out | apply below_alloc | apply pw_below_drewN | apply below_drew1) | exact HB.out)) hb); clear HB; have HO117 := n0_; have HB := n1_; clear n0_ n1_; clear hb ho56; obtain ⟨Ao57, co57, eo57⟩ := Kd.S_slice HO117.out; subst eo57) | ((with_reducible refine gate_callee (f := 8) rfl ?_); refine goesL_ (some 5) rfl rfl Try.func8 (by kernel_rfl) rfl #[.int .i64 10, .slice Ao57 y115.length co57] rfl (by (try simp only [List.map_toArray, List.map_cons, List.map_nil]); first | done | rfl | (simp only [List.length_drop, List.length_take]; rfl)) ?_; (with_reducible refine (bound_Input.calls k 10 _ _ y115 t118 _ ?side1 ?side2 A1.out).mono ?_); (case side1 => repeat (first | exact (Kd.S_reads' HO117.out).2.2 | (with_reducible refine Kd.C_alloc ?_ _) | (with_reducible refine Kd.C_drewN ?_ _) | (with_reducible refine Kd.C_drew ?_))); (case side2 => exact (Kd.S_reads' HO117.out).2.1); rintro e w58 ⟨rfl, hb⟩; refine ⟨_, rfl, ?_⟩; have n0_ := Aside0.mk (Kd.S_below (by (with_reducible repeat (first | apply Kd.S_alloc | apply Kd.S_drewN | apply Kd.S_drew)); exact HO117.out) hb); have n1_ := Aside0.mk (below_step (by repeat (first | (with_reducible first | exact HB.out | apply below_alloc | apply pw_below_drewN | apply below_drew1) | exact HB.out)) hb); clear HO117; clear HB; have HO117 := n0_; have HB := n1_; clear n0_ n1_; (try clear hb); (try clear hb2); (try clear hk); (try clear hi)) | (go_at_call 8; (with_reducible refine (bound_Input.calls k 65537 _ _ y115 t119 _ ?side1 ?side2 A3.out).mono ?_); (case side1 => repeat (first | exact (Kd.S_reads' HO117.out).2.2 | (with_reducible refine Kd.C_alloc ?_ _) | (with_reducible refine Kd.C_drewN ?_ _) | (with_reducible refine Kd.C_drew ?_))); (case side2 => exact (Kd.S_reads' HO117.out).2.1); rintro e w59 ⟨rfl, hb⟩; have n0_ := Aside0.mk (Kd.S_below (by (with_reducible repeat (first | apply Kd.S_alloc | apply Kd.S_drewN | apply Kd.S_drew)); exact HO117.out) hb); have n1_ := Aside0.mk (below_step (by repeat (first | (with_reducible first | exact HB.out | apply below_alloc | apply pw_below_drewN | apply below_drew1) | exact HB.out)) hb); clear HO117; clear HB; have HO117 := n0_; have HB := n1_; clear n0_ n1_; (try clear hb); (try clear hb2); (try clear hk); (try clear hi)))
      go_ret
      exact ⟨by first | rfl | (simp [errW_none, errW_some] <;> rfl) | (simp [*, errW_none, errW_some] <;> rfl), by repeat (first | (with_reducible first | exact HB.out | apply below_alloc | apply pw_below_drewN | apply below_drew1) | exact HB.out)⟩
  · rw [if_neg c2] at H
    have c2b0 : (t118 == 0) = false := beq_eq_false_iff_ne.mpr c2
    have c2b1 : (t118 != 0) = true := bne_iff_ne.mpr c2
    obtain rfl := Option.some.inj H
    go_enter Try.func7, Try.ntmps7
    go_wp2_with (first | ((with_reducible refine gate_dst (N := 3) rfl ?_); refine Kd.S_lit k26 _ 26 ?hg (N := 3) ?hd (xs := ([(⟨(-1), (⟨#[97]⟩ : ByteArray), (⟨#[]⟩ : ByteArray), ([] : List (S30))⟩ : S26)] : List (S26))) (inner := [.int .i64 (-1), .string (⟨#[97]⟩ : ByteArray), .string (⟨#[]⟩ : ByteArray), .slice none 0 0]) (ok := fun _ => True) (okp := fun _ => True) ?hr ?hp (fun _ hk => hk) trivial (Below.refl _ _) (Nat.le_refl _) (by simp) ?_; (case hd => rfl); (case hg => rfl); (case hr => first | (go_simp; done) | (go_simp; rfl)); (case hp => exact (Reps.c4 (show Kd.M k26 _ _ _ (⟨(-1), (⟨#[97]⟩ : ByteArray), (⟨#[]⟩ : ByteArray), ([] : List (S30))⟩ : S26) [.int .i64 (-1), .string (⟨#[97]⟩ : ByteArray), .string (⟨#[]⟩ : ByteArray), .slice none 0 0] from (k26_mkM _ _ _ (⟨(-1), (⟨#[97]⟩ : ByteArray), (⟨#[]⟩ : ByteArray), ([] : List (S30))⟩ : S26) (Kd.R_nil _ _ _ _ _))) (Reps.none _ _))); intro v116 w60 ho61 hb hg_ hnew_; clear hg_ hnew_; (first | rw [← Ny115.out] at ho61 | (simp only [Int.reduceToNat] at ho61; rw [← Ny115.out] at ho61)); have n0_ := Aside0.mk (Kd.S_lower ho61 (below_size (by repeat (first | (with_reducible first | exact HB.out | apply below_alloc | apply pw_below_drewN | apply below_drew1) | exact HB.out)))); have n1_ := Aside0.mk (below_step (by repeat (first | (with_reducible first | exact HB.out | apply below_alloc | apply pw_below_drewN | apply below_drew1) | exact HB.out)) hb); clear HB; have HO117 := n0_; have HB := n1_; clear n0_ n1_; clear hb ho61; obtain ⟨Ao62, co62, eo62⟩ := Kd.S_slice HO117.out; subst eo62) | ((with_reducible refine gate_callee (f := 8) rfl ?_); refine goesL_ (some 5) rfl rfl Try.func8 (by kernel_rfl) rfl #[.int .i64 10, .slice Ao62 y115.length co62] rfl (by (try simp only [List.map_toArray, List.map_cons, List.map_nil]); first | done | rfl | (simp only [List.length_drop, List.length_take]; rfl)) ?_; (with_reducible refine (bound_Input.calls k 10 _ _ y115 t118 _ ?side1 ?side2 A1.out).mono ?_); (case side1 => repeat (first | exact (Kd.S_reads' HO117.out).2.2 | (with_reducible refine Kd.C_alloc ?_ _) | (with_reducible refine Kd.C_drewN ?_ _) | (with_reducible refine Kd.C_drew ?_))); (case side2 => exact (Kd.S_reads' HO117.out).2.1); rintro e w63 ⟨rfl, hb⟩; refine ⟨_, rfl, ?_⟩; have n0_ := Aside0.mk (Kd.S_below (by (with_reducible repeat (first | apply Kd.S_alloc | apply Kd.S_drewN | apply Kd.S_drew)); exact HO117.out) hb); have n1_ := Aside0.mk (below_step (by repeat (first | (with_reducible first | exact HB.out | apply below_alloc | apply pw_below_drewN | apply below_drew1) | exact HB.out)) hb); clear HO117; clear HB; have HO117 := n0_; have HB := n1_; clear n0_ n1_; (try clear hb); (try clear hb2); (try clear hk); (try clear hi)))
    go_ret
    exact ⟨by first | rfl | (simp [errW_none, errW_some] <;> rfl) | (simp [*, errW_none, errW_some] <;> rfl), by repeat (first | (with_reducible first | exact HB.out | apply below_alloc | apply pw_below_drewN | apply below_drew1) | exact HB.out)⟩

/-! ### fleuronlaw23_BoundBoxes: function 5 -/
def fleuronlaw23_BoundBoxes.j0 : Nat → Int → Int → Bool → Option (Bool)
  | 0, _, _, _ => none
  | k + 1, x0, x3, x9 => if x9 = true then ((bound_Boxes.f x0).bind fun t126 => (if t126 = (wrap64 (6 * x0)) then ((fleuronlaw23_awake.f k).bind fun t127 => (some t127)) else (some false))) else ((bound_Boxes.f x0).bind fun t128 => (if t128 = x3 then ((fleuronlaw23_awake.f k).bind fun t129 => (some t129)) else (some false)))
def fleuronlaw23_BoundBoxes.f (k : Nat) (a0 : Int) : Option (Bool) := if a0 ≥ 0 then (fleuronlaw23_BoundBoxes.j0 k a0 0 (decide (a0 ≤ 1000))) else (fleuronlaw23_BoundBoxes.j0 k a0 0 false)
theorem fleuronlaw23_BoundBoxes.mono_l : ∀ k, (∀ y0 y1 y2, LeO (fleuronlaw23_BoundBoxes.j0 k y0 y1 y2) (fleuronlaw23_BoundBoxes.j0 (k + 1) y0 y1 y2))
  | 0 => fun _ _ _ r h => by simp [fleuronlaw23_BoundBoxes.j0] at h
  | k + 1 => by
    have ih0 := fleuronlaw23_BoundBoxes.mono_l k
    · intro y0 y1 y2
      unfold fleuronlaw23_BoundBoxes.j0
      repeat' first
      | (with_reducible exact ih0 _ _ _)
      | (with_reducible exact fleuronlaw23_awake.mono _)
      | (with_reducible exact LeO.refl _)
      | (with_reducible exact LeO.none _)
      | (with_reducible refine LeO.ite ?_ ?_)
      | (with_reducible refine LeO.bind ?_ (fun _ => ?_))
      | exact ih0 _ _ _
      | exact fleuronlaw23_awake.mono _
      | exact LeO.none _
      | refine LeO.ite ?_ ?_
      | refine LeO.bind ?_ (fun _ => ?_)
theorem fleuronlaw23_BoundBoxes.mono : ∀ a0 k, LeO (fleuronlaw23_BoundBoxes.f k a0) (fleuronlaw23_BoundBoxes.f (k + 1) a0) := by
  intro a0 k
  have ih0 := fleuronlaw23_BoundBoxes.mono_l k
  unfold fleuronlaw23_BoundBoxes.f
  repeat' first
      | (with_reducible exact ih0 _ _ _)
      | (with_reducible exact fleuronlaw23_awake.mono _)
      | (with_reducible exact LeO.refl _)
      | (with_reducible exact LeO.none _)
      | (with_reducible refine LeO.ite ?_ ?_)
      | (with_reducible refine LeO.bind ?_ (fun _ => ?_))
      | exact ih0 _ _ _
      | exact fleuronlaw23_awake.mono _
      | exact LeO.none _
      | refine LeO.ite ?_ ?_
      | refine LeO.bind ?_ (fun _ => ?_)
set_option maxHeartbeats 8000000 in
set_option maxRecDepth 100000 in
theorem fleuronlaw23_BoundBoxes.calls (k : Nat) (a0 : Int) (r : Bool) (w : World) (h : fleuronlaw23_BoundBoxes.f k a0 = some r) :
    Calls Try.prog 5 #[.int .i64 a0] w fun e w' => e = .returned (.bool r) ∧ Below w.heap.size w w' := by
  have HB := Aside0.mk (Below.refl w.heap.size w)
  have H : (if a0 ≥ 0 then (fleuronlaw23_BoundBoxes.j0 k a0 0 (decide (a0 ≤ 1000))) else (fleuronlaw23_BoundBoxes.j0 k a0 0 false)) = some r := h
  clear h
  have HC2 := Aside0.mk H
  clear H
  go_enter Try.func5, Try.ntmps5
  go_upto_region 2 with (fail)
  go_cut [9] (fun v9 wc => ∃ (kq : Nat) (x9_1 : Bool), v9 = .bool x9_1 ∧ Aside0 (fleuronlaw23_BoundBoxes.j0 kq a0 0 x9_1 = some r) ∧ Aside0 (kq ≤ k) ∧ Aside0 (Below w.heap.size w wc))
  case first =>
    have H := HC2.out
    clear HC2
    by_cases c3 : a0 ≥ 0
    · rw [if_pos c3] at H
      have c3b0 : decide (0 ≤ a0) = true := decide_eq_true c3
      clear c3
      (first | rw [c3b0] | (simp only [i64_w, i32_w]; rw [c3b0]) | skip)
      have H' := Aside0.mk H
      clear H
      go_wp2
      go_meet
      case rel => exact ⟨_, (decide (a0 ≤ 1000)), (by first | rfl | (simp; done) | (simp [*]; done)), H', ⟨by first | omega | exact Nat.le_refl _⟩, ⟨by repeat (first | (with_reducible first | exact HB.out | apply below_alloc | apply pw_below_drewN | apply below_drew1) | exact HB.out)⟩⟩
    · rw [if_neg c3] at H
      have c3b0 : decide (0 ≤ a0) = false := decide_eq_false c3
      clear c3
      (first | rw [c3b0] | (simp only [i64_w, i32_w]; rw [c3b0]) | skip)
      have H' := Aside0.mk H
      clear H
      go_wp2
      go_meet
      case rel => exact ⟨_, (false), (by first | rfl | (simp; done) | (simp [*]; done)), H', ⟨by first | omega | exact Nat.le_refl _⟩, ⟨by repeat (first | (with_reducible first | exact HB.out | apply below_alloc | apply pw_below_drewN | apply below_drew1) | exact HB.out)⟩⟩
  case rest =>
    clear HC2
    try clear p2
    try clear c3
    try clear c3b0
    obtain ⟨kq, x9_1, rfl, HA, HJ1, HB⟩ := hcut
    cases kq with
    | zero => exact absurd HA.out (by simp [fleuronlaw23_BoundBoxes.j0])
    | succ kj1 =>
      have H := HA.out
      clear HA
      simp only [fleuronlaw23_BoundBoxes.j0] at H
      by_cases c4 : x9_1 = true
      · subst c4
        have H1 : ((bound_Boxes.f a0).bind fun t126 => (if t126 = (wrap64 (6 * a0)) then ((fleuronlaw23_awake.f kj1).bind fun t127 => (some t127)) else (some false))) = some r := by rw [if_pos rfl] at H; exact H
        clear H
        have H := H1
        clear H1
        replace H := Option.bind_eq_some_iff.mp H
        obtain ⟨t126, A50, H⟩ := H
        replace H : (if t126 = (wrap64 (6 * a0)) then ((fleuronlaw23_awake.f kj1).bind fun t127 => (some t127)) else (some false)) = some r := H
        have A5 := Aside0.mk A50
        clear A50
        by_cases c6 : t126 = (wrap64 (6 * a0))
        · rw [if_pos c6] at H
          have c6b0 : (t126 == (wrap64 (6 * a0))) = true := beq_iff_eq.mpr c6
          have c6b1 : (t126 != (wrap64 (6 * a0))) = false := bne_eq_false_iff_eq.mpr c6
          clear c6
          replace H := Option.bind_eq_some_iff.mp H
          obtain ⟨t127, A70, H⟩ := H
          replace H : (some t127) = some r := H
          have A7 := Aside0.mk A70
          clear A70
          obtain rfl := Option.some.inj H
          go_wp2_with (first | ((with_reducible refine gate_callee (f := 11) rfl ?_); refine goesL_ (some 13) rfl rfl Try.func11 (by kernel_rfl) rfl #[.int .i64 a0] rfl (by (try simp only [List.map_toArray, List.map_cons, List.map_nil]); first | done | rfl | (simp only [List.length_drop, List.length_take]; rfl)) ?_; (with_reducible refine (bound_Boxes.calls a0 t126 _ A5.out).mono ?_); rintro e w' ⟨rfl, ⟨nd, rfl⟩⟩; refine ⟨_, rfl, ?_⟩) | (go_at_call 7; (with_reducible refine (fleuronlaw23_awake.calls kj1  t127 _ A7.out).mono ?_); rintro e w8 ⟨rfl, hb⟩; have n0_ := Aside0.mk (below_step (by repeat (first | (with_reducible first | exact HB.out | apply below_alloc | apply pw_below_drewN | apply below_drew1) | exact HB.out)) hb); clear HB; have HB := n0_; clear n0_; (try clear hb); (try clear hb2); (try clear hk); (try clear hi)))
          go_ret
          exact ⟨by first | rfl | (simp [errW_none, errW_some] <;> rfl) | (simp [*, errW_none, errW_some] <;> rfl), by repeat (first | (with_reducible first | exact HB.out | apply below_alloc | apply pw_below_drewN | apply below_drew1) | exact HB.out)⟩
        · rw [if_neg c6] at H
          have c6b0 : (t126 == (wrap64 (6 * a0))) = false := beq_eq_false_iff_ne.mpr c6
          have c6b1 : (t126 != (wrap64 (6 * a0))) = true := bne_iff_ne.mpr c6
          obtain rfl := Option.some.inj H
          go_wp2_with (first | ((with_reducible refine gate_callee (f := 11) rfl ?_); refine goesL_ (some 13) rfl rfl Try.func11 (by kernel_rfl) rfl #[.int .i64 a0] rfl (by (try simp only [List.map_toArray, List.map_cons, List.map_nil]); first | done | rfl | (simp only [List.length_drop, List.length_take]; rfl)) ?_; (with_reducible refine (bound_Boxes.calls a0 t126 _ A5.out).mono ?_); rintro e w' ⟨rfl, ⟨nd, rfl⟩⟩; refine ⟨_, rfl, ?_⟩))
          go_ret
          exact ⟨by first | rfl | (simp [errW_none, errW_some] <;> rfl) | (simp [*, errW_none, errW_some] <;> rfl), by repeat (first | (with_reducible first | exact HB.out | apply below_alloc | apply pw_below_drewN | apply below_drew1) | exact HB.out)⟩
      · replace c4 := Bool.eq_false_iff.mpr c4
        subst c4
        have H1 : ((bound_Boxes.f a0).bind fun t128 => (if t128 = 0 then ((fleuronlaw23_awake.f kj1).bind fun t129 => (some t129)) else (some false))) = some r := by rw [if_neg (show ¬ (false = true) by decide)] at H; exact H
        clear H
        have H := H1
        clear H1
        replace H := Option.bind_eq_some_iff.mp H
        obtain ⟨t128, A90, H⟩ := H
        replace H : (if t128 = 0 then ((fleuronlaw23_awake.f kj1).bind fun t129 => (some t129)) else (some false)) = some r := H
        have A9 := Aside0.mk A90
        clear A90
        by_cases c10 : t128 = 0
        · rw [if_pos c10] at H
          have c10b0 : (t128 == 0) = true := beq_iff_eq.mpr c10
          have c10b1 : (t128 != 0) = false := bne_eq_false_iff_eq.mpr c10
          clear c10
          replace H := Option.bind_eq_some_iff.mp H
          obtain ⟨t129, A110, H⟩ := H
          replace H : (some t129) = some r := H
          have A11 := Aside0.mk A110
          clear A110
          obtain rfl := Option.some.inj H
          go_wp2_with (first | ((with_reducible refine gate_callee (f := 11) rfl ?_); refine goesL_ (some 13) rfl rfl Try.func11 (by kernel_rfl) rfl #[.int .i64 a0] rfl (by (try simp only [List.map_toArray, List.map_cons, List.map_nil]); first | done | rfl | (simp only [List.length_drop, List.length_take]; rfl)) ?_; (with_reducible refine (bound_Boxes.calls a0 t128 _ A9.out).mono ?_); rintro e w' ⟨rfl, ⟨nd, rfl⟩⟩; refine ⟨_, rfl, ?_⟩) | (go_at_call 7; (with_reducible refine (fleuronlaw23_awake.calls kj1  t129 _ A11.out).mono ?_); rintro e w12 ⟨rfl, hb⟩; have n0_ := Aside0.mk (below_step (by repeat (first | (with_reducible first | exact HB.out | apply below_alloc | apply pw_below_drewN | apply below_drew1) | exact HB.out)) hb); clear HB; have HB := n0_; clear n0_; (try clear hb); (try clear hb2); (try clear hk); (try clear hi)))
          go_ret
          exact ⟨by first | rfl | (simp [errW_none, errW_some] <;> rfl) | (simp [*, errW_none, errW_some] <;> rfl), by repeat (first | (with_reducible first | exact HB.out | apply below_alloc | apply pw_below_drewN | apply below_drew1) | exact HB.out)⟩
        · rw [if_neg c10] at H
          have c10b0 : (t128 == 0) = false := beq_eq_false_iff_ne.mpr c10
          have c10b1 : (t128 != 0) = true := bne_iff_ne.mpr c10
          obtain rfl := Option.some.inj H
          go_wp2_with (first | ((with_reducible refine gate_callee (f := 11) rfl ?_); refine goesL_ (some 13) rfl rfl Try.func11 (by kernel_rfl) rfl #[.int .i64 a0] rfl (by (try simp only [List.map_toArray, List.map_cons, List.map_nil]); first | done | rfl | (simp only [List.length_drop, List.length_take]; rfl)) ?_; (with_reducible refine (bound_Boxes.calls a0 t128 _ A9.out).mono ?_); rintro e w' ⟨rfl, ⟨nd, rfl⟩⟩; refine ⟨_, rfl, ?_⟩))
          go_ret
          exact ⟨by first | rfl | (simp [errW_none, errW_some] <;> rfl) | (simp [*, errW_none, errW_some] <;> rfl), by repeat (first | (with_reducible first | exact HB.out | apply below_alloc | apply pw_below_drewN | apply below_drew1) | exact HB.out)⟩

/-- THE ONE PURE STATEMENT of fleuronlaw23_BoundBoxes: yours. -/
def fleuronlaw23_BoundBoxes.Pure : Prop := ∀ (a0 : Int), (Lit.int .i64 a0).wf = true → ∃ k, fleuronlaw23_BoundBoxes.f k a0 = some true
theorem fleuronlaw23_BoundBoxes.walk (P : fleuronlaw23_BoundBoxes.Pure) (a0 : Int) (w : World) (w0 : (Lit.int .i64 a0).wf = true) :
    Calls Try.prog 5 #[.int .i64 a0] w fun e w' => e = .returned (.bool true) ∧ Below w.heap.size w w' := by
  obtain ⟨k, h⟩ := P a0 w0
  refine (fleuronlaw23_BoundBoxes.calls k a0 true w h).mono ?_
  rintro e w' ⟨rfl, hd⟩
  exact ⟨rfl, hd⟩

end Go.Proofs.Ytmadmnbaefifiaa.PBoundBoxes
