/- Written by a program of this session out of the translation, with contracts given by hand beside. -/
import Derived.Test.YtohnoohnppeooaaPrint0
import Derived.Test.YtohnoohnppeooaaPrint5
import Derived.Test.YtohnoohnppeooaaPrint6
namespace Go.Proofs.Ytohnoohnppeooaa.Print
open Go.RowKit Go.Proofs.YtohnoohnppeooaaW.PrintWords Go.Proofs.YtohnoohnppeooaaW.PrintLast Go.Proofs.YtohnoohnppeooaaW.PrintMore
attribute [local go_sem] max2_int min2_int max_two min_two max_three min_three max_four min_four   -- for this text's walks alone
set_option linter.unusedVariables false
set_option linter.unusedSimpArgs false

/-! ### fleuronlaw1_PointsLower: function 7 -/
mutual
def fleuronlaw1_PointsLower.j0 : Nat → ByteArray → ByteArray → Bool → Option (Bool)
  | 0, _, _, _ => none
  | k + 1, x0, x3, x22 => if x22 = true then (some false) else (fleuronlaw1_PointsLower.l0 k x0 x3 0)
def fleuronlaw1_PointsLower.l0 : Nat → ByteArray → ByteArray → Int → Option (Bool)
  | 0, _, _, _ => none
  | k + 1, x0, x3, x4 => if x4 < (x0.size : Int) then (if 0 ≤ x4 then (if (bt x0 x4) ≥ 65 then (fleuronlaw1_PointsLower.j2 k x0 x3 x4 (bt x0 x4) (decide ((bt x0 x4) ≤ 90))) else (fleuronlaw1_PointsLower.j2 k x0 x3 x4 (bt x0 x4) false)) else (none)) else ((fleuronlaw1_awake.f k).bind fun t208 => (some t208))
def fleuronlaw1_PointsLower.j2 : Nat → ByteArray → ByteArray → Int → Int → Bool → Option (Bool)
  | 0, _, _, _, _, _ => none
  | k + 1, x0, x3, x4, x5, x37 => if x37 = true then (if 0 ≤ x4 then (if x4 < (x3.size : Int) then (if (bt x3 x4) = ((x5 + 32) % 256) then (fleuronlaw1_PointsLower.l0 k x0 x3 (wrap64 (x4 + 1))) else (some false)) else (none)) else (none)) else (if 0 ≤ x4 then (if x4 < (x3.size : Int) then (if (bt x3 x4) = x5 then (fleuronlaw1_PointsLower.l0 k x0 x3 (wrap64 (x4 + 1))) else (some false)) else (none)) else (none))
end
def fleuronlaw1_PointsLower.f (k : Nat) (a0 : ByteArray) : Option (Bool) := if (a0.size : Int) > 1000 then ((fleuronlaw1_awake.f k).bind fun t205 => (some t205)) else ((points_Lower.f a0).bind fun t206 => (if (t206.size : Int) = (a0.size : Int) then ((points_Lower.f t206).bind fun t207 => (fleuronlaw1_PointsLower.j0 k a0 t206 (t207.toList != t206.toList))) else (fleuronlaw1_PointsLower.j0 k a0 t206 true)))
theorem fleuronlaw1_PointsLower.mono_l : ∀ k, (∀ y0 y1 y2, LeO (fleuronlaw1_PointsLower.j0 k y0 y1 y2) (fleuronlaw1_PointsLower.j0 (k + 1) y0 y1 y2)) ∧ (∀ y0 y1 y2, LeO (fleuronlaw1_PointsLower.l0 k y0 y1 y2) (fleuronlaw1_PointsLower.l0 (k + 1) y0 y1 y2)) ∧ (∀ y0 y1 y2 y3 y4, LeO (fleuronlaw1_PointsLower.j2 k y0 y1 y2 y3 y4) (fleuronlaw1_PointsLower.j2 (k + 1) y0 y1 y2 y3 y4))
  | 0 => ⟨fun _ _ _ r h => by simp [fleuronlaw1_PointsLower.j0] at h, fun _ _ _ r h => by simp [fleuronlaw1_PointsLower.l0] at h, fun _ _ _ _ _ r h => by simp [fleuronlaw1_PointsLower.j2] at h⟩
  | k + 1 => by
    obtain ⟨ih0, ih1, ih2⟩ := fleuronlaw1_PointsLower.mono_l k
    refine ⟨?_, ?_, ?_⟩
    · intro y0 y1 y2
      unfold fleuronlaw1_PointsLower.j0
      repeat' first
      | (with_reducible exact ih0 _ _ _)
      | (with_reducible exact ih1 _ _ _)
      | (with_reducible exact ih2 _ _ _ _ _)
      | (with_reducible exact fleuronlaw1_awake.mono _)
      | (with_reducible exact LeO.refl _)
      | (with_reducible exact LeO.none _)
      | (with_reducible refine LeO.ite ?_ ?_)
      | (with_reducible refine LeO.bind ?_ (fun _ => ?_))
      | exact ih0 _ _ _
      | exact ih1 _ _ _
      | exact ih2 _ _ _ _ _
      | exact fleuronlaw1_awake.mono _
      | exact LeO.none _
      | refine LeO.ite ?_ ?_
      | refine LeO.bind ?_ (fun _ => ?_)
    · intro y0 y1 y2
      unfold fleuronlaw1_PointsLower.l0
      repeat' first
      | (with_reducible exact ih0 _ _ _)
      | (with_reducible exact ih1 _ _ _)
      | (with_reducible exact ih2 _ _ _ _ _)
      | (with_reducible exact fleuronlaw1_awake.mono _)
      | (with_reducible exact LeO.refl _)
      | (with_reducible exact LeO.none _)
      | (with_reducible refine LeO.ite ?_ ?_)
      | (with_reducible refine LeO.bind ?_ (fun _ => ?_))
      | exact ih0 _ _ _
      | exact ih1 _ _ _
      | exact ih2 _ _ _ _ _
      | exact fleuronlaw1_awake.mono _
      | exact LeO.none _
      | refine LeO.ite ?_ ?_
      | refine LeO.bind ?_ (fun _ => ?_)
    · intro y0 y1 y2 y3 y4
      unfold fleuronlaw1_PointsLower.j2
      repeat' first
      | (with_reducible exact ih0 _ _ _)
      | (with_reducible exact ih1 _ _ _)
      | (with_reducible exact ih2 _ _ _ _ _)
      | (with_reducible exact fleuronlaw1_awake.mono _)
      | (with_reducible exact LeO.refl _)
      | (with_reducible exact LeO.none _)
      | (with_reducible refine LeO.ite ?_ ?_)
      | (with_reducible refine LeO.bind ?_ (fun _ => ?_))
      | exact ih0 _ _ _
      | exact ih1 _ _ _
      | exact ih2 _ _ _ _ _
      | exact fleuronlaw1_awake.mono _
      | exact LeO.none _
      | refine LeO.ite ?_ ?_
      | refine LeO.bind ?_ (fun _ => ?_)
theorem fleuronlaw1_PointsLower.mono : ∀ a0 k, LeO (fleuronlaw1_PointsLower.f k a0) (fleuronlaw1_PointsLower.f (k + 1) a0) := by
  intro a0 k
  obtain ⟨ih0, ih1, ih2⟩ := fleuronlaw1_PointsLower.mono_l k
  unfold fleuronlaw1_PointsLower.f
  repeat' first
      | (with_reducible exact ih0 _ _ _)
      | (with_reducible exact ih1 _ _ _)
      | (with_reducible exact ih2 _ _ _ _ _)
      | (with_reducible exact fleuronlaw1_awake.mono _)
      | (with_reducible exact LeO.refl _)
      | (with_reducible exact LeO.none _)
      | (with_reducible refine LeO.ite ?_ ?_)
      | (with_reducible refine LeO.bind ?_ (fun _ => ?_))
      | exact ih0 _ _ _
      | exact ih1 _ _ _
      | exact ih2 _ _ _ _ _
      | exact fleuronlaw1_awake.mono _
      | exact LeO.none _
      | refine LeO.ite ?_ ?_
      | refine LeO.bind ?_ (fun _ => ?_)
set_option maxHeartbeats 8000000 in
set_option maxRecDepth 100000 in
theorem fleuronlaw1_PointsLower.calls (k : Nat) (a0 : ByteArray) (r : Bool) (w : World) (h : fleuronlaw1_PointsLower.f k a0 = some r) (ht0_ : r = true) :
    Calls Try.prog 7 #[.string a0] w fun e w' => e = .returned (.bool r) ∧ Below w.heap.size w w' := by
  have HB := Aside0.mk (Below.refl w.heap.size w)
  have H : (if (a0.size : Int) > 1000 then ((fleuronlaw1_awake.f k).bind fun t205 => (some t205)) else ((points_Lower.f a0).bind fun t206 => (if (t206.size : Int) = (a0.size : Int) then ((points_Lower.f t206).bind fun t207 => (fleuronlaw1_PointsLower.j0 k a0 t206 (t207.toList != t206.toList))) else (fleuronlaw1_PointsLower.j0 k a0 t206 true)))) = some r := h
  clear h
  have ht_ := Aside0.mk ht0_
  clear ht0_
  by_cases c2 : (a0.size : Int) > 1000
  · rw [if_pos c2] at H
    have c2b0 : decide (1000 < (a0.size : Int)) = true := decide_eq_true c2
    have c2b1 : decide (1000 < a0.size) = true := decide_eq_true (by omega)
    clear c2
    replace H := Option.bind_eq_some_iff.mp H
    obtain ⟨t205, A30, H⟩ := H
    replace H : (some t205) = some r := H
    have A3 := Aside0.mk A30
    clear A30
    obtain rfl := Option.some.inj H
    go_enter Try.func7, Try.ntmps7
    go_wp2_with (first | ((with_reducible refine gate_callee (f := 8) rfl ?_); refine goesL_ (some 9) rfl rfl Try.func8 (by kernel_rfl) rfl #[] rfl (by (try simp only [List.map_toArray, List.map_cons, List.map_nil]); first | done | rfl | (simp only [List.length_drop, List.length_take]; rfl)) ?_; (with_reducible refine (fleuronlaw1_awake.calls k  t205 _ A3.out ht_.out).mono ?_); rintro e w4 ⟨rfl, hb⟩; refine ⟨_, rfl, ?_⟩; have n0_ := Aside0.mk (below_step (by repeat (first | (with_reducible first | exact HB.out | apply below_alloc | apply pw_below_drewN | apply below_drew1) | exact HB.out)) hb); clear HB; have HB := n0_; clear n0_; (try clear hb); (try clear hb2); (try clear hk); (try clear hi)))
    go_ret
    exact ⟨by first | rfl | (simp [errW_none, errW_some] <;> rfl) | (simp [*, errW_none, errW_some] <;> rfl), by repeat (first | (with_reducible first | exact HB.out | apply below_alloc | apply pw_below_drewN | apply below_drew1) | exact HB.out)⟩
  · rw [if_neg c2] at H
    have c2b0 : decide (1000 < (a0.size : Int)) = false := decide_eq_false c2
    have c2b1 : decide (1000 < a0.size) = false := decide_eq_false (by omega)
    clear c2
    replace H := Option.bind_eq_some_iff.mp H
    obtain ⟨t206, A50, H⟩ := H
    replace H : (if (t206.size : Int) = (a0.size : Int) then ((points_Lower.f t206).bind fun t207 => (fleuronlaw1_PointsLower.j0 k a0 t206 (t207.toList != t206.toList))) else (fleuronlaw1_PointsLower.j0 k a0 t206 true)) = some r := H
    have A5 := Aside0.mk A50
    clear A50
    have HC6 := Aside0.mk H
    clear H
    go_enter Try.func7, Try.ntmps7
    go_upto_region 4 with (first | ((with_reducible refine gate_callee (f := 24) rfl ?_); refine goesL_ (some 11) rfl rfl Try.func24 (by kernel_rfl) rfl #[.string a0] rfl (by (try simp only [List.map_toArray, List.map_cons, List.map_nil]); first | done | rfl | (simp only [List.length_drop, List.length_take]; rfl)) ?_; (with_reducible refine (points_Lower.calls a0 t206 _ A5.out).mono ?_); rintro e w7 ⟨rfl, hb⟩; refine ⟨_, rfl, ?_⟩; have n0_ := Aside0.mk (below_step (by repeat (first | (with_reducible first | exact HB.out | apply below_alloc | apply pw_below_drewN | apply below_drew1) | exact HB.out)) hb); clear HB; have HB := n0_; clear n0_; (try clear hb); (try clear hb2); (try clear hk); (try clear hi)))
    (try simp only [Act.put, List.setIfInBounds_toArray, List.set_cons_zero, List.set_cons_succ])
    go_cut [22] (fun v22 wc => ∃ (kq : Nat) (x22_5 : Bool), v22 = .bool x22_5 ∧ Aside0 (fleuronlaw1_PointsLower.j0 kq a0 t206 x22_5 = some r) ∧ Aside0 (kq ≤ k) ∧ Aside0 (Below w.heap.size w wc))
    case first =>
      have H := HC6.out
      clear HC6
      by_cases c8 : (t206.size : Int) = (a0.size : Int)
      · rw [if_pos c8] at H
        have c8b0 : ((t206.size : Int) == (a0.size : Int)) = true := beq_iff_eq.mpr c8
        have c8b1 : ((t206.size : Int) != (a0.size : Int)) = false := bne_eq_false_iff_eq.mpr c8
        have c8b2 : (t206.size == a0.size) = true := by first | simpa using c8 | (simp at c8 ⊢; omega)
        clear c8
        (first | rw [c8b0] | (simp only [i64_w, i32_w]; rw [c8b0]) | skip)
        replace H := Option.bind_eq_some_iff.mp H
        obtain ⟨t207, A90, H⟩ := H
        replace H : (fleuronlaw1_PointsLower.j0 k a0 t206 (t207.toList != t206.toList)) = some r := H
        have A9 := Aside0.mk A90
        clear A90
        have H' := Aside0.mk H
        clear H
        go_wp2_with (first | (go_at_call 24; (with_reducible refine (points_Lower.calls t206 t207 _ A9.out).mono ?_); rintro e w10 ⟨rfl, hb⟩; have n0_ := Aside0.mk (below_step (by repeat (first | (with_reducible first | exact HB.out | apply below_alloc | apply pw_below_drewN | apply below_drew1) | exact HB.out)) hb); clear HB; have HB := n0_; clear n0_; (try clear hb); (try clear hb2); (try clear hk); (try clear hi)))
        go_meet
        case rel => exact ⟨_, ((t207.toList != t206.toList)), (by first | rfl | (simp; done) | (simp [*]; done)), H', ⟨by first | omega | exact Nat.le_refl _⟩, ⟨by repeat (first | (with_reducible first | exact HB.out | apply below_alloc | apply pw_below_drewN | apply below_drew1) | exact HB.out)⟩⟩
      · rw [if_neg c8] at H
        have c8b0 : ((t206.size : Int) == (a0.size : Int)) = false := beq_eq_false_iff_ne.mpr c8
        have c8b1 : ((t206.size : Int) != (a0.size : Int)) = true := bne_iff_ne.mpr c8
        have c8b2 : (t206.size == a0.size) = false := by first | simpa using c8 | (simp at c8 ⊢; omega)
        (first | rw [c8b0] | (simp only [i64_w, i32_w]; rw [c8b0]) | skip)
        have H' := Aside0.mk H
        clear H
        go_wp2
        go_meet
        case rel => exact ⟨_, (true), (by first | rfl | (simp; done) | (simp [*]; done)), H', ⟨by first | omega | exact Nat.le_refl _⟩, ⟨by repeat (first | (with_reducible first | exact HB.out | apply below_alloc | apply pw_below_drewN | apply below_drew1) | exact HB.out)⟩⟩
    case rest =>
      clear HC6
      try clear c2
      try clear c2b0
      try clear c2b1
      try clear p2
      try clear c7
      try clear c8
      try clear c8b0
      try clear c8b1
      try clear c8b2
      obtain ⟨kq, x22_5, rfl, HA, HJ5, HB⟩ := hcut
      cases kq with
      | zero => exact absurd HA.out (by simp [fleuronlaw1_PointsLower.j0])
      | succ kj5 =>
        have H := HA.out
        clear HA
        simp only [fleuronlaw1_PointsLower.j0] at H
        by_cases c11 : x22_5 = true
        · subst c11
          have H1 : (some false) = some r := by rw [if_pos rfl] at H; exact H
          clear H
          have H := H1
          clear H1
          exact absurd ((Option.some.inj H).trans ht_.out) (by decide)
        · replace c11 := Bool.eq_false_iff.mpr c11
          subst c11
          have H1 : (fleuronlaw1_PointsLower.l0 kj5 a0 t206 0) = some r := by rw [if_neg (show ¬ (false = true) by decide)] at H; exact H
          clear H
          have H := H1
          clear H1
          have H' := Aside0.mk H
          clear H
          go_wp2
          go_loopg [4] kj5 (fun kq v4 w' => ∃ (x4_2 : Int), v4 = .int .i64 x4_2 ∧ Aside0 (fleuronlaw1_PointsLower.l0 kq a0 t206 x4_2 = some r) ∧ Aside0 (kq ≤ kj5) ∧ Aside0 (Below w.heap.size w w'))
          case atStart => exact ⟨(0), (by first | rfl | (simp; done) | (simp [*]; done)), H', ⟨Nat.le_refl _⟩, ⟨by repeat (first | (with_reducible first | exact HB.out | apply below_alloc | apply pw_below_drewN | apply below_drew1) | exact HB.out)⟩⟩
          case round =>
            clear H'
            try clear c1
            try clear c2
            try clear c2b0
            try clear c2b1
            try clear p2
            try clear c7
            try clear c8
            try clear c8b0
            try clear c8b1
            try clear c8b2
            try clear c11
            try clear p2
            obtain ⟨x4_2, rfl, HA, HK2, HB⟩ := hrel
            cases gk with
            | zero => exact absurd HA.out (by simp [fleuronlaw1_PointsLower.l0])
            | succ k2 =>
              have H := HA.out
              clear HA
              simp only [fleuronlaw1_PointsLower.l0] at H
              by_cases c12 : x4_2 < (a0.size : Int)
              · rw [if_pos c12] at H
                have c12b0 : decide (x4_2 < (a0.size : Int)) = true := decide_eq_true c12
                clear c12
                by_cases c13 : 0 ≤ x4_2
                · rw [if_pos c13] at H
                  have c13b0 : decide (0 ≤ x4_2) = true := decide_eq_true c13
                  clear c13
                  have HC15 := Aside0.mk H
                  clear H
                  have p14 : 0 ≤ (x4_2 : Int) := of_decide_eq_true (by first | (with_reducible assumption) | assumption)
                  have q14 : x4_2 < (a0.size : Int) := of_decide_eq_true (by first | (with_reducible assumption) | assumption)
                  have hx14 := bt_at a0 x4_2
                  replace p14 := eq_true p14
                  replace q14 := eq_true q14
                  go_upto_region 10 with (fail)
                  go_cut [37] (fun v37 wc => ∃ (kq : Nat) (x37_14 : Bool), v37 = .bool x37_14 ∧ Aside0 (fleuronlaw1_PointsLower.j2 kq a0 t206 x4_2 (bt a0 x4_2) x37_14 = some r) ∧ Aside0 (kq ≤ k2) ∧ Aside0 (Below w.heap.size w wc))
                  case first =>
                    have H := HC15.out
                    clear HC15
                    by_cases c16 : (bt a0 x4_2) ≥ 65
                    · rw [if_pos c16] at H
                      have c16b0 : decide (65 ≤ (bt a0 x4_2)) = true := decide_eq_true c16
                      clear c16
                      (first | rw [c16b0] | (simp only [i64_w, i32_w]; rw [c16b0]) | skip)
                      have H' := Aside0.mk H
                      clear H
                      go_wp2
                      go_meet
                      case rel => exact ⟨_, (decide ((bt a0 x4_2) ≤ 90)), (by first | rfl | (simp; done) | (simp [*]; done)), H', ⟨by have := HJ5.out; have := HK2.out; first | omega | exact Nat.le_refl _⟩, ⟨by repeat (first | (with_reducible first | exact HB.out | apply below_alloc | apply pw_below_drewN | apply below_drew1) | exact HB.out)⟩⟩
                    · rw [if_neg c16] at H
                      have c16b0 : decide (65 ≤ (bt a0 x4_2)) = false := decide_eq_false c16
                      clear c16
                      (first | rw [c16b0] | (simp only [i64_w, i32_w]; rw [c16b0]) | skip)
                      have H' := Aside0.mk H
                      clear H
                      go_wp2
                      go_meet
                      case rel => exact ⟨_, (false), (by first | rfl | (simp; done) | (simp [*]; done)), H', ⟨by have := HJ5.out; have := HK2.out; first | omega | exact Nat.le_refl _⟩, ⟨by repeat (first | (with_reducible first | exact HB.out | apply below_alloc | apply pw_below_drewN | apply below_drew1) | exact HB.out)⟩⟩
                  case rest =>
                    clear HC15
                    try clear c1
                    try clear p1
                    try clear q1
                    try clear hx1
                    try clear c2
                    try clear c2b0
                    try clear c2b1
                    try clear p2
                    try clear c7
                    try clear c8
                    try clear c8b0
                    try clear c8b1
                    try clear c8b2
                    try clear c11
                    try clear c12
                    try clear c12b0
                    try clear c13
                    try clear c13b0
                    try clear p14
                    try clear q14
                    try clear hx14
                    try clear c16
                    try clear c16b0
                    try clear p14
                    try clear p2
                    try clear q14
                    obtain ⟨kq, x37_14, rfl, HA, HJ14, HB⟩ := hcut
                    cases kq with
                    | zero => exact absurd HA.out (by simp [fleuronlaw1_PointsLower.j2])
                    | succ kj14 =>
                      have H := HA.out
                      clear HA
                      simp only [fleuronlaw1_PointsLower.j2] at H
                      by_cases c17 : x37_14 = true
                      · subst c17
                        have H1 : (if 0 ≤ x4_2 then (if x4_2 < (t206.size : Int) then (if (bt t206 x4_2) = (((bt a0 x4_2) + 32) % 256) then (fleuronlaw1_PointsLower.l0 kj14 a0 t206 (wrap64 (x4_2 + 1))) else (some false)) else (none)) else (none)) = some r := by rw [if_pos rfl] at H; exact H
                        clear H
                        have H := H1
                        clear H1
                        by_cases c18 : 0 ≤ x4_2
                        · rw [if_pos c18] at H
                          have c18b0 : decide (0 ≤ x4_2) = true := decide_eq_true c18
                          clear c18
                          by_cases c19 : x4_2 < (t206.size : Int)
                          · rw [if_pos c19] at H
                            have c19b0 : decide (x4_2 < (t206.size : Int)) = true := decide_eq_true c19
                            clear c19
                            by_cases c21 : (bt t206 x4_2) = (((bt a0 x4_2) + 32) % 256)
                            · rw [if_pos c21] at H
                              have c21b0 : ((bt t206 x4_2) == (((bt a0 x4_2) + 32) % 256)) = true := beq_iff_eq.mpr c21
                              have c21b1 : ((bt t206 x4_2) != (((bt a0 x4_2) + 32) % 256)) = false := bne_eq_false_iff_eq.mpr c21
                              clear c21
                              have H' := Aside0.mk H
                              clear H
                              have p20 : 0 ≤ (x4_2 : Int) := of_decide_eq_true (by first | (with_reducible assumption) | assumption)
                              have q20 : x4_2 < (t206.size : Int) := of_decide_eq_true (by first | (with_reducible assumption) | assumption)
                              have hx20 := bt_at t206 x4_2
                              replace p20 := eq_true p20
                              replace q20 := eq_true q20
                              go_wp2
                              go_roundg kj14
                              case measure => have := HJ5.out; have := HK2.out; have := HJ14.out; omega
                              case rel => exact ⟨(wrap64 (x4_2 + 1)), (by first | rfl | (simp; done) | (simp [*]; done)), H', ⟨by have := HJ5.out; have := HK2.out; have := HJ14.out; omega⟩, ⟨by repeat (first | (with_reducible first | exact HB.out | apply below_alloc | apply pw_below_drewN | apply below_drew1) | exact HB.out)⟩⟩
                            · rw [if_neg c21] at H
                              have c21b0 : ((bt t206 x4_2) == (((bt a0 x4_2) + 32) % 256)) = false := beq_eq_false_iff_ne.mpr c21
                              have c21b1 : ((bt t206 x4_2) != (((bt a0 x4_2) + 32) % 256)) = true := bne_iff_ne.mpr c21
                              exact absurd ((Option.some.inj H).trans ht_.out) (by decide)
                          · rw [if_neg c19] at H
                            exact absurd H (by simp)
                        · rw [if_neg c18] at H
                          exact absurd H (by simp)
                      · replace c17 := Bool.eq_false_iff.mpr c17
                        subst c17
                        have H1 : (if 0 ≤ x4_2 then (if x4_2 < (t206.size : Int) then (if (bt t206 x4_2) = (bt a0 x4_2) then (fleuronlaw1_PointsLower.l0 kj14 a0 t206 (wrap64 (x4_2 + 1))) else (some false)) else (none)) else (none)) = some r := by rw [if_neg (show ¬ (false = true) by decide)] at H; exact H
                        clear H
                        have H := H1
                        clear H1
                        by_cases c22 : 0 ≤ x4_2
                        · rw [if_pos c22] at H
                          have c22b0 : decide (0 ≤ x4_2) = true := decide_eq_true c22
                          clear c22
                          by_cases c23 : x4_2 < (t206.size : Int)
                          · rw [if_pos c23] at H
                            have c23b0 : decide (x4_2 < (t206.size : Int)) = true := decide_eq_true c23
                            clear c23
                            by_cases c25 : (bt t206 x4_2) = (bt a0 x4_2)
                            · rw [if_pos c25] at H
                              have c25b0 : ((bt t206 x4_2) == (bt a0 x4_2)) = true := beq_iff_eq.mpr c25
                              have c25b1 : ((bt t206 x4_2) != (bt a0 x4_2)) = false := bne_eq_false_iff_eq.mpr c25
                              clear c25
                              have H' := Aside0.mk H
                              clear H
                              have p24 : 0 ≤ (x4_2 : Int) := of_decide_eq_true (by first | (with_reducible assumption) | assumption)
                              have q24 : x4_2 < (t206.size : Int) := of_decide_eq_true (by first | (with_reducible assumption) | assumption)
                              have hx24 := bt_at t206 x4_2
                              replace p24 := eq_true p24
                              replace q24 := eq_true q24
                              go_wp2
                              go_roundg kj14
                              case measure => have := HJ5.out; have := HK2.out; have := HJ14.out; omega
                              case rel => exact ⟨(wrap64 (x4_2 + 1)), (by first | rfl | (simp; done) | (simp [*]; done)), H', ⟨by have := HJ5.out; have := HK2.out; have := HJ14.out; omega⟩, ⟨by repeat (first | (with_reducible first | exact HB.out | apply below_alloc | apply pw_below_drewN | apply below_drew1) | exact HB.out)⟩⟩
                            · rw [if_neg c25] at H
                              have c25b0 : ((bt t206 x4_2) == (bt a0 x4_2)) = false := beq_eq_false_iff_ne.mpr c25
                              have c25b1 : ((bt t206 x4_2) != (bt a0 x4_2)) = true := bne_iff_ne.mpr c25
                              exact absurd ((Option.some.inj H).trans ht_.out) (by decide)
                          · rw [if_neg c23] at H
                            exact absurd H (by simp)
                        · rw [if_neg c22] at H
                          exact absurd H (by simp)
                · rw [if_neg c13] at H
                  exact absurd H (by simp)
              · rw [if_neg c12] at H
                have c12b0 : decide (x4_2 < (a0.size : Int)) = false := decide_eq_false c12
                clear c12
                replace H := Option.bind_eq_some_iff.mp H
                obtain ⟨t208, A260, H⟩ := H
                replace H : (some t208) = some r := H
                have A26 := Aside0.mk A260
                clear A260
                obtain rfl := Option.some.inj H
                go_wp2_with (first | ((with_reducible refine gate_callee (f := 8) rfl ?_); refine goesL_ (some 45) rfl rfl Try.func8 (by kernel_rfl) rfl #[] rfl (by (try simp only [List.map_toArray, List.map_cons, List.map_nil]); first | done | rfl | (simp only [List.length_drop, List.length_take]; rfl)) ?_; (with_reducible refine (fleuronlaw1_awake.calls k2  t208 _ A26.out ht_.out).mono ?_); rintro e w27 ⟨rfl, hb⟩; refine ⟨_, rfl, ?_⟩; have n0_ := Aside0.mk (below_step (by repeat (first | (with_reducible first | exact HB.out | apply below_alloc | apply pw_below_drewN | apply below_drew1) | exact HB.out)) hb); clear HB; have HB := n0_; clear n0_; (try clear hb); (try clear hb2); (try clear hk); (try clear hi)))
                go_ret
                exact ⟨by first | rfl | (simp [errW_none, errW_some] <;> rfl) | (simp [*, errW_none, errW_some] <;> rfl), by repeat (first | (with_reducible first | exact HB.out | apply below_alloc | apply pw_below_drewN | apply below_drew1) | exact HB.out)⟩

/-- THE ONE PURE STATEMENT of fleuronlaw1_PointsLower: yours. -/
def fleuronlaw1_PointsLower.Pure : Prop := ∀ (a0 : ByteArray), a0.size ≤ 140737488351232 → ∃ k, fleuronlaw1_PointsLower.f k a0 = some true
theorem fleuronlaw1_PointsLower.walk (P : fleuronlaw1_PointsLower.Pure) (a0 : ByteArray) (w : World) (w0 : a0.size ≤ 140737488351232) :
    Calls Try.prog 7 #[.string a0] w fun e w' => e = .returned (.bool true) ∧ Below w.heap.size w w' := by
  obtain ⟨k, h⟩ := P a0 w0
  refine (fleuronlaw1_PointsLower.calls k a0 true w h rfl).mono ?_
  rintro e w' ⟨rfl, hd⟩
  exact ⟨rfl, hd⟩

end Go.Proofs.Ytohnoohnppeooaa.Print
