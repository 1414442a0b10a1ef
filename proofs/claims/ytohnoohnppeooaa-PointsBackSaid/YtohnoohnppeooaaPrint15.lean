/- Written by a program of this session out of the translation, with contracts given by hand beside. -/
import Derived.Test.YtohnoohnppeooaaPrint0
import Derived.Test.YtohnoohnppeooaaPrint1
import Derived.Test.YtohnoohnppeooaaPrint2
import Derived.Test.YtohnoohnppeooaaPrint3
import Derived.Test.YtohnoohnppeooaaPrint5
import Derived.Test.YtohnoohnppeooaaPrint7
import Derived.Test.YtohnoohnppeooaaPrint8
namespace Go.Proofs.Ytohnoohnppeooaa.Print
open Go.RowKit Go.Proofs.YtohnoohnppeooaaW.PrintWords Go.Proofs.YtohnoohnppeooaaW.PrintLast Go.Proofs.YtohnoohnppeooaaW.PrintMore
attribute [local go_sem] max2_int min2_int max_two min_two max_three min_three max_four min_four   -- for this text's walks alone
set_option linter.unusedVariables false
set_option linter.unusedSimpArgs false

/-! ### fleuronlaw1_PointsLower: function 7 -/
mutual
def fleuronlaw1_PointsLower.j0 : Nat → ByteArray → ByteArray → Bool → Option (Bool)
  | 0, _, _, _ => none
  | k + 1, x0, x3, x22 => if x22 = true then (some false) else (fleuronlaw1_PointsLower.l0 k x0 x3 0)
def fleuronlaw1_PointsLower.l0 : Nat → ByteArray → ByteArray → Int → Option (Bool)
  | 0, _, _, _ => none
  | k + 1, x0, x3, x4 => if x4 < (x0.size : Int) then (if 0 ≤ x4 then (if (bt x0 x4) ≥ 65 then (fleuronlaw1_PointsLower.j2 k x0 x3 x4 (bt x0 x4) (decide ((bt x0 x4) ≤ 90))) else (fleuronlaw1_PointsLower.j2 k x0 x3 x4 (bt x0 x4) false)) else (none)) else ((fleuronlaw1_awake.f k).bind fun t208 => (some t208))
def fleuronlaw1_PointsLower.j2 : Nat → ByteArray → ByteArray → Int → Int → Bool → Option (Bool)
  | 0, _, _, _, _, _ => none
  | k + 1, x0, x3, x4, x5, x37 => if x37 = true then (if 0 ≤ x4 then (if x4 < (x3.size : Int) then (if (bt x3 x4) = ((x5 + 32) % 256) then (fleuronlaw1_PointsLower.l0 k x0 x3 (wrap64 (x4 + 1))) else (some false)) else (none)) else (none)) else (if 0 ≤ x4 then (if x4 < (x3.size : Int) then (if (bt x3 x4) = x5 then (fleuronlaw1_PointsLower.l0 k x0 x3 (wrap64 (x4 + 1))) else (some false)) else (none)) else (none))
end
def fleuronlaw1_PointsLower.f (k : Nat) (a0 : ByteArray) : Option (Bool) := if (a0.size : Int) > 1000 then ((fleuronlaw1_awake.f k).bind fun t205 => (some t205)) else ((points_Lower.f a0).bind fun t206 => (if (t206.size : Int) = (a0.size : Int) then ((points_Lower.f t206).bind fun t207 => (fleuronlaw1_PointsLower.j0 k a0 t206 (t207.toList != t206.toList))) else (fleuronlaw1_PointsLower.j0 k a0 t206 true)))
theorem fleuronlaw1_PointsLower.mono_l : ∀ k, (∀ y0 y1 y2, LeO (fleuronlaw1_PointsLower.j0 k y0 y1 y2) (fleuronlaw1_PointsLower.j0 (k + 1) y0 y1 y2)) ∧ (∀ y0 y1 y2, LeO (fleuronlaw1_PointsLower.l0 k y0 y1 y2) (fleuronlaw1_PointsLower.l0 (k + 1) y0 y1 y2)) ∧ (∀ y0 y1 y2 y3 y4, LeO (fleuronlaw1_PointsLower.j2 k y0 y1 y2 y3 y4) (fleuronlaw1_PointsLower.j2 (k + 1) y0 y1 y2 y3 y4))
  | 0 => ⟨fun _ _ _ r h => by simp [fleuronlaw1_PointsLower.j0] at h, fun _ _ _ r h => by simp [fleuronlaw1_PointsLower.l0] at h, fun _ _ _ _ _ r h => by simp [fleuronlaw1_PointsLower.j2] at h⟩
  | k + 1 => by
    obtain ⟨ih0, ih1, ih2⟩ := fleuronlaw1_PointsLower.mono_l k
    refine ⟨?_, ?_, ?_⟩
    · intro y0 y1 y2
      unfold fleuronlaw1_PointsLower.j0
      repeat' first
      | (with_reducible exact ih0 _ _ _)
      | (with_reducible exact ih1 _ _ _)
      | (with_reducible exact ih2 _ _ _ _ _)
      | (with_reducible exact fleuronlaw1_awake.mono _)
      | (with_reducible exact LeO.refl _)
      | (with_reducible exact LeO.none _)
      | (with_reducible refine LeO.ite ?_ ?_)
      | (with_reducible refine LeO.bind ?_ (fun _ => ?_))
      | exact ih0 _ _ _
      | exact ih1 _ _ _
      | exact ih2 _ _ _ _ _
      | exact fleuronlaw1_awake.mono _
      | exact LeO.none _
      | refine LeO.ite ?_ ?_
      | refine LeO.bind ?_ (fun _ => ?_)
    · intro y0 y1 y2
      unfold fleuronlaw1_PointsLower.l0
      repeat' first
      | (with_reducible exact ih0 _ _ _)
      | (with_reducible exact ih1 _ _ _)
      | (with_reducible exact ih2 _ _ _ _ _)
      | (with_reducible exact fleuronlaw1_awake.mono _)
      | (with_reducible exact LeO.refl _)
      | (with_reducible exact LeO.none _)
      | (with_reducible refine LeO.ite ?_ ?_)
      | (with_reducible refine LeO.bind ?_ (fun _ => ?_))
      | exact ih0 _ _ _
      | exact ih1 _ _ _
      | exact ih2 _ _ _ _ _
      | exact fleuronlaw1_awake.mono _
      | exact LeO.none _
      | refine LeO.ite ?_ ?_
      | refine LeO.bind ?_ (fun _ => ?_)
    · intro y0 y1 y2 y3 y4
      unfold fleuronlaw1_PointsLower.j2
      repeat' first
      | (with_reducible exact ih0 _ _ _)
      | (with_reducible exact ih1 _ _ _)
      | (with_reducible exact ih2 _ _ _ _ _)
      | (with_reducible exact fleuronlaw1_awake.mono _)
      | (with_reducible exact LeO.refl _)
      | (with_reducible exact LeO.none _)
      | (with_reducible refine LeO.ite ?_ ?_)
      | (with_reducible refine LeO.bind ?_ (fun _ => ?_))
      | exact ih0 _ _ _
      | exact ih1 _ _ _
      | exact ih2 _ _ _ _ _
      | exact fleuronlaw1_awake.mono _
      | exact LeO.none _
      | refine LeO.ite ?_ ?_
      | refine LeO.bind ?_ (fun _ => ?_)
theorem fleuronlaw1_PointsLower.mono : ∀ a0 k, LeO (fleuronlaw1_PointsLower.f k a0) (fleuronlaw1_PointsLower.f (k + 1) a0) := by
  intro a0 k
  obtain ⟨ih0, ih1, ih2⟩ := fleuronlaw1_PointsLower.mono_l k
  unfold fleuronlaw1_PointsLower.f
  repeat' first
      | (with_reducible exact ih0 _ _ _)
      | (with_reducible exact ih1 _ _ _)
      | (with_reducible exact ih2 _ _ _ _ _)
      | (with_reducible exact fleuronlaw1_awake.mono _)
      | (with_reducible exact LeO.refl _)
      | (with_reducible exact LeO.none _)
      | (with_reducible refine LeO.ite ?_ ?_)
      | (with_reducible refine LeO.bind ?_ (fun _ => ?_))
      | exact ih0 _ _ _
      | exact ih1 _ _ _
      | exact ih2 _ _ _ _ _
      | exact fleuronlaw1_awake.mono _
      | exact LeO.none _
      | refine LeO.ite ?_ ?_
      | refine LeO.bind ?_ (fun _ => ?_)
set_option maxHeartbeats 8000000 in
set_option maxRecDepth 100000 in
theorem fleuronlaw1_PointsLower.calls (k : Nat) (a0 : ByteArray) (r : Bool) (w : World) (h : fleuronlaw1_PointsLower.f k a0 = some r) (ht0_ : r = true) :
    Calls Try.prog 7 #[.string a0] w fun e w' => e = .returned (.bool r) ∧ Below w.heap.size w w' := by
  have HB := Aside0.mk (Below.refl w.heap.size w)
  have H : (if (a0.size : Int) > 1000 then ((fleuronlaw1_awake.f k).bind fun t205 => (some t205)) else ((points_Lower.f a0).bind fun t206 => (if (t206.size : Int) = (a0.size : Int) then ((points_Lower.f t206).bind fun t207 => (fleuronlaw1_PointsLower.j0 k a0 t206 (t207.toList != t206.toList))) else (fleuronlaw1_PointsLower.j0 k a0 t206 true)))) = some r := h
  clear h
  have ht_ := Aside0.mk ht0_
  clear ht0_
  by_cases c2 : (a0.size : Int) > 1000
  · rw [if_pos c2] at H
    have c2b0 : decide (1000 < (a0.size : Int)) = true := decide_eq_true c2
    have c2b1 : decide (1000 < a0.size) = true := decide_eq_true (by omega)
    clear c2
    replace H := Option.bind_eq_some_iff.mp H
    obtain ⟨t205, A30, H⟩ := H
    replace H : (some t205) = some r := H
    have A3 := Aside0.mk A30
    clear A30
    obtain rfl := Option.some.inj H
    go_enter Try.func7, Try.ntmps7
    go_wp2_with (first | ((with_reducible refine gate_callee (f := 8) rfl ?_); refine goesL_ (some 9) rfl rfl Try.func8 (by kernel_rfl) rfl #[] rfl (by (try simp only [List.map_toArray, List.map_cons, List.map_nil]); first | done | rfl | (simp only [List.length_drop, List.length_take]; rfl)) ?_; (with_reducible refine (fleuronlaw1_awake.calls k  t205 _ A3.out ht_.out).mono ?_); rintro e w4 ⟨rfl, hb⟩; refine ⟨_, rfl, ?_⟩; have n0_ := Aside0.mk (below_step (by repeat (first | (with_reducible first | exact HB.out | apply below_alloc | apply pw_below_drewN | apply below_drew1) | exact HB.out)) hb); clear HB; have HB := n0_; clear n0_; (try clear hb); (try clear hb2); (try clear hk); (try clear hi)))
    go_ret
    exact ⟨by first | rfl | (simp [errW_none, errW_some] <;> rfl) | (simp [*, errW_none, errW_some] <;> rfl), by repeat (first | (with_reducible first | exact HB.out | apply below_alloc | apply pw_below_drewN | apply below_drew1) | exact HB.out)⟩
  · rw [if_neg c2] at H
    have c2b0 : decide (1000 < (a0.size : Int)) = false := decide_eq_false c2
    have c2b1 : decide (1000 < a0.size) = false := decide_eq_false (by omega)
    clear c2
    replace H := Option.bind_eq_some_iff.mp H
    obtain ⟨t206, A50, H⟩ := H
    replace H : (if (t206.size : Int) = (a0.size : Int) then ((points_Lower.f t206).bind fun t207 => (fleuronlaw1_PointsLower.j0 k a0 t206 (t207.toList != t206.toList))) else (fleuronlaw1_PointsLower.j0 k a0 t206 true)) = some r := H
    have A5 := Aside0.mk A50
    clear A50
    have HC6 := Aside0.mk H
    clear H
    go_enter Try.func7, Try.ntmps7
    go_upto_region 4 with (first | ((with_reducible refine gate_callee (f := 24) rfl ?_); refine goesL_ (some 11) rfl rfl Try.func24 (by kernel_rfl) rfl #[.string a0] rfl (by (try simp only [List.map_toArray, List.map_cons, List.map_nil]); first | done | rfl | (simp only [List.length_drop, List.length_take]; rfl)) ?_; (with_reducible refine (points_Lower.calls a0 t206 _ A5.out).mono ?_); rintro e w7 ⟨rfl, hb⟩; refine ⟨_, rfl, ?_⟩; have n0_ := Aside0.mk (below_step (by repeat (first | (with_reducible first | exact HB.out | apply below_alloc | apply pw_below_drewN | apply below_drew1) | exact HB.out)) hb); clear HB; have HB := n0_; clear n0_; (try clear hb); (try clear hb2); (try clear hk); (try clear hi)))
    (try simp only [Act.put, List.setIfInBounds_toArray, List.set_cons_zero, List.set_cons_succ])
    go_cut [22] (fun v22 wc => ∃ (kq : Nat) (x22_5 : Bool), v22 = .bool x22_5 ∧ Aside0 (fleuronlaw1_PointsLower.j0 kq a0 t206 x22_5 = some r) ∧ Aside0 (kq ≤ k) ∧ Aside0 (Below w.heap.size w wc))
    case first =>
      have H := HC6.out
      clear HC6
      by_cases c8 : (t206.size : Int) = (a0.size : Int)
      · rw [if_pos c8] at H
        have c8b0 : ((t206.size : Int) == (a0.size : Int)) = true := beq_iff_eq.mpr c8
        have c8b1 : ((t206.size : Int) != (a0.size : Int)) = false := bne_eq_false_iff_eq.mpr c8
        have c8b2 : (t206.size == a0.size) = true := by first | simpa using c8 | (simp at c8 ⊢; omega)
        clear c8
        (first | rw [c8b0] | (simp only [i64_w, i32_w]; rw [c8b0]) | skip)
        replace H := Option.bind_eq_some_iff.mp H
        obtain ⟨t207, A90, H⟩ := H
        replace H : (fleuronlaw1_PointsLower.j0 k a0 t206 (t207.toList != t206.toList)) = some r := H
        have A9 := Aside0.mk A90
        clear A90
        have H' := Aside0.mk H
        clear H
        go_wp2_with (first | (go_at_call 24; (with_reducible refine (points_Lower.calls t206 t207 _ A9.out).mono ?_); rintro e w10 ⟨rfl, hb⟩; have n0_ := Aside0.mk (below_step (by repeat (first | (with_reducible first | exact HB.out | apply below_alloc | apply pw_below_drewN | apply below_drew1) | exact HB.out)) hb); clear HB; have HB := n0_; clear n0_; (try clear hb); (try clear hb2); (try clear hk); (try clear hi)))
        go_meet
        case rel => exact ⟨_, ((t207.toList != t206.toList)), (by first | rfl | (simp; done) | (simp [*]; done)), H', ⟨by first | omega | exact Nat.le_refl _⟩, ⟨by repeat (first | (with_reducible first | exact HB.out | apply below_alloc | apply pw_below_drewN | apply below_drew1) | exact HB.out)⟩⟩
      · rw [if_neg c8] at H
        have c8b0 : ((t206.size : Int) == (a0.size : Int)) = false := beq_eq_false_iff_ne.mpr c8
        have c8b1 : ((t206.size : Int) != (a0.size : Int)) = true := bne_iff_ne.mpr c8
        have c8b2 : (t206.size == a0.size) = false := by first | simpa using c8 | (simp at c8 ⊢; omega)
        (first | rw [c8b0] | (simp only [i64_w, i32_w]; rw [c8b0]) | skip)
        have H' := Aside0.mk H
        clear H
        go_wp2
        go_meet
        case rel => exact ⟨_, (true), (by first | rfl | (simp; done) | (simp [*]; done)), H', ⟨by first | omega | exact Nat.le_refl _⟩, ⟨by repeat (first | (with_reducible first | exact HB.out | apply below_alloc | apply pw_below_drewN | apply below_drew1) | exact HB.out)⟩⟩
    case rest =>
      clear HC6
      try clear c2
      try clear c2b0
      try clear c2b1
      try clear p2
      try clear c7
      try clear c8
      try clear c8b0
      try clear c8b1
      try clear c8b2
      obtain ⟨kq, x22_5, rfl, HA, HJ5, HB⟩ := hcut
      cases kq with
      | zero => exact absurd HA.out (by simp [fleuronlaw1_PointsLower.j0])
      | succ kj5 =>
        have H := HA.out
        clear HA
        simp only [fleuronlaw1_PointsLower.j0] at H
        by_cases c11 : x22_5 = true
        · subst c11
          have H1 : (some false) = some r := by rw [if_pos rfl] at H; exact H
          clear H
          have H := H1
          clear H1
          exact absurd ((Option.some.inj H).trans ht_.out) (by decide)
        · replace c11 := Bool.eq_false_iff.mpr c11
          subst c11
          have H1 : (fleuronlaw1_PointsLower.l0 kj5 a0 t206 0) = some r := by rw [if_neg (show ¬ (false = true) by decide)] at H; exact H
          clear H
          have H := H1
          clear H1
          have H' := Aside0.mk H
          clear H
          go_wp2
          go_loopg [4] kj5 (fun kq v4 w' => ∃ (x4_2 : Int), v4 = .int .i64 x4_2 ∧ Aside0 (fleuronlaw1_PointsLower.l0 kq a0 t206 x4_2 = some r) ∧ Aside0 (kq ≤ kj5) ∧ Aside0 (Below w.heap.size w w'))
          case atStart => exact ⟨(0), (by first | rfl | (simp; done) | (simp [*]; done)), H', ⟨Nat.le_refl _⟩, ⟨by repeat (first | (with_reducible first | exact HB.out | apply below_alloc | apply pw_below_drewN | apply below_drew1) | exact HB.out)⟩⟩
          case round =>
            clear H'
            try clear c1
            try clear c2
            try clear c2b0
            try clear c2b1
            try clear p2
            try clear c7
            try clear c8
            try clear c8b0
            try clear c8b1
            try clear c8b2
            try clear c11
            try clear p2
            obtain ⟨x4_2, rfl, HA, HK2, HB⟩ := hrel
            cases gk with
            | zero => exact absurd HA.out (by simp [fleuronlaw1_PointsLower.l0])
            | succ k2 =>
              have H := HA.out
              clear HA
              simp only [fleuronlaw1_PointsLower.l0] at H
              by_cases c12 : x4_2 < (a0.size : Int)
              · rw [if_pos c12] at H
                have c12b0 : decide (x4_2 < (a0.size : Int)) = true := decide_eq_true c12
                clear c12
                by_cases c13 : 0 ≤ x4_2
                · rw [if_pos c13] at H
                  have c13b0 : decide (0 ≤ x4_2) = true := decide_eq_true c13
                  clear c13
                  have HC15 := Aside0.mk H
                  clear H
                  have p14 : 0 ≤ (x4_2 : Int) := of_decide_eq_true (by first | (with_reducible assumption) | assumption)
                  have q14 : x4_2 < (a0.size : Int) := of_decide_eq_true (by first | (with_reducible assumption) | assumption)
                  have hx14 := bt_at a0 x4_2
                  replace p14 := eq_true p14
                  replace q14 := eq_true q14
                  go_upto_region 10 with (fail)
                  go_cut [37] (fun v37 wc => ∃ (kq : Nat) (x37_14 : Bool), v37 = .bool x37_14 ∧ Aside0 (fleuronlaw1_PointsLower.j2 kq a0 t206 x4_2 (bt a0 x4_2) x37_14 = some r) ∧ Aside0 (kq ≤ k2) ∧ Aside0 (Below w.heap.size w wc))
                  case first =>
                    have H := HC15.out
                    clear HC15
                    by_cases c16 : (bt a0 x4_2) ≥ 65
                    · rw [if_pos c16] at H
                      have c16b0 : decide (65 ≤ (bt a0 x4_2)) = true := decide_eq_true c16
                      clear c16
                      (first | rw [c16b0] | (simp only [i64_w, i32_w]; rw [c16b0]) | skip)
                      have H' := Aside0.mk H
                      clear H
                      go_wp2
                      go_meet
                      case rel => exact ⟨_, (decide ((bt a0 x4_2) ≤ 90)), (by first | rfl | (simp; done) | (simp [*]; done)), H', ⟨by have := HJ5.out; have := HK2.out; first | omega | exact Nat.le_refl _⟩, ⟨by repeat (first | (with_reducible first | exact HB.out | apply below_alloc | apply pw_below_drewN | apply below_drew1) | exact HB.out)⟩⟩
                    · rw [if_neg c16] at H
                      have c16b0 : decide (65 ≤ (bt a0 x4_2)) = false := decide_eq_false c16
                      clear c16
                      (first | rw [c16b0] | (simp only [i64_w, i32_w]; rw [c16b0]) | skip)
                      have H' := Aside0.mk H
                      clear H
                      go_wp2
                      go_meet
                      case rel => exact ⟨_, (false), (by first | rfl | (simp; done) | (simp [*]; done)), H', ⟨by have := HJ5.out; have := HK2.out; first | omega | exact Nat.le_refl _⟩, ⟨by repeat (first | (with_reducible first | exact HB.out | apply below_alloc | apply pw_below_drewN | apply below_drew1) | exact HB.out)⟩⟩
                  case rest =>
                    clear HC15
                    try clear c1
                    try clear p1
                    try clear q1
                    try clear hx1
                    try clear c2
                    try clear c2b0
                    try clear c2b1
                    try clear p2
                    try clear c7
                    try clear c8
                    try clear c8b0
                    try clear c8b1
                    try clear c8b2
                    try clear c11
                    try clear c12
                    try clear c12b0
                    try clear c13
                    try clear c13b0
                    try clear p14
                    try clear q14
                    try clear hx14
                    try clear c16
                    try clear c16b0
                    try clear p14
                    try clear p2
                    try clear q14
                    obtain ⟨kq, x37_14, rfl, HA, HJ14, HB⟩ := hcut
                    cases kq with
                    | zero => exact absurd HA.out (by simp [fleuronlaw1_PointsLower.j2])
                    | succ kj14 =>
                      have H := HA.out
                      clear HA
                      simp only [fleuronlaw1_PointsLower.j2] at H
                      by_cases c17 : x37_14 = true
                      · subst c17
                        have H1 : (if 0 ≤ x4_2 then (if x4_2 < (t206.size : Int) then (if (bt t206 x4_2) = (((bt a0 x4_2) + 32) % 256) then (fleuronlaw1_PointsLower.l0 kj14 a0 t206 (wrap64 (x4_2 + 1))) else (some false)) else (none)) else (none)) = some r := by rw [if_pos rfl] at H; exact H
                        clear H
                        have H := H1
                        clear H1
                        by_cases c18 : 0 ≤ x4_2
                        · rw [if_pos c18] at H
                          have c18b0 : decide (0 ≤ x4_2) = true := decide_eq_true c18
                          clear c18
                          by_cases c19 : x4_2 < (t206.size : Int)
                          · rw [if_pos c19] at H
                            have c19b0 : decide (x4_2 < (t206.size : Int)) = true := decide_eq_true c19
                            clear c19
                            by_cases c21 : (bt t206 x4_2) = (((bt a0 x4_2) + 32) % 256)
                            · rw [if_pos c21] at H
                              have c21b0 : ((bt t206 x4_2) == (((bt a0 x4_2) + 32) % 256)) = true := beq_iff_eq.mpr c21
                              have c21b1 : ((bt t206 x4_2) != (((bt a0 x4_2) + 32) % 256)) = false := bne_eq_false_iff_eq.mpr c21
                              clear c21
                              have H' := Aside0.mk H
                              clear H
                              have p20 : 0 ≤ (x4_2 : Int) := of_decide_eq_true (by first | (with_reducible assumption) | assumption)
                              have q20 : x4_2 < (t206.size : Int) := of_decide_eq_true (by first | (with_reducible assumption) | assumption)
                              have hx20 := bt_at t206 x4_2
                              replace p20 := eq_true p20
                              replace q20 := eq_true q20
                              go_wp2
                              go_roundg kj14
                              case measure => have := HJ5.out; have := HK2.out; have := HJ14.out; omega
                              case rel => exact ⟨(wrap64 (x4_2 + 1)), (by first | rfl | (simp; done) | (simp [*]; done)), H', ⟨by have := HJ5.out; have := HK2.out; have := HJ14.out; omega⟩, ⟨by repeat (first | (with_reducible first | exact HB.out | apply below_alloc | apply pw_below_drewN | apply below_drew1) | exact HB.out)⟩⟩
                            · rw [if_neg c21] at H
                              have c21b0 : ((bt t206 x4_2) == (((bt a0 x4_2) + 32) % 256)) = false := beq_eq_false_iff_ne.mpr c21
                              have c21b1 : ((bt t206 x4_2) != (((bt a0 x4_2) + 32) % 256)) = true := bne_iff_ne.mpr c21
                              exact absurd ((Option.some.inj H).trans ht_.out) (by decide)
                          · rw [if_neg c19] at H
                            exact absurd H (by simp)
                        · rw [if_neg c18] at H
                          exact absurd H (by simp)
                      · replace c17 := Bool.eq_false_iff.mpr c17
                        subst c17
                        have H1 : (if 0 ≤ x4_2 then (if x4_2 < (t206.size : Int) then (if (bt t206 x4_2) = (bt a0 x4_2) then (fleuronlaw1_PointsLower.l0 kj14 a0 t206 (wrap64 (x4_2 + 1))) else (some false)) else (none)) else (none)) = some r := by rw [if_neg (show ¬ (false = true) by decide)] at H; exact H
                        clear H
                        have H := H1
                        clear H1
                        by_cases c22 : 0 ≤ x4_2
                        · rw [if_pos c22] at H
                          have c22b0 : decide (0 ≤ x4_2) = true := decide_eq_true c22
                          clear c22
                          by_cases c23 : x4_2 < (t206.size : Int)
                          · rw [if_pos c23] at H
                            have c23b0 : decide (x4_2 < (t206.size : Int)) = true := decide_eq_true c23
                            clear c23
                            by_cases c25 : (bt t206 x4_2) = (bt a0 x4_2)
                            · rw [if_pos c25] at H
                              have c25b0 : ((bt t206 x4_2) == (bt a0 x4_2)) = true := beq_iff_eq.mpr c25
                              have c25b1 : ((bt t206 x4_2) != (bt a0 x4_2)) = false := bne_eq_false_iff_eq.mpr c25
                              clear c25
                              have H' := Aside0.mk H
                              clear H
                              have p24 : 0 ≤ (x4_2 : Int) := of_decide_eq_true (by first | (with_reducible assumption) | assumption)
                              have q24 : x4_2 < (t206.size : Int) := of_decide_eq_true (by first | (with_reducible assumption) | assumption)
                              have hx24 := bt_at t206 x4_2
                              replace p24 := eq_true p24
                              replace q24 := eq_true q24
                              go_wp2
                              go_roundg kj14
                              case measure => have := HJ5.out; have := HK2.out; have := HJ14.out; omega
                              case rel => exact ⟨(wrap64 (x4_2 + 1)), (by first | rfl | (simp; done) | (simp [*]; done)), H', ⟨by have := HJ5.out; have := HK2.out; have := HJ14.out; omega⟩, ⟨by repeat (first | (with_reducible first | exact HB.out | apply below_alloc | apply pw_below_drewN | apply below_drew1) | exact HB.out)⟩⟩
                            · rw [if_neg c25] at H
                              have c25b0 : ((bt t206 x4_2) == (bt a0 x4_2)) = false := beq_eq_false_iff_ne.mpr c25
                              have c25b1 : ((bt t206 x4_2) != (bt a0 x4_2)) = true := bne_iff_ne.mpr c25
                              exact absurd ((Option.some.inj H).trans ht_.out) (by decide)
                          · rw [if_neg c23] at H
                            exact absurd H (by simp)
                        · rw [if_neg c22] at H
                          exact absurd H (by simp)
                · rw [if_neg c13] at H
                  exact absurd H (by simp)
              · rw [if_neg c12] at H
                have c12b0 : decide (x4_2 < (a0.size : Int)) = false := decide_eq_false c12
                clear c12
                replace H := Option.bind_eq_some_iff.mp H
                obtain ⟨t208, A260, H⟩ := H
                replace H : (some t208) = some r := H
                have A26 := Aside0.mk A260
                clear A260
                obtain rfl := Option.some.inj H
                go_wp2_with (first | ((with_reducible refine gate_callee (f := 8) rfl ?_); refine goesL_ (some 45) rfl rfl Try.func8 (by kernel_rfl) rfl #[] rfl (by (try simp only [List.map_toArray, List.map_cons, List.map_nil]); first | done | rfl | (simp only [List.length_drop, List.length_take]; rfl)) ?_; (with_reducible refine (fleuronlaw1_awake.calls k2  t208 _ A26.out ht_.out).mono ?_); rintro e w27 ⟨rfl, hb⟩; refine ⟨_, rfl, ?_⟩; have n0_ := Aside0.mk (below_step (by repeat (first | (with_reducible first | exact HB.out | apply below_alloc | apply pw_below_drewN | apply below_drew1) | exact HB.out)) hb); clear HB; have HB := n0_; clear n0_; (try clear hb); (try clear hb2); (try clear hk); (try clear hi)))
                go_ret
                exact ⟨by first | rfl | (simp [errW_none, errW_some] <;> rfl) | (simp [*, errW_none, errW_some] <;> rfl), by repeat (first | (with_reducible first | exact HB.out | apply below_alloc | apply pw_below_drewN | apply below_drew1) | exact HB.out)⟩

/-- THE ONE PURE STATEMENT of fleuronlaw1_PointsLower: yours. -/
def fleuronlaw1_PointsLower.Pure : Prop := ∀ (a0 : ByteArray), a0.size ≤ 140737488351232 → ∃ k, fleuronlaw1_PointsLower.f k a0 = some true
theorem fleuronlaw1_PointsLower.walk (P : fleuronlaw1_PointsLower.Pure) (a0 : ByteArray) (w : World) (w0 : a0.size ≤ 140737488351232) :
    Calls Try.prog 7 #[.string a0] w fun e w' => e = .returned (.bool true) ∧ Below w.heap.size w w' := by
  obtain ⟨k, h⟩ := P a0 w0
  refine (fleuronlaw1_PointsLower.calls k a0 true w h rfl).mono ?_
  rintro e w' ⟨rfl, hd⟩
  exact ⟨rfl, hd⟩

/-! ### fleuronlaw1_PointsBack: function 4 -/
mutual
def fleuronlaw1_PointsBack.l0 : Nat → List Int → List Int → ByteArray → Int → Option (Bool)
  | 0, _, _, _, _ => none
  | k + 1, x0, x3, x4, x5 => if x5 < (x3.length : Int) then (if 0 ≤ x5 then (if (rd x3 x5) = 13 then (some false) else (if (rd x3 x5) = 12 then (some false) else (if (rd x3 x5) = 0 then (some false) else ((points_Put.f (rd x3 x5)).bind fun t217 => (if x4.size + t217.size ≤ 9223372036854775807 then (fleuronlaw1_PointsBack.l0 k x0 x3 (x4 ++ t217) (wrap64 (x5 + 1))) else (none)))))) else (none)) else ((abi_NoEscape.f x4).bind fun t218 => ((points_Read.f t218).bind fun t221 => (if (x3.length : Int) > 0 then (if 0 < (x3.length : Int) then (fleuronlaw1_PointsBack.j1 k x0 x3 t221 ((rd x3 0) == 65279)) else (none)) else (fleuronlaw1_PointsBack.j1 k x0 x3 t221 false))))
def fleuronlaw1_PointsBack.j1 : Nat → List Int → List Int → List Int → Bool → Option (Bool)
  | 0, _, _, _, _ => none
  | k + 1, x0, x3, x6, x56 => if x56 = true then (if 1 ≤ (x3.length : Int) then ((some (x3.drop (1 : Int).toNat : List Int)).bind fun y225 => ((fleuronlaw1_same.f k x6 y225).bind fun t228 => (if t228 = true then (if (y225.length : Int) ≤ (x0.length : Int) then ((fleuronlaw1_awake.f k).bind fun t229 => (some t229)) else (some false)) else (some false)))) else (none)) else ((fleuronlaw1_same.f k x6 x3).bind fun t230 => (if t230 = true then (if (x3.length : Int) ≤ (x0.length : Int) then ((fleuronlaw1_awake.f k).bind fun t231 => (some t231)) else (some false)) else (some false)))
end
def fleuronlaw1_PointsBack.f (k : Nat) (l0 : List Int) : Option (Bool) := if (l0.length : Int) > 2000 then ((fleuronlaw1_awake.f k).bind fun t209 => (some t209)) else ((points_Read.f l0).bind fun t210 => (fleuronlaw1_PointsBack.l0 k l0 t210 (⟨#[]⟩ : ByteArray) 0))
theorem fleuronlaw1_PointsBack.mono_l : ∀ k, (∀ y0 y1 y2 y3, LeO (fleuronlaw1_PointsBack.l0 k y0 y1 y2 y3) (fleuronlaw1_PointsBack.l0 (k + 1) y0 y1 y2 y3)) ∧ (∀ y0 y1 y2 y3, LeO (fleuronlaw1_PointsBack.j1 k y0 y1 y2 y3) (fleuronlaw1_PointsBack.j1 (k + 1) y0 y1 y2 y3))
  | 0 => ⟨fun _ _ _ _ r h => by simp [fleuronlaw1_PointsBack.l0] at h, fun _ _ _ _ r h => by simp [fleuronlaw1_PointsBack.j1] at h⟩
  | k + 1 => by
    obtain ⟨ih0, ih1⟩ := fleuronlaw1_PointsBack.mono_l k
    refine ⟨?_, ?_⟩
    · intro y0 y1 y2 y3
      unfold fleuronlaw1_PointsBack.l0
      repeat' first
      | (with_reducible exact ih0 _ _ _ _)
      | (with_reducible exact ih1 _ _ _ _)
      | (with_reducible exact fleuronlaw1_awake.mono _)
      | (with_reducible exact fleuronlaw1_same.mono _ _ _)
      | (with_reducible exact LeO.refl _)
      | (with_reducible exact LeO.none _)
      | (with_reducible refine LeO.ite ?_ ?_)
      | (with_reducible refine LeO.bind ?_ (fun _ => ?_))
      | exact ih0 _ _ _ _
      | exact ih1 _ _ _ _
      | exact fleuronlaw1_awake.mono _
      | exact fleuronlaw1_same.mono _ _ _
      | exact LeO.none _
      | refine LeO.ite ?_ ?_
      | refine LeO.bind ?_ (fun _ => ?_)
    · intro y0 y1 y2 y3
      unfold fleuronlaw1_PointsBack.j1
      repeat' first
      | (with_reducible exact ih0 _ _ _ _)
      | (with_reducible exact ih1 _ _ _ _)
      | (with_reducible exact fleuronlaw1_awake.mono _)
      | (with_reducible exact fleuronlaw1_same.mono _ _ _)
      | (with_reducible exact LeO.refl _)
      | (with_reducible exact LeO.none _)
      | (with_reducible refine LeO.ite ?_ ?_)
      | (with_reducible refine LeO.bind ?_ (fun _ => ?_))
      | exact ih0 _ _ _ _
      | exact ih1 _ _ _ _
      | exact fleuronlaw1_awake.mono _
      | exact fleuronlaw1_same.mono _ _ _
      | exact LeO.none _
      | refine LeO.ite ?_ ?_
      | refine LeO.bind ?_ (fun _ => ?_)
theorem fleuronlaw1_PointsBack.mono : ∀ a0 k, LeO (fleuronlaw1_PointsBack.f k a0) (fleuronlaw1_PointsBack.f (k + 1) a0) := by
  intro a0 k
  obtain ⟨ih0, ih1⟩ := fleuronlaw1_PointsBack.mono_l k
  unfold fleuronlaw1_PointsBack.f
  repeat' first
      | (with_reducible exact ih0 _ _ _ _)
      | (with_reducible exact ih1 _ _ _ _)
      | (with_reducible exact fleuronlaw1_awake.mono _)
      | (with_reducible exact fleuronlaw1_same.mono _ _ _)
      | (with_reducible exact LeO.refl _)
      | (with_reducible exact LeO.none _)
      | (with_reducible refine LeO.ite ?_ ?_)
      | (with_reducible refine LeO.bind ?_ (fun _ => ?_))
      | exact ih0 _ _ _ _
      | exact ih1 _ _ _ _
      | exact fleuronlaw1_awake.mono _
      | exact fleuronlaw1_same.mono _ _ _
      | exact LeO.none _
      | refine LeO.ite ?_ ?_
      | refine LeO.bind ?_ (fun _ => ?_)
set_option maxHeartbeats 8000000 in
set_option maxRecDepth 100000 in
theorem fleuronlaw1_PointsBack.calls (k : Nat) (A0 : Option Addr) (c0 : Nat) (l0 : List Int) (r : Bool) (w : World) (hr0 : Kd.C (Kd.int .u8) w A0 l0.length l0) (hc0 : l0.length ≤ c0) (h : fleuronlaw1_PointsBack.f k l0 = some r) (ht0_ : r = true) :
    Calls Try.prog 4 #[.slice A0 l0.length c0] w fun e w' => e = .returned (.bool r) ∧ Below w.heap.size w w' := by
  have HR0 := Aside0.mk hr0
  have HC0 := Aside0.mk hc0
  clear hr0 hc0
  have HB := Aside0.mk (Below.refl w.heap.size w)
  have H : (if (l0.length : Int) > 2000 then ((fleuronlaw1_awake.f k).bind fun t209 => (some t209)) else ((points_Read.f l0).bind fun t210 => (fleuronlaw1_PointsBack.l0 k l0 t210 (⟨#[]⟩ : ByteArray) 0))) = some r := h
  clear h
  have ht_ := Aside0.mk ht0_
  clear ht0_
  by_cases c2 : (l0.length : Int) > 2000
  · rw [if_pos c2] at H
    have c2b0 : decide (2000 < (l0.length : Int)) = true := decide_eq_true c2
    have c2b1 : decide (2000 < l0.length) = true := decide_eq_true (by omega)
    clear c2
    replace H := Option.bind_eq_some_iff.mp H
    obtain ⟨t209, A30, H⟩ := H
    replace H : (some t209) = some r := H
    have A3 := Aside0.mk A30
    clear A30
    obtain rfl := Option.some.inj H
    go_enter Try.func4, Try.ntmps4
    go_wp2_with (first | ((with_reducible refine gate_callee (f := 8) rfl ?_); refine goesL_ (some 10) rfl rfl Try.func8 (by kernel_rfl) rfl #[] rfl (by (try simp only [List.map_toArray, List.map_cons, List.map_nil]); first | done | rfl | (simp only [List.length_drop, List.length_take]; rfl)) ?_; (with_reducible refine (fleuronlaw1_awake.calls k  t209 _ A3.out ht_.out).mono ?_); rintro e w4 ⟨rfl, hb⟩; refine ⟨_, rfl, ?_⟩; have n0_ := Aside0.mk (below_step (by repeat (first | (with_reducible first | exact HB.out | apply below_alloc | apply pw_below_drewN | apply below_drew1) | exact HB.out)) hb); clear HB; have HB := n0_; clear n0_; (try clear hb); (try clear hb2); (try clear hk); (try clear hi)))
    go_ret
    exact ⟨by first | rfl | (simp [errW_none, errW_some] <;> rfl) | (simp [*, errW_none, errW_some] <;> rfl), by repeat (first | (with_reducible first | exact HB.out | apply below_alloc | apply pw_below_drewN | apply below_drew1) | exact HB.out)⟩
  · rw [if_neg c2] at H
    have c2b0 : decide (2000 < (l0.length : Int)) = false := decide_eq_false c2
    have c2b1 : decide (2000 < l0.length) = false := decide_eq_false (by omega)
    clear c2
    replace H := Option.bind_eq_some_iff.mp H
    obtain ⟨t210, A50, H⟩ := H
    replace H : (fleuronlaw1_PointsBack.l0 k l0 t210 (⟨#[]⟩ : ByteArray) 0) = some r := H
    have A5 := Aside0.mk A50
    clear A50
    have H' := Aside0.mk H
    clear H
    go_enter Try.func4, Try.ntmps4
    go_wp2_with (first | ((with_reducible refine gate_callee (f := 12) rfl ?_); refine goesL_ (some 12) rfl rfl Try.func12 (by kernel_rfl) rfl #[.slice A0 l0.length c0] rfl (by (try simp only [List.map_toArray, List.map_cons, List.map_nil]); first | done | rfl | (simp only [List.length_drop, List.length_take]; rfl)) ?_; (with_reducible refine (points_Read.calls _ _ l0 t210 _ ?side1 ?side2 A5.out).mono ?_); (case side1 => repeat (first | exact HR0.out | (with_reducible refine Kd.C_alloc ?_ _) | (with_reducible refine Kd.C_drewN ?_ _) | (with_reducible refine Kd.C_drew ?_))); (case side2 => exact HC0.out); rintro e w6 ⟨v211, rfl, ho0, hb⟩; refine ⟨_, rfl, ?_⟩; have n0_ := Aside0.mk (Kd.R_lower ho0 (below_size (by repeat (first | (with_reducible first | exact HB.out | apply below_alloc | apply pw_below_drewN | apply below_drew1) | exact HB.out)))); have n1_ := Aside0.mk (below_step (by repeat (first | (with_reducible first | exact HB.out | apply below_alloc | apply pw_below_drewN | apply below_drew1) | exact HB.out)) hb); clear HB; have HO212 := n0_; have HB := n1_; clear n0_ n1_; (try clear hb); (try clear hb2); (try clear hk); (try clear hi); (try clear ho0)))
    go_loopg [4, 5] k (fun kq v4 v5 w' => ∃ (x4_1 : ByteArray) (x5_1 : Int), v4 = .string x4_1 ∧ v5 = .int .i64 x5_1 ∧ Aside0 (fleuronlaw1_PointsBack.l0 kq l0 t210 x4_1 x5_1 = some r) ∧ Aside0 (kq ≤ k) ∧ Aside0 (Kd.Q (Kd.int .i32) 21 w' w.heap.size (fun _ => True) v211 t210) ∧ Aside0 (Below w.heap.size w w'))
    case atStart => exact ⟨((⟨#[]⟩ : ByteArray)), (0), (by first | rfl | (simp; done) | (simp [*]; done)), (by first | rfl | (simp; done) | (simp [*]; done)), H', ⟨Nat.le_refl _⟩, ⟨Kd.Q_of_R (by (with_reducible repeat (first | apply Kd.R_alloc | apply Kd.R_drewN | apply Kd.R_drew)); exact HO212.out)⟩, ⟨by repeat (first | (with_reducible first | exact HB.out | apply below_alloc | apply pw_below_drewN | apply below_drew1) | exact HB.out)⟩⟩
    case round =>
      clear H'
      try clear c1
      try clear c2
      try clear c2b0
      try clear c2b1
      try clear p2
      try clear c4
      obtain ⟨x4_1, x5_1, rfl, rfl, HA, HK1, HO_3, HB⟩ := hrel
      cases gk with
      | zero => exact absurd HA.out (by simp [fleuronlaw1_PointsBack.l0])
      | succ k1 =>
        have H := HA.out
        clear HA
        simp only [fleuronlaw1_PointsBack.l0] at H
        by_cases c7 : x5_1 < (t210.length : Int)
        · rw [if_pos c7] at H
          have c7b0 : decide (x5_1 < (t210.length : Int)) = true := decide_eq_true c7
          clear c7
          by_cases c8 : 0 ≤ x5_1
          · rw [if_pos c8] at H
            have c8b0 : decide (0 ≤ x5_1) = true := decide_eq_true c8
            clear c8
            by_cases c9 : (rd t210 x5_1) = 13
            · rw [if_pos c9] at H
              have c9b0 : ((rd t210 x5_1) == 13) = true := beq_iff_eq.mpr c9
              have c9b1 : ((rd t210 x5_1) != 13) = false := bne_eq_false_iff_eq.mpr c9
              clear c9
              exact absurd ((Option.some.inj H).trans ht_.out) (by decide)
            · rw [if_neg c9] at H
              have c9b0 : ((rd t210 x5_1) == 13) = false := beq_eq_false_iff_ne.mpr c9
              have c9b1 : ((rd t210 x5_1) != 13) = true := bne_iff_ne.mpr c9
              by_cases c10 : (rd t210 x5_1) = 12
              · rw [if_pos c10] at H
                have c10b0 : ((rd t210 x5_1) == 12) = true := beq_iff_eq.mpr c10
                have c10b1 : ((rd t210 x5_1) != 12) = false := bne_eq_false_iff_eq.mpr c10
                clear c10
                exact absurd ((Option.some.inj H).trans ht_.out) (by decide)
              · rw [if_neg c10] at H
                have c10b0 : ((rd t210 x5_1) == 12) = false := beq_eq_false_iff_ne.mpr c10
                have c10b1 : ((rd t210 x5_1) != 12) = true := bne_iff_ne.mpr c10
                by_cases c11 : (rd t210 x5_1) = 0
                · rw [if_pos c11] at H
                  have c11b0 : ((rd t210 x5_1) == 0) = true := beq_iff_eq.mpr c11
                  have c11b1 : ((rd t210 x5_1) != 0) = false := bne_eq_false_iff_eq.mpr c11
                  clear c11
                  exact absurd ((Option.some.inj H).trans ht_.out) (by decide)
                · rw [if_neg c11] at H
                  have c11b0 : ((rd t210 x5_1) == 0) = false := beq_eq_false_iff_ne.mpr c11
                  have c11b1 : ((rd t210 x5_1) != 0) = true := bne_iff_ne.mpr c11
                  replace H := Option.bind_eq_some_iff.mp H
                  obtain ⟨t217, A120, H⟩ := H
                  replace H : (if x4_1.size + t217.size ≤ 9223372036854775807 then (fleuronlaw1_PointsBack.l0 k1 l0 t210 (x4_1 ++ t217) (wrap64 (x5_1 + 1))) else (none)) = some r := H
                  have A12 := Aside0.mk A120
                  clear A120
                  by_cases c13 : x4_1.size + t217.size ≤ 9223372036854775807
                  · rw [if_pos c13] at H
                    have c13b0 := eq_true c13
                    have c13b1 : decide (x4_1.size + t217.size ≤ 9223372036854775807) = true := decide_eq_true c13
                    try have c13b2 : (9223372036854775807 < x4_1.size + t217.size) = False := eq_false (Nat.not_lt.2 c13)
                    have H' := Aside0.mk H
                    clear H
                    obtain ⟨Ao14, co14, eo14, _⟩ := Kd.Q_slice HO_3.out
                    subst eo14
                    have p213 : 0 ≤ (x5_1 : Int) := of_decide_eq_true (by first | (with_reducible assumption) | assumption)
                    have q213 : x5_1 < (t210.length : Int) := of_decide_eq_true (by first | (with_reducible assumption) | assumption)
                    obtain ⟨ad213, e213, hx213_0⟩ := Kd.at_int (Kd.Q_reads' HO_3.out).2.2 x5_1 p213 q213
                    cases e213
                    replace p213 := eq_true p213
                    replace q213 := eq_true q213
                    have p214 : 0 ≤ (x5_1 : Int) := of_decide_eq_true (by first | (with_reducible assumption) | assumption)
                    have q214 : x5_1 < (t210.length : Int) := of_decide_eq_true (by first | (with_reducible assumption) | assumption)
                    obtain ⟨ad214, e214, hx214_0⟩ := Kd.at_int (Kd.Q_reads' HO_3.out).2.2 x5_1 p214 q214
                    obtain rfl : ad213 = ad214 := (by injection e214)
                    replace p214 := eq_true p214
                    replace q214 := eq_true q214
                    have p215 : 0 ≤ (x5_1 : Int) := of_decide_eq_true (by first | (with_reducible assumption) | assumption)
                    have q215 : x5_1 < (t210.length : Int) := of_decide_eq_true (by first | (with_reducible assumption) | assumption)
                    obtain ⟨ad215, e215, hx215_0⟩ := Kd.at_int (Kd.Q_reads' HO_3.out).2.2 x5_1 p215 q215
                    obtain rfl : ad213 = ad215 := (by injection e215)
                    replace p215 := eq_true p215
                    replace q215 := eq_true q215
                    have p216 : 0 ≤ (x5_1 : Int) := of_decide_eq_true (by first | (with_reducible assumption) | assumption)
                    have q216 : x5_1 < (t210.length : Int) := of_decide_eq_true (by first | (with_reducible assumption) | assumption)
                    obtain ⟨ad216, e216, hx216_0⟩ := Kd.at_int (Kd.Q_reads' HO_3.out).2.2 x5_1 p216 q216
                    obtain rfl : ad213 = ad216 := (by injection e216)
                    replace p216 := eq_true p216
                    replace q216 := eq_true q216
                    go_wp2_with (first | ((with_reducible refine gate_callee (f := 14) rfl ?_); refine goesL_ (some 43) rfl rfl Try.func14 (by kernel_rfl) rfl #[.int .i32 (rd t210 x5_1)] rfl (by (try simp only [List.map_toArray, List.map_cons, List.map_nil]); first | done | rfl | (simp only [List.length_drop, List.length_take]; rfl)) ?_; (with_reducible refine (points_Put.calls (rd t210 x5_1) t217 _ A12.out).mono ?_); rintro e w15 ⟨rfl, hb⟩; refine ⟨_, rfl, ?_⟩; have n0_ := Aside0.mk (Kd.Q_below (by (with_reducible repeat (first | apply Kd.Q_alloc | apply Kd.Q_drewN | apply Kd.Q_drew)); exact HO_3.out) hb); have n1_ := Aside0.mk (below_step (by repeat (first | (with_reducible first | exact HB.out | apply below_alloc | apply pw_below_drewN | apply below_drew1) | exact HB.out)) hb); clear HO_3; clear HB; have HO_3 := n0_; have HB := n1_; clear n0_ n1_; (try clear hb); (try clear hb2); (try clear hk); (try clear hi)))
                    go_roundg k1
                    case measure => have := HK1.out; omega
                    case rel => exact ⟨(x4_1 ++ t217), (wrap64 (x5_1 + 1)), (by first | rfl | (simp; done) | (simp [*]; done)), (by first | rfl | (simp; done) | (simp [*]; done)), H', ⟨by have := HK1.out; omega⟩, ⟨by (with_reducible repeat (first | apply Kd.Q_alloc | apply Kd.Q_drewN | apply Kd.Q_drew)); exact HO_3.out⟩, ⟨by repeat (first | (with_reducible first | exact HB.out | apply below_alloc | apply pw_below_drewN | apply below_drew1) | exact HB.out)⟩⟩
                  · rw [if_neg c13] at H
                    exact absurd H (by simp)
          · rw [if_neg c8] at H
            exact absurd H (by simp)
        · rw [if_neg c7] at H
          have c7b0 : decide (x5_1 < (t210.length : Int)) = false := decide_eq_false c7
          clear c7
          replace H := Option.bind_eq_some_iff.mp H
          obtain ⟨t218, A160, H⟩ := H
          replace H : ((points_Read.f t218).bind fun t221 => (if (t210.length : Int) > 0 then (if 0 < (t210.length : Int) then (fleuronlaw1_PointsBack.j1 k1 l0 t210 t221 ((rd t210 0) == 65279)) else (none)) else (fleuronlaw1_PointsBack.j1 k1 l0 t210 t221 false))) = some r := H
          have A16 := Aside0.mk A160
          clear A160
          replace H := Option.bind_eq_some_iff.mp H
          obtain ⟨t221, A170, H⟩ := H
          replace H : (if (t210.length : Int) > 0 then (if 0 < (t210.length : Int) then (fleuronlaw1_PointsBack.j1 k1 l0 t210 t221 ((rd t210 0) == 65279)) else (none)) else (fleuronlaw1_PointsBack.j1 k1 l0 t210 t221 false)) = some r := H
          have A17 := Aside0.mk A170
          clear A170
          have HC18 := Aside0.mk H
          clear H
          obtain ⟨Ao19, co19, eo19, _⟩ := Kd.Q_slice HO_3.out
          subst eo19
          go_upto_region 12 with (first | ((with_reducible refine gate_dst (N := 46) rfl ?_); refine conv_event ?hg (N := 46) ?hd (src := 9) (dst := 22) (e := 5) (x := .tmp 45) (s := x4_1) (t := t218) ?ho ?hx Try.underlying9 Try.underlying22 Try.underlying5 (toBytes_some A16.out).1 (toBytes_some A16.out).2 ?_; (case ho => rfl); (case hx => first | (go_simp; done) | (go_simp; rfl)); (case hd => rfl); (case hg => rfl); intro g21 co21 w20 hC0 hL0 hb; have HCc := Aside0.mk hC0; have HLc := Aside0.mk hL0; clear hC0 hL0; have n0_ := Aside0.mk (Kd.Q_below (by (with_reducible repeat (first | apply Kd.Q_alloc | apply Kd.Q_drewN | apply Kd.Q_drew)); exact HO_3.out) hb); have n1_ := Aside0.mk (Kd.R_nil (Kd.int .u8) 5 w20 w.heap.size (fun _ => True)); have n2_ := Aside0.mk (below_step (by repeat (first | (with_reducible first | exact HB.out | apply below_alloc | apply pw_below_drewN | apply below_drew1) | exact HB.out)) hb); clear HO_3; clear HB; have HO_3 := n0_; have HO220 := n1_; have HB := n2_; clear n0_ n1_ n2_; (try clear hb); (try clear hb2); (try clear hk); (try clear hi); (try skip)) | ((with_reducible refine gate_callee (f := 12) rfl ?_); refine goesL_ (some 47) rfl rfl Try.func12 (by kernel_rfl) rfl #[.slice (some ⟨g21, 0, none⟩) t218.length co21] rfl (by (try simp only [List.map_toArray, List.map_cons, List.map_nil]); first | done | rfl | (simp only [List.length_drop, List.length_take]; rfl)) ?_; (with_reducible refine (points_Read.calls _ _ t218 t221 _ ?side1 ?side2 A17.out).mono ?_); (case side1 => exact HCc.out); (case side2 => exact HLc.out); rintro e w22 ⟨v222, rfl, ho0, hb⟩; refine ⟨_, rfl, ?_⟩; have n0_ := Aside0.mk (Kd.Q_elder' (by (with_reducible repeat (first | apply Kd.Q_alloc | apply Kd.Q_drewN | apply Kd.Q_drew)); exact HO_3.out) (Kd.R_base ho0) hb); have n1_ := Aside0.mk (Kd.R_below (by (with_reducible repeat (first | apply Kd.R_alloc | apply Kd.R_drewN | apply Kd.R_drew)); exact HO220.out) hb); have n2_ := Aside0.mk (Kd.R_lower (Kd.R_new' ho0 (Kd.Q_lt (by (with_reducible repeat (first | apply Kd.Q_alloc | apply Kd.Q_drewN | apply Kd.Q_drew)); exact HO_3.out))) (below_size (by repeat (first | (with_reducible first | exact HB.out | apply below_alloc | apply pw_below_drewN | apply below_drew1) | exact HB.out)))); have n3_ := Aside0.mk (below_step (by repeat (first | (with_reducible first | exact HB.out | apply below_alloc | apply pw_below_drewN | apply below_drew1) | exact HB.out)) hb); clear HO_3; clear HO220; clear HB; have HO_3 := n0_; have HO220 := n1_; have HO223 := n2_; have HB := n3_; clear n0_ n1_ n2_ n3_; (try clear hb); (try clear hb2); (try clear hk); (try clear hi); (try clear ho0)))
          (try simp only [Act.put, List.setIfInBounds_toArray, List.set_cons_zero, List.set_cons_succ])
          go_cut [56] (fun v56 wc => ∃ (kq : Nat) (x56_17 : Bool), v56 = .bool x56_17 ∧ Aside0 (fleuronlaw1_PointsBack.j1 kq l0 t210 t221 x56_17 = some r) ∧ Aside0 (kq ≤ k1) ∧ Aside0 (Kd.Q (Kd.int .i32) 21 wc w.heap.size (fun k_ => some k_ ≠ (v222 : Value).ownBlock) (.slice Ao19 t210.length co19) t210) ∧ Aside0 (Kd.R (Kd.int .i32) 21 wc w.heap.size (fun k_ => some k_ ≠ ((.slice Ao19 t210.length co19) : Value).ownBlock) v222 t221) ∧ Aside0 (Below w.heap.size w wc))
          case first =>
            have H := HC18.out
            clear HC18
            by_cases c23 : (t210.length : Int) > 0
            · rw [if_pos c23] at H
              have c23b0 : decide (0 < (t210.length : Int)) = true := decide_eq_true c23
              have c23b1 : decide (0 < t210.length) = true := decide_eq_true (by omega)
              clear c23
              (first | rw [c23b0] | (simp only [i64_w, i32_w]; rw [c23b0]) | skip)
              by_cases c24 : 0 < (t210.length : Int)
              · rw [if_pos c24] at H
                have c24b0 : decide (0 < (t210.length : Int)) = true := decide_eq_true c24
                have c24b1 : decide (0 < t210.length) = true := decide_eq_true (by omega)
                clear c24
                have H' := Aside0.mk H
                clear H
                have p224 : 0 ≤ (0 : Int) := (by omega)
                have q224 : 0 < (t210.length : Int) := of_decide_eq_true (by first | (with_reducible assumption) | assumption)
                obtain ⟨ad224, e224, hx224_0⟩ := Kd.at_int (Kd.Q_reads' HO_3.out).2.2 0 p224 q224
                cases e224
                have qi224 : (0 < t210.length) = True := eq_true (by omega)
                (try rw [show ((0 : Int)).toNat = 0 from rfl] at hx224_0)
                (try rw [Addr.add_zero'] at hx224_0)
                replace p224 := eq_true p224
                replace q224 := eq_true q224
                go_wp2
                go_meet
                case rel => exact ⟨_, (((rd t210 0) == 65279)), (by first | rfl | (simp; done) | (simp [*]; done)), H', ⟨by have := HK1.out; first | omega | exact Nat.le_refl _⟩, ⟨by (with_reducible repeat (first | apply Kd.Q_alloc | apply Kd.Q_drewN | apply Kd.Q_drew)); exact Kd.Q_mono HO_3.out (fun _ hk => by first | exact hk.2 | simp [hk])⟩, ⟨by (with_reducible repeat (first | apply Kd.R_alloc | apply Kd.R_drewN | apply Kd.R_drew)); exact Kd.R_mono HO223.out (fun _ hk => by first | exact hk.2 | simp [hk])⟩, ⟨by repeat (first | (with_reducible first | exact HB.out | apply below_alloc | apply pw_below_drewN | apply below_drew1) | exact HB.out)⟩⟩
              · rw [if_neg c24] at H
                exact absurd H (by simp)
            · rw [if_neg c23] at H
              have c23b0 : decide (0 < (t210.length : Int)) = false := decide_eq_false c23
              have c23b1 : decide (0 < t210.length) = false := decide_eq_false (by omega)
              clear c23
              (first | rw [c23b0] | (simp only [i64_w, i32_w]; rw [c23b0]) | skip)
              have H' := Aside0.mk H
              clear H
              go_wp2
              go_meet
              case rel => exact ⟨_, (false), (by first | rfl | (simp; done) | (simp [*]; done)), H', ⟨by have := HK1.out; first | omega | exact Nat.le_refl _⟩, ⟨by (with_reducible repeat (first | apply Kd.Q_alloc | apply Kd.Q_drewN | apply Kd.Q_drew)); exact Kd.Q_mono HO_3.out (fun _ hk => by first | exact hk.2 | simp [hk])⟩, ⟨by (with_reducible repeat (first | apply Kd.R_alloc | apply Kd.R_drewN | apply Kd.R_drew)); exact Kd.R_mono HO223.out (fun _ hk => by first | exact hk.2 | simp [hk])⟩, ⟨by repeat (first | (with_reducible first | exact HB.out | apply below_alloc | apply pw_below_drewN | apply below_drew1) | exact HB.out)⟩⟩
          case rest =>
            clear HC18
            try clear c1
            try clear c2
            try clear c2b0
            try clear c2b1
            try clear p2
            try clear q2
            try clear hx2
            try clear qi2
            try clear c4
            try clear p6
            try clear c7
            try clear c7b0
            try clear c8
            try clear c8b0
            try clear c9
            try clear c9b0
            try clear c9b1
            try clear c10
            try clear c10b0
            try clear c10b1
            try clear c11
            try clear c11b0
            try clear c11b1
            try clear c12
            try clear c13
            try clear c13b0
            try clear c13b1
            try clear c13b2
            try clear c14
            try clear p21
            try clear q21
            try clear hx21
            try clear p22
            try clear q22
            try clear hx22
            try clear qi22
            try clear c23
            try clear c23b0
            try clear c23b1
            try clear c24
            try clear c24b0
            try clear c24b1
            try clear hx213_0
            try clear hx214_0
            try clear hx215_0
            try clear hx216_0
            try clear hx224_0
            try clear p2
            try clear p213
            try clear p214
            try clear p215
            try clear p216
            try clear p224
            try clear q213
            try clear q214
            try clear q215
            try clear q216
            try clear q224
            obtain ⟨kq, x56_17, rfl, HA, HJ17, HO_3, HO_6, HB⟩ := hcut
            cases kq with
            | zero => exact absurd HA.out (by simp [fleuronlaw1_PointsBack.j1])
            | succ kj17 =>
              have H := HA.out
              clear HA
              simp only [fleuronlaw1_PointsBack.j1] at H
              by_cases c25 : x56_17 = true
              · subst c25
                have H1 : (if 1 ≤ (t210.length : Int) then ((some (t210.drop (1 : Int).toNat : List Int)).bind fun y225 => ((fleuronlaw1_same.f kj17 t221 y225).bind fun t228 => (if t228 = true then (if (y225.length : Int) ≤ (l0.length : Int) then ((fleuronlaw1_awake.f kj17).bind fun t229 => (some t229)) else (some false)) else (some false)))) else (none)) = some r := by rw [if_pos rfl] at H; exact H
                clear H
                have H := H1
                clear H1
                by_cases c26 : 1 ≤ (t210.length : Int)
                · rw [if_pos c26] at H
                  have c26b0 := eq_true c26
                  have c26b1 : decide (1 ≤ (t210.length : Int)) = true := decide_eq_true c26
                  clear c26
                  obtain ⟨y225, hy225⟩ : ∃ y_ : List Int, y_ = (t210.drop (1 : Int).toNat) := ⟨_, rfl⟩
                  replace H : ((fleuronlaw1_same.f kj17 t221 y225).bind fun t228 => (if t228 = true then (if (y225.length : Int) ≤ (l0.length : Int) then ((fleuronlaw1_awake.f kj17).bind fun t229 => (some t229)) else (some false)) else (some false))) = some r := by first | (rw [hy225]; with_reducible exact H) | (have H2_ := (Option.bind_some _ _).symm.trans H; rw [hy225]; with_reducible exact H2_) | (have H2_ := (Option.bind_some _ _).symm.trans H; with_reducible exact H2_) | with_reducible exact H | (rw [hy225]; exact H) | exact H
                  have Ny225 := Aside0.mk hy225
                  clear hy225
                  replace H := Option.bind_eq_some_iff.mp H
                  obtain ⟨t228, A270, H⟩ := H
                  replace H : (if t228 = true then (if (y225.length : Int) ≤ (l0.length : Int) then ((fleuronlaw1_awake.f kj17).bind fun t229 => (some t229)) else (some false)) else (some false)) = some r := H
                  have A27 := Aside0.mk A270
                  clear A270
                  by_cases c28 : t228 = true
                  · subst c28
                    have H1 : (if (y225.length : Int) ≤ (l0.length : Int) then ((fleuronlaw1_awake.f kj17).bind fun t229 => (some t229)) else (some false)) = some r := by rw [if_pos rfl] at H; exact H
                    clear H
                    have H := H1
                    clear H1
                    by_cases c29 : (y225.length : Int) ≤ (l0.length : Int)
                    · rw [if_pos c29] at H
                      have c29b0 : decide ((y225.length : Int) ≤ (l0.length : Int)) = true := decide_eq_true c29
                      have c29b1 : decide (y225.length ≤ l0.length) = true := decide_eq_true (Int.ofNat_le.mp c29)
                      clear c29
                      replace H := Option.bind_eq_some_iff.mp H
                      obtain ⟨t229, A300, H⟩ := H
                      replace H : (some t229) = some r := H
                      have A30 := Aside0.mk A300
                      clear A300
                      obtain rfl := Option.some.inj H
                      have q31 : (1 : Int) ≤ ((t210.length : Int) : Int) := of_decide_eq_true (by first | (with_reducible assumption) | assumption)
                      obtain ⟨i031, hi031, _, hsz31, _⟩ := info_parts info21
                      have hcut31 := cut_from (P := Try.prog) 27 21 .i64 Try.underlying27 hi031 1 hsz31 Ao19 t210.length co19 1 (by omega) q31
                      have hr31 := Kd.Q_drop (k := (1 : Int).toNat) HO_3.out (by omega)
                      obtain ⟨A31, hA31⟩ : ∃ A1, A1 = (if co19 = (1 : Int).toNat then Ao19 else (Ao19 : Option Addr).map (·.add ((1 : Int).toNat * 1))) := ⟨_, rfl⟩
                      obtain ⟨c31, hc31⟩ : ∃ c1, c1 = co19 - (1 : Int).toNat := ⟨_, rfl⟩
                      have hy31 : y225.length = t210.length - (1 : Int).toNat := (by rw [Ny225.out, List.length_drop])
                      rw [← Ny225.out] at hr31
                      rw [← hy31, ← hA31, ← hc31] at hcut31
                      replace hr31 : Kd.Q (Kd.int .i32) 21 wc w.heap.size (fun k_ => some k_ ≠ (v222 : Value).ownBlock) (.slice A31 y225.length c31) y225 := (by rw [hA31, hc31, hy31]; exact hr31)
                      have HE31 : Aside0 ((Value.slice A31 y225.length c31).ownBlock = (.slice Ao19 t210.length co19 : Value).ownBlock) := ⟨by rw [hA31]; split <;> (cases (Ao19 : Option Addr) <;> rfl)⟩
                      clear hy31 hi031 hsz31 HO_3 hA31 hc31
                      have HO227 := Aside0.mk hr31
                      clear hr31
                      replace q31 := eq_true q31
                      have n_ := Aside0.mk (Kd.R_mono (ok' := fun k_ => some k_ ≠ (.slice A31 y225.length c31 : Value).ownBlock) HO_6.out (fun k_ hk => (by rw [HE31.out]; exact hk)))
                      clear HO_6
                      have HO_6 := n_
                      clear n_
                      obtain ⟨Ao32, co32, eo32⟩ := Kd.R_slice HO_6.out
                      subst eo32
                      go_wp2_with (first | ((with_reducible refine gate_callee (f := 11) rfl ?_); refine goesL_ (some 61) rfl rfl Try.func11 (by kernel_rfl) rfl #[.slice Ao32 t221.length co32, .slice A31 y225.length c31] rfl (by (try simp only [List.map_toArray, List.map_cons, List.map_nil]); first | done | rfl | (simp only [List.length_drop, List.length_take]; rfl)) ?_; (with_reducible refine (fleuronlaw1_same.calls kj17 _ _ t221 _ _ y225 true _ ?side1 ?side2 ?side3 ?side4 A27.out).mono ?_); (case side1 => repeat (first | exact (Kd.R_reads' HO_6.out).2.2 | (with_reducible refine Kd.C_alloc ?_ _) | (with_reducible refine Kd.C_drewN ?_ _) | (with_reducible refine Kd.C_drew ?_))); (case side2 => exact (Kd.R_reads' HO_6.out).2.1); (case side3 => repeat (first | exact (Kd.Q_reads' HO227.out).2.2 | (with_reducible refine Kd.C_alloc ?_ _) | (with_reducible refine Kd.C_drewN ?_ _) | (with_reducible refine Kd.C_drew ?_))); (case side4 => exact (Kd.Q_reads' HO227.out).2.1); rintro e w' ⟨rfl, ⟨nd, rfl⟩⟩; refine ⟨_, rfl, ?_⟩) | (go_at_call 8; (with_reducible refine (fleuronlaw1_awake.calls kj17  t229 _ A30.out ht_.out).mono ?_); rintro e w33 ⟨rfl, hb⟩; have n0_ := Aside0.mk (Kd.Q_below (by (with_reducible repeat (first | apply Kd.Q_alloc | apply Kd.Q_drewN | apply Kd.Q_drew)); exact HO227.out) hb); have n1_ := Aside0.mk (Kd.R_below (by (with_reducible repeat (first | apply Kd.R_alloc | apply Kd.R_drewN | apply Kd.R_drew)); exact HO_6.out) hb); have n2_ := Aside0.mk (below_step (by repeat (first | (with_reducible first | exact HB.out | apply below_alloc | apply pw_below_drewN | apply below_drew1) | exact HB.out)) hb); clear HO227; clear HO_6; clear HB; have HO227 := n0_; have HO_6 := n1_; have HB := n2_; clear n0_ n1_ n2_; (try clear hb); (try clear hb2); (try clear hk); (try clear hi)))
                      go_ret
                      exact ⟨by first | rfl | (simp [errW_none, errW_some] <;> rfl) | (simp [*, errW_none, errW_some] <;> rfl), by repeat (first | (with_reducible first | exact HB.out | apply below_alloc | apply pw_below_drewN | apply below_drew1) | exact HB.out)⟩
                    · rw [if_neg c29] at H
                      have c29b0 : decide ((y225.length : Int) ≤ (l0.length : Int)) = false := decide_eq_false c29
                      have c29b1 : decide (y225.length ≤ l0.length) = false := decide_eq_false (fun h => c29 (Int.ofNat_le.mpr h))
                      clear c29
                      exact absurd ((Option.some.inj H).trans ht_.out) (by decide)
                  · replace c28 := Bool.eq_false_iff.mpr c28
                    subst c28
                    have H1 : (some false) = some r := by rw [if_neg (show ¬ (false = true) by decide)] at H; exact H
                    clear H
                    have H := H1
                    clear H1
                    exact absurd ((Option.some.inj H).trans ht_.out) (by decide)
                · rw [if_neg c26] at H
                  exact absurd H (by simp)
              · replace c25 := Bool.eq_false_iff.mpr c25
                subst c25
                have H1 : ((fleuronlaw1_same.f kj17 t221 t210).bind fun t230 => (if t230 = true then (if (t210.length : Int) ≤ (l0.length : Int) then ((fleuronlaw1_awake.f kj17).bind fun t231 => (some t231)) else (some false)) else (some false))) = some r := by rw [if_neg (show ¬ (false = true) by decide)] at H; exact H
                clear H
                have H := H1
                clear H1
                replace H := Option.bind_eq_some_iff.mp H
                obtain ⟨t230, A340, H⟩ := H
                replace H : (if t230 = true then (if (t210.length : Int) ≤ (l0.length : Int) then ((fleuronlaw1_awake.f kj17).bind fun t231 => (some t231)) else (some false)) else (some false)) = some r := H
                have A34 := Aside0.mk A340
                clear A340
                by_cases c35 : t230 = true
                · subst c35
                  have H1 : (if (t210.length : Int) ≤ (l0.length : Int) then ((fleuronlaw1_awake.f kj17).bind fun t231 => (some t231)) else (some false)) = some r := by rw [if_pos rfl] at H; exact H
                  clear H
                  have H := H1
                  clear H1
                  by_cases c36 : (t210.length : Int) ≤ (l0.length : Int)
                  · rw [if_pos c36] at H
                    have c36b0 : decide ((t210.length : Int) ≤ (l0.length : Int)) = true := decide_eq_true c36
                    have c36b1 : decide (t210.length ≤ l0.length) = true := decide_eq_true (Int.ofNat_le.mp c36)
                    clear c36
                    replace H := Option.bind_eq_some_iff.mp H
                    obtain ⟨t231, A370, H⟩ := H
                    replace H : (some t231) = some r := H
                    have A37 := Aside0.mk A370
                    clear A370
                    obtain rfl := Option.some.inj H
                    obtain ⟨Ao38, co38, eo38⟩ := Kd.R_slice HO_6.out
                    subst eo38
                    go_wp2_with (first | ((with_reducible refine gate_callee (f := 11) rfl ?_); refine goesL_ (some 61) rfl rfl Try.func11 (by kernel_rfl) rfl #[.slice Ao38 t221.length co38, .slice Ao19 t210.length co19] rfl (by (try simp only [List.map_toArray, List.map_cons, List.map_nil]); first | done | rfl | (simp only [List.length_drop, List.length_take]; rfl)) ?_; (with_reducible refine (fleuronlaw1_same.calls kj17 _ _ t221 _ _ t210 true _ ?side1 ?side2 ?side3 ?side4 A34.out).mono ?_); (case side1 => repeat (first | exact (Kd.R_reads' HO_6.out).2.2 | (with_reducible refine Kd.C_alloc ?_ _) | (with_reducible refine Kd.C_drewN ?_ _) | (with_reducible refine Kd.C_drew ?_))); (case side2 => exact (Kd.R_reads' HO_6.out).2.1); (case side3 => repeat (first | exact (Kd.Q_reads' HO_3.out).2.2 | (with_reducible refine Kd.C_alloc ?_ _) | (with_reducible refine Kd.C_drewN ?_ _) | (with_reducible refine Kd.C_drew ?_))); (case side4 => exact (Kd.Q_reads' HO_3.out).2.1); rintro e w' ⟨rfl, ⟨nd, rfl⟩⟩; refine ⟨_, rfl, ?_⟩) | (go_at_call 8; (with_reducible refine (fleuronlaw1_awake.calls kj17  t231 _ A37.out ht_.out).mono ?_); rintro e w39 ⟨rfl, hb⟩; have n0_ := Aside0.mk (Kd.Q_below (by (with_reducible repeat (first | apply Kd.Q_alloc | apply Kd.Q_drewN | apply Kd.Q_drew)); exact HO_3.out) hb); have n1_ := Aside0.mk (Kd.R_below (by (with_reducible repeat (first | apply Kd.R_alloc | apply Kd.R_drewN | apply Kd.R_drew)); exact HO_6.out) hb); have n2_ := Aside0.mk (below_step (by repeat (first | (with_reducible first | exact HB.out | apply below_alloc | apply pw_below_drewN | apply below_drew1) | exact HB.out)) hb); clear HO_3; clear HO_6; clear HB; have HO_3 := n0_; have HO_6 := n1_; have HB := n2_; clear n0_ n1_ n2_; (try clear hb); (try clear hb2); (try clear hk); (try clear hi)))
                    go_ret
                    exact ⟨by first | rfl | (simp [errW_none, errW_some] <;> rfl) | (simp [*, errW_none, errW_some] <;> rfl), by repeat (first | (with_reducible first | exact HB.out | apply below_alloc | apply pw_below_drewN | apply below_drew1) | exact HB.out)⟩
                  · rw [if_neg c36] at H
                    have c36b0 : decide ((t210.length : Int) ≤ (l0.length : Int)) = false := decide_eq_false c36
                    have c36b1 : decide (t210.length ≤ l0.length) = false := decide_eq_false (fun h => c36 (Int.ofNat_le.mpr h))
                    clear c36
                    exact absurd ((Option.some.inj H).trans ht_.out) (by decide)
                · replace c35 := Bool.eq_false_iff.mpr c35
                  subst c35
                  have H1 : (some false) = some r := by rw [if_neg (show ¬ (false = true) by decide)] at H; exact H
                  clear H
                  have H := H1
                  clear H1
                  exact absurd ((Option.some.inj H).trans ht_.out) (by decide)

/-- THE ONE PURE STATEMENT of fleuronlaw1_PointsBack: yours. -/
def fleuronlaw1_PointsBack.Pure : Prop := ∀ (l0 : List Int), l0.length ≤ maxLen → l0.length * 1 ≤ 140737488351232 → (∀ x ∈ l0, (Lit.int .u8 x).wf = true) → ∃ k, fleuronlaw1_PointsBack.f k l0 = some true
theorem fleuronlaw1_PointsBack.walk (P : fleuronlaw1_PointsBack.Pure) (a0 : Option Addr) (len0 cap0 : Nat) (z0 : List Int) (w : World) (w0 : (a0 = none ∧ len0 = 0 ∧ cap0 = 0 ∧ z0 = []) ∨ ∃ x, a0 = some x ∧ len0 ≤ cap0 ∧ cap0 ≤ maxLen ∧ z0.length = cap0 ∧ (∀ i, i < z0.length → w.cell? (x.add i) = some (.int .u8 (z0.getD i 0))) ∧ ∀ n ∈ z0, (Lit.int .u8 n).wf = true) (y0 : len0 * 1 ≤ 140737488351232) :
    Calls Try.prog 4 #[.slice a0 len0 cap0] w fun e w' => e = .returned (.bool true) ∧ Below w.heap.size w w' := by
  obtain ⟨l0, rfl, hr0, hm0, hw0, hc0⟩ := ReadsInt.ofRowC w0
  obtain ⟨k, h⟩ := P l0 hm0 y0 hw0
  refine (fleuronlaw1_PointsBack.calls k _ _ l0 true w (Kd.C_of_reads (d := (0 : Int)) (h1 := fun _ => rfl) hr0) hc0 h rfl).mono ?_
  rintro e w' ⟨rfl, hd⟩
  exact ⟨rfl, hd⟩

end Go.Proofs.Ytohnoohnppeooaa.Print
