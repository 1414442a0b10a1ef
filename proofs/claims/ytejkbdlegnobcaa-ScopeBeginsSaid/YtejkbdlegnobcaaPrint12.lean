/- Written by a program of this session out of the translation, with contracts given by hand beside. -/
import Derived.Test.YtejkbdlegnobcaaPrint0
import Derived.Test.YtejkbdlegnobcaaPrint7
import Derived.Test.YtejkbdlegnobcaaPrint11
namespace Go.Proofs.Ytejkbdlegnobcaa.Print
open Go.RowKit Go.Proofs.YtejkbdlegnobcaaW.PrintWords Go.Proofs.YtejkbdlegnobcaaW.PrintLast Go.Proofs.YtejkbdlegnobcaaW.PrintMore
attribute [local go_sem] max2_int min2_int max_two min_two max_three min_three max_four min_four   -- for this text's walks alone
set_option linter.unusedVariables false
set_option linter.unusedSimpArgs false

/-! ### fleuronlaw15_ScopeSums: function 3 -/
mutual
def fleuronlaw15_ScopeSums.j0 : Nat → Int → List Int → Bool → Option (Bool)
  | 0, _, _, _ => none
  | k + 1, x0, x1, x21 => if x21 = true then ((fleuronlaw15_awake.f k).bind fun t218 => (some t218)) else ((scope_Reset.f k ([] : List (S38)) 1 ([] : List Int) (⟨#[110]⟩ : ByteArray) x0 false false).bind fun t219 => (fleuronlaw15_ScopeSums.l0 k x1 t219 x0 0))
def fleuronlaw15_ScopeSums.l0 : Nat → List Int → List (S38) → Int → Int → Option (Bool)
  | 0, _, _, _, _ => none
  | k + 1, x1, x5, x6, x7 => if x7 < (x1.length : Int) then (if 0 ≤ x7 then ((scope_Add.f x5 2 (⟨#[110]⟩ : ByteArray) (mx (mn (rd x1 x7) 2147483647) (-2147483648)) false false).bind fun t224 => (if (wrap64 (x6 + (mx (mn (rd x1 x7) 2147483647) (-2147483648)))) ≥ (-2147483648) then (fleuronlaw15_ScopeSums.j2 k x1 t224 x6 x7 (mx (mn (rd x1 x7) 2147483647) (-2147483648)) (decide ((wrap64 (x6 + (mx (mn (rd x1 x7) 2147483647) (-2147483648)))) < 2147483648))) else (fleuronlaw15_ScopeSums.j2 k x1 t224 x6 x7 (mx (mn (rd x1 x7) 2147483647) (-2147483648)) false))) else (none)) else ((fleuronlaw15_awake.f k).bind fun t222 => (some t222))
def fleuronlaw15_ScopeSums.j2 : Nat → List Int → List (S38) → Int → Int → Int → Bool → Option (Bool)
  | 0, _, _, _, _, _, _ => none
  | k + 1, x1, x5, x6, x7, x8, x52 => if x52 = true then ((scope_Value.f x5 (⟨#[110]⟩ : ByteArray)).bind fun bt227 => (if bt227.2 = true then (if bt227.1 = (wrap64 (x6 + x8)) then (if (x5.length : Int) = 1 then (fleuronlaw15_ScopeSums.l0 k x1 x5 (wrap64 (x6 + x8)) (wrap64 (x7 + 1))) else (some false)) else (some false)) else (some false))) else ((scope_Value.f x5 (⟨#[110]⟩ : ByteArray)).bind fun bt229 => (if bt229.2 = true then (if bt229.1 = x6 then (if (x5.length : Int) = 1 then (fleuronlaw15_ScopeSums.l0 k x1 x5 x6 (wrap64 (x7 + 1))) else (some false)) else (some false)) else (some false)))
end
def fleuronlaw15_ScopeSums.f (k : Nat) (a0 : Int) (l1 : List Int) : Option (Bool) := if (l1.length : Int) > 40 then (fleuronlaw15_ScopeSums.j0 k a0 l1 true) else (if a0 < (-2147483648) then (fleuronlaw15_ScopeSums.j0 k a0 l1 true) else (fleuronlaw15_ScopeSums.j0 k a0 l1 (decide (a0 ≥ 2147483648))))
theorem fleuronlaw15_ScopeSums.mono_l : ∀ k, (∀ y0 y1 y2, LeO (fleuronlaw15_ScopeSums.j0 k y0 y1 y2) (fleuronlaw15_ScopeSums.j0 (k + 1) y0 y1 y2)) ∧ (∀ y0 y1 y2 y3, LeO (fleuronlaw15_ScopeSums.l0 k y0 y1 y2 y3) (fleuronlaw15_ScopeSums.l0 (k + 1) y0 y1 y2 y3)) ∧ (∀ y0 y1 y2 y3 y4 y5, LeO (fleuronlaw15_ScopeSums.j2 k y0 y1 y2 y3 y4 y5) (fleuronlaw15_ScopeSums.j2 (k + 1) y0 y1 y2 y3 y4 y5))
  | 0 => ⟨fun _ _ _ r h => by simp [fleuronlaw15_ScopeSums.j0] at h, fun _ _ _ _ r h => by simp [fleuronlaw15_ScopeSums.l0] at h, fun _ _ _ _ _ _ r h => by simp [fleuronlaw15_ScopeSums.j2] at h⟩
  | k + 1 => by
    obtain ⟨ih0, ih1, ih2⟩ := fleuronlaw15_ScopeSums.mono_l k
    refine ⟨?_, ?_, ?_⟩
    · intro y0 y1 y2
      unfold fleuronlaw15_ScopeSums.j0
      repeat' first
      | (with_reducible exact ih0 _ _ _)
      | (with_reducible exact ih1 _ _ _ _)
      | (with_reducible exact ih2 _ _ _ _ _ _)
      | (with_reducible exact fleuronlaw15_awake.mono _)
      | (with_reducible exact scope_Reset.mono _ _ _ _ _ _ _ _)
      | (with_reducible exact LeO.refl _)
      | (with_reducible exact LeO.none _)
      | (with_reducible refine LeO.ite ?_ ?_)
      | (with_reducible refine LeO.bind ?_ (fun _ => ?_))
      | exact ih0 _ _ _
      | exact ih1 _ _ _ _
      | exact ih2 _ _ _ _ _ _
      | exact fleuronlaw15_awake.mono _
      | exact scope_Reset.mono _ _ _ _ _ _ _ _
      | exact LeO.none _
      | refine LeO.ite ?_ ?_
      | refine LeO.bind ?_ (fun _ => ?_)
    · intro y0 y1 y2 y3
      unfold fleuronlaw15_ScopeSums.l0
      repeat' first
      | (with_reducible exact ih0 _ _ _)
      | (with_reducible exact ih1 _ _ _ _)
      | (with_reducible exact ih2 _ _ _ _ _ _)
      | (with_reducible exact fleuronlaw15_awake.mono _)
      | (with_reducible exact scope_Reset.mono _ _ _ _ _ _ _ _)
      | (with_reducible exact LeO.refl _)
      | (with_reducible exact LeO.none _)
      | (with_reducible refine LeO.ite ?_ ?_)
      | (with_reducible refine LeO.bind ?_ (fun _ => ?_))
      | exact ih0 _ _ _
      | exact ih1 _ _ _ _
      | exact ih2 _ _ _ _ _ _
      | exact fleuronlaw15_awake.mono _
      | exact scope_Reset.mono _ _ _ _ _ _ _ _
      | exact LeO.none _
      | refine LeO.ite ?_ ?_
      | refine LeO.bind ?_ (fun _ => ?_)
    · intro y0 y1 y2 y3 y4 y5
      unfold fleuronlaw15_ScopeSums.j2
      repeat' first
      | (with_reducible exact ih0 _ _ _)
      | (with_reducible exact ih1 _ _ _ _)
      | (with_reducible exact ih2 _ _ _ _ _ _)
      | (with_reducible exact fleuronlaw15_awake.mono _)
      | (with_reducible exact scope_Reset.mono _ _ _ _ _ _ _ _)
      | (with_reducible exact LeO.refl _)
      | (with_reducible exact LeO.none _)
      | (with_reducible refine LeO.ite ?_ ?_)
      | (with_reducible refine LeO.bind ?_ (fun _ => ?_))
      | exact ih0 _ _ _
      | exact ih1 _ _ _ _
      | exact ih2 _ _ _ _ _ _
      | exact fleuronlaw15_awake.mono _
      | exact scope_Reset.mono _ _ _ _ _ _ _ _
      | exact LeO.none _
      | refine LeO.ite ?_ ?_
      | refine LeO.bind ?_ (fun _ => ?_)
theorem fleuronlaw15_ScopeSums.mono : ∀ a0 a1 k, LeO (fleuronlaw15_ScopeSums.f k a0 a1) (fleuronlaw15_ScopeSums.f (k + 1) a0 a1) := by
  intro a0 a1 k
  obtain ⟨ih0, ih1, ih2⟩ := fleuronlaw15_ScopeSums.mono_l k
  unfold fleuronlaw15_ScopeSums.f
  repeat' first
      | (with_reducible exact ih0 _ _ _)
      | (with_reducible exact ih1 _ _ _ _)
      | (with_reducible exact ih2 _ _ _ _ _ _)
      | (with_reducible exact fleuronlaw15_awake.mono _)
      | (with_reducible exact scope_Reset.mono _ _ _ _ _ _ _ _)
      | (with_reducible exact LeO.refl _)
      | (with_reducible exact LeO.none _)
      | (with_reducible refine LeO.ite ?_ ?_)
      | (with_reducible refine LeO.bind ?_ (fun _ => ?_))
      | exact ih0 _ _ _
      | exact ih1 _ _ _ _
      | exact ih2 _ _ _ _ _ _
      | exact fleuronlaw15_awake.mono _
      | exact scope_Reset.mono _ _ _ _ _ _ _ _
      | exact LeO.none _
      | refine LeO.ite ?_ ?_
      | refine LeO.bind ?_ (fun _ => ?_)
set_option maxHeartbeats 8000000 in
set_option maxRecDepth 100000 in
theorem fleuronlaw15_ScopeSums.calls (k : Nat) (a0 : Int) (A1 : Option Addr) (c1 : Nat) (l1 : List Int) (r : Bool) (w : World) (hr1 : Kd.C (Kd.int .i64) w A1 l1.length l1) (hc1 : l1.length ≤ c1) (h : fleuronlaw15_ScopeSums.f k a0 l1 = some r) (ht0_ : r = true) :
    Calls Try.prog 3 #[.int .i64 a0, .slice A1 l1.length c1] w fun e w' => e = .returned (.bool r) ∧ Below w.heap.size w w' := by
  have hu28 := Try.underlying28
  have HR1 := Aside0.mk hr1
  have HC1 := Aside0.mk hc1
  clear hr1 hc1
  have HB := Aside0.mk (Below.refl w.heap.size w)
  have H : (if (l1.length : Int) > 40 then (fleuronlaw15_ScopeSums.j0 k a0 l1 true) else (if a0 < (-2147483648) then (fleuronlaw15_ScopeSums.j0 k a0 l1 true) else (fleuronlaw15_ScopeSums.j0 k a0 l1 (decide (a0 ≥ 2147483648))))) = some r := h
  clear h
  have ht_ := Aside0.mk ht0_
  clear ht0_
  have HC3 := Aside0.mk H
  clear H
  go_enter Try.func3, Try.ntmps3
  go_upto_region 1 with (fail)
  go_cut [21] (fun v21 wc => ∃ (kq : Nat) (x21_2 : Bool), v21 = .bool x21_2 ∧ Aside0 (fleuronlaw15_ScopeSums.j0 kq a0 l1 x21_2 = some r) ∧ Aside0 (kq ≤ k) ∧ Aside0 (Below w.heap.size w wc))
  case first =>
    have H := HC3.out
    clear HC3
    by_cases c4 : (l1.length : Int) > 40
    · rw [if_pos c4] at H
      have c4b0 : decide (40 < (l1.length : Int)) = true := decide_eq_true c4
      have c4b1 : decide (40 < l1.length) = true := decide_eq_true (by omega)
      clear c4
      (first | rw [c4b0] | (simp only [i64_w, i32_w]; rw [c4b0]) | skip)
      have H' := Aside0.mk H
      clear H
      go_wp2
      go_meet
      case rel => exact ⟨_, (true), (by first | rfl | (simp; done) | (simp [*]; done)), H', ⟨by first | omega | exact Nat.le_refl _⟩, ⟨by repeat (first | (with_reducible first | exact HB.out | apply below_alloc | apply pw_below_drewN | apply below_drew1) | exact HB.out)⟩⟩
    · rw [if_neg c4] at H
      have c4b0 : decide (40 < (l1.length : Int)) = false := decide_eq_false c4
      have c4b1 : decide (40 < l1.length) = false := decide_eq_false (by omega)
      clear c4
      (first | rw [c4b0] | (simp only [i64_w, i32_w]; rw [c4b0]) | skip)
      by_cases c5 : a0 < (-2147483648)
      · rw [if_pos c5] at H
        have c5b0 : decide (a0 < (-2147483648)) = true := decide_eq_true c5
        clear c5
        have H' := Aside0.mk H
        clear H
        go_wp2
        go_meet
        case rel => exact ⟨_, (true), (by first | rfl | (simp; done) | (simp [*]; done)), H', ⟨by first | omega | exact Nat.le_refl _⟩, ⟨by repeat (first | (with_reducible first | exact HB.out | apply below_alloc | apply pw_below_drewN | apply below_drew1) | exact HB.out)⟩⟩
      · rw [if_neg c5] at H
        have c5b0 : decide (a0 < (-2147483648)) = false := decide_eq_false c5
        clear c5
        have H' := Aside0.mk H
        clear H
        go_wp2
        go_meet
        case rel => exact ⟨_, (decide (a0 ≥ 2147483648)), (by first | rfl | (simp; done) | (simp [*]; done)), H', ⟨by first | omega | exact Nat.le_refl _⟩, ⟨by repeat (first | (with_reducible first | exact HB.out | apply below_alloc | apply pw_below_drewN | apply below_drew1) | exact HB.out)⟩⟩
  case rest =>
    clear HC3
    try clear c1
    try clear p2
    try clear c3
    try clear c4
    try clear c4b0
    try clear c4b1
    try clear c5
    try clear c5b0
    obtain ⟨kq, x21_2, rfl, HA, HJ2, HB⟩ := hcut
    cases kq with
    | zero => exact absurd HA.out (by simp [fleuronlaw15_ScopeSums.j0])
    | succ kj2 =>
      have H := HA.out
      clear HA
      simp only [fleuronlaw15_ScopeSums.j0] at H
      by_cases c6 : x21_2 = true
      · subst c6
        have H1 : ((fleuronlaw15_awake.f kj2).bind fun t218 => (some t218)) = some r := by rw [if_pos rfl] at H; exact H
        clear H
        have H := H1
        clear H1
        replace H := Option.bind_eq_some_iff.mp H
        obtain ⟨t218, A70, H⟩ := H
        replace H : (some t218) = some r := H
        have A7 := Aside0.mk A70
        clear A70
        obtain rfl := Option.some.inj H
        go_wp2_with (first | ((with_reducible refine gate_callee (f := 6) rfl ?_); refine goesL_ (some 22) rfl rfl Try.func6 (by kernel_rfl) rfl #[] rfl (by (try simp only [List.map_toArray, List.map_cons, List.map_nil]); first | done | rfl | (simp only [List.length_drop, List.length_take]; rfl)) ?_; (with_reducible refine (fleuronlaw15_awake.calls kj2  t218 _ A7.out ht_.out).mono ?_); rintro e w8 ⟨rfl, hb⟩; refine ⟨_, rfl, ?_⟩; have n0_ := Aside0.mk (below_step (by repeat (first | (with_reducible first | exact HB.out | apply below_alloc | apply pw_below_drewN | apply below_drew1) | exact HB.out)) hb); clear HB; have HB := n0_; clear n0_; (try clear hb); (try clear hb2); (try clear hk); (try clear hi)))
        go_ret
        exact ⟨by first | rfl | (simp [errW_none, errW_some] <;> rfl) | (simp [*, errW_none, errW_some] <;> rfl), by repeat (first | (with_reducible first | exact HB.out | apply below_alloc | apply pw_below_drewN | apply below_drew1) | exact HB.out)⟩
      · replace c6 := Bool.eq_false_iff.mpr c6
        subst c6
        have H1 : ((scope_Reset.f kj2 ([] : List (S38)) 1 ([] : List Int) (⟨#[110]⟩ : ByteArray) a0 false false).bind fun t219 => (fleuronlaw15_ScopeSums.l0 kj2 l1 t219 a0 0)) = some r := by rw [if_neg (show ¬ (false = true) by decide)] at H; exact H
        clear H
        have H := H1
        clear H1
        replace H := Option.bind_eq_some_iff.mp H
        obtain ⟨t219, A90, H⟩ := H
        replace H : (fleuronlaw15_ScopeSums.l0 kj2 l1 t219 a0 0) = some r := H
        have A9 := Aside0.mk A90
        clear A90
        have H' := Aside0.mk H
        clear H
        go_wp2_with (first | ((with_reducible refine gate_callee (f := 7) rfl ?_); refine goesL_ (some 25) rfl rfl Try.func7 (by kernel_rfl) rfl #[.slice none 0 0, .int .i64 1, .slice none 0 0, .agg #[.string (⟨#[110]⟩ : ByteArray), .int .i64 a0, .bool false, .bool false]] rfl (by (try simp only [List.map_toArray, List.map_cons, List.map_nil]); first | done | rfl | (simp only [List.length_drop, List.length_take]; rfl)) ?_; (refine (scope_Reset.calls kj2 _ _ ([] : List (S38)) 1 _ _ ([] : List Int) (⟨#[110]⟩ : ByteArray) a0 false false t219 _ ?side1 ?side2 ?side3 ?side4 A9.out).mono ?_); (case side1 => exact Kd.C_nil _ _); (case side2 => exact Nat.le_refl _); (case side3 => exact Kd.C_nil _ _); (case side4 => exact Nat.le_refl _); rintro e w10 ⟨v220, rfl, ho0, hb⟩; refine ⟨_, rfl, ?_⟩; have n0_ := Aside0.mk (Kd.R_lower ho0 (below_size (by repeat (first | (with_reducible first | exact HB.out | apply below_alloc | apply pw_below_drewN | apply below_drew1) | exact HB.out)))); have n1_ := Aside0.mk (below_step (by repeat (first | (with_reducible first | exact HB.out | apply below_alloc | apply pw_below_drewN | apply below_drew1) | exact HB.out)) hb); clear HB; have HO221 := n0_; have HB := n1_; clear n0_ n1_; (try clear hb); (try clear hb2); (try clear hk); (try clear hi); (try clear ho0)))
        go_loopg [5, 6, 7] kj2 (fun kq v5 v6 v7 w' => ∃ (x5_2 : List (S38)) (x6_2 : Int) (x7_2 : Int), v6 = .int .i64 x6_2 ∧ v7 = .int .i64 x7_2 ∧ Aside0 (fleuronlaw15_ScopeSums.l0 kq l1 x5_2 x6_2 x7_2 = some r) ∧ Aside0 (kq ≤ kj2) ∧ Aside0 (Kd.R k38 38 w' w.heap.size (fun _ => True) v5 x5_2) ∧ Aside0 (Below w.heap.size w w'))
        case atStart => exact ⟨(t219), (a0), (0), (by first | rfl | (simp; done) | (simp [*]; done)), (by first | rfl | (simp; done) | (simp [*]; done)), H', ⟨Nat.le_refl _⟩, ⟨by (with_reducible repeat (first | apply Kd.R_alloc | apply Kd.R_drewN | apply Kd.R_drew)); exact HO221.out⟩, ⟨by repeat (first | (with_reducible first | exact HB.out | apply below_alloc | apply pw_below_drewN | apply below_drew1) | exact HB.out)⟩⟩
        case round =>
          clear H'
          try clear c1
          try clear p2
          try clear c3
          try clear c4
          try clear c4b0
          try clear c4b1
          try clear c5
          try clear c5b0
          try clear c6
          try clear c7
          try clear p2
          obtain ⟨x5_2, x6_2, x7_2, rfl, rfl, HA, HK2, HO_5, HB⟩ := hrel
          cases gk with
          | zero => exact absurd HA.out (by simp [fleuronlaw15_ScopeSums.l0])
          | succ k2 =>
            have H := HA.out
            clear HA
            simp only [fleuronlaw15_ScopeSums.l0] at H
            by_cases c11 : x7_2 < (l1.length : Int)
            · rw [if_pos c11] at H
              have c11b0 : decide (x7_2 < (l1.length : Int)) = true := decide_eq_true c11
              clear c11
              by_cases c12 : 0 ≤ x7_2
              · rw [if_pos c12] at H
                have c12b0 : decide (0 ≤ x7_2) = true := decide_eq_true c12
                clear c12
                obtain ⟨ji13, hji13⟩ : ∃ j_ : Int, (mn (rd l1 x7_2) 2147483647) = j_ := ⟨_, rfl⟩
                replace H : ((scope_Add.f x5_2 2 (⟨#[110]⟩ : ByteArray) (mx (ji13) (-2147483648)) false false).bind fun t224 => (if (wrap64 (x6_2 + (mx (ji13) (-2147483648)))) ≥ (-2147483648) then (fleuronlaw15_ScopeSums.j2 k2 l1 t224 x6_2 x7_2 (mx (ji13) (-2147483648)) (decide ((wrap64 (x6_2 + (mx (ji13) (-2147483648)))) < 2147483648))) else (fleuronlaw15_ScopeSums.j2 k2 l1 t224 x6_2 x7_2 (mx (ji13) (-2147483648)) false))) = some r := by first | (rw [hji13] at H; exact H) | (simp only [hji13] at H ⊢; exact H)
                have hji13_ : (if 2147483647 < (rd l1 x7_2) then 2147483647 else (rd l1 x7_2)) = ji13 := hji13
                obtain ⟨ji14, hji14⟩ : ∃ j_ : Int, (mx (ji13) (-2147483648)) = j_ := ⟨_, rfl⟩
                replace H : ((scope_Add.f x5_2 2 (⟨#[110]⟩ : ByteArray) (ji14) false false).bind fun t224 => (if (wrap64 (x6_2 + (ji14))) ≥ (-2147483648) then (fleuronlaw15_ScopeSums.j2 k2 l1 t224 x6_2 x7_2 ji14 (decide ((wrap64 (x6_2 + (ji14))) < 2147483648))) else (fleuronlaw15_ScopeSums.j2 k2 l1 t224 x6_2 x7_2 ji14 false))) = some r := by first | (rw [hji14] at H; exact H) | (simp only [hji14] at H ⊢; exact H)
                have hji14_ : (if (ji13) < (-2147483648) then (-2147483648) else (ji13)) = ji14 := hji14
                replace H := Option.bind_eq_some_iff.mp H
                obtain ⟨t224, A150, H⟩ := H
                replace H : (if (wrap64 (x6_2 + (ji14))) ≥ (-2147483648) then (fleuronlaw15_ScopeSums.j2 k2 l1 t224 x6_2 x7_2 ji14 (decide ((wrap64 (x6_2 + (ji14))) < 2147483648))) else (fleuronlaw15_ScopeSums.j2 k2 l1 t224 x6_2 x7_2 ji14 false)) = some r := H
                have A15 := Aside0.mk A150
                clear A150
                have HC16 := Aside0.mk H
                clear H
                have p223 : 0 ≤ (x7_2 : Int) := of_decide_eq_true (by first | (with_reducible assumption) | assumption)
                have q223 : x7_2 < (l1.length : Int) := of_decide_eq_true (by first | (with_reducible assumption) | assumption)
                obtain ⟨ad223, e223, hx223_0⟩ := Kd.at_int HR1.out x7_2 p223 q223
                cases e223
                replace hx223_0 := (HB.out.cell (World.block_lt_of_cell? w _ hx223_0)).trans hx223_0
                replace p223 := eq_true p223
                replace q223 := eq_true q223
                obtain ⟨Ao17, co17, eo17⟩ := Kd.R_slice HO_5.out
                subst eo17
                go_upto_region 10 with (first | ((with_reducible refine gate_callee (f := 8) rfl ?_); refine goesL_ (some 42) rfl rfl Try.func8 (by kernel_rfl) rfl #[.slice Ao17 x5_2.length co17, .int .i64 2, .agg #[.string (⟨#[110]⟩ : ByteArray), .int .i64 ji14, .bool false, .bool false]] rfl (by (try simp only [List.map_toArray, List.map_cons, List.map_nil]); first | done | (simp only [hji14]; rfl) | rfl | (simp only [List.length_drop, List.length_take]; rfl)) ?_; (with_reducible refine (scope_Add.calls _ _ x5_2 2 (⟨#[110]⟩ : ByteArray) ji14 false false t224 _ ?side1 ?side2 A15.out).mono ?_); (case side1 => repeat (first | exact (Kd.R_reads' HO_5.out).2.2 | (with_reducible refine Kd.C_alloc ?_ _) | (with_reducible refine Kd.C_drewN ?_ _) | (with_reducible refine Kd.C_drew ?_))); (case side2 => exact (Kd.R_reads' HO_5.out).2.1); rintro e w18 ⟨v225, rfl, ho0, hb⟩; refine ⟨_, rfl, ?_⟩; have n0_ := Aside0.mk (Kd.R_elder' (by (with_reducible repeat (first | apply Kd.R_alloc | apply Kd.R_drewN | apply Kd.R_drew)); exact HO_5.out) (Kd.R_base ho0) hb); have n1_ := Aside0.mk (Kd.R_lower (Kd.R_new' ho0 (Kd.R_lt (by (with_reducible repeat (first | apply Kd.R_alloc | apply Kd.R_drewN | apply Kd.R_drew)); exact HO_5.out))) (below_size (by repeat (first | (with_reducible first | exact HB.out | apply below_alloc | apply pw_below_drewN | apply below_drew1) | exact HB.out)))); have n2_ := Aside0.mk (below_step (by repeat (first | (with_reducible first | exact HB.out | apply below_alloc | apply pw_below_drewN | apply below_drew1) | exact HB.out)) hb); clear HO_5; clear HB; have HO_5 := n0_; have HO226 := n1_; have HB := n2_; clear n0_ n1_ n2_; (try clear hb); (try clear hb2); (try clear hk); (try clear hi); (try clear ho0)))
                (try simp only [Act.put, List.setIfInBounds_toArray, List.set_cons_zero, List.set_cons_succ])
                go_cut [52] (fun v52 wc => ∃ (kq : Nat) (x52_15 : Bool), v52 = .bool x52_15 ∧ Aside0 (fleuronlaw15_ScopeSums.j2 kq l1 t224 x6_2 x7_2 ji14 x52_15 = some r) ∧ Aside0 (kq ≤ k2) ∧ Aside0 (Kd.R k38 38 wc w.heap.size (fun _ => True) v225 t224) ∧ Aside0 (Below w.heap.size w wc))
                case first =>
                  have H := HC16.out
                  clear HC16
                  by_cases c19 : (wrap64 (x6_2 + (ji14))) ≥ (-2147483648)
                  · rw [if_pos c19] at H
                    have c19b0 : decide ((-2147483648) ≤ (wrap64 (x6_2 + (ji14)))) = true := decide_eq_true c19
                    clear c19
                    (first | rw [c19b0] | (simp only [i64_w, i32_w]; rw [c19b0]) | skip)
                    have H' := Aside0.mk H
                    clear H
                    go_wp2
                    go_meet
                    case rel => exact ⟨_, (decide ((wrap64 (x6_2 + (ji14))) < 2147483648)), (by first | rfl | (simp; done) | (simp only [← hji14] <;> (first | rfl | simp)) | (simp [*]; done)), H', ⟨by have := HJ2.out; have := HK2.out; first | omega | exact Nat.le_refl _⟩, ⟨by (with_reducible repeat (first | apply Kd.R_alloc | apply Kd.R_drewN | apply Kd.R_drew)); exact Kd.R_mono HO226.out (fun _ hk => by first | exact trivial | simp [hk])⟩, ⟨by repeat (first | (with_reducible first | exact HB.out | apply below_alloc | apply pw_below_drewN | apply below_drew1) | exact HB.out)⟩⟩
                  · rw [if_neg c19] at H
                    have c19b0 : decide ((-2147483648) ≤ (wrap64 (x6_2 + (ji14)))) = false := decide_eq_false c19
                    clear c19
                    (first | rw [c19b0] | (simp only [i64_w, i32_w]; rw [c19b0]) | skip)
                    have H' := Aside0.mk H
                    clear H
                    go_wp2
                    go_meet
                    case rel => exact ⟨_, (false), (by first | rfl | (simp; done) | (simp [*]; done)), H', ⟨by have := HJ2.out; have := HK2.out; first | omega | exact Nat.le_refl _⟩, ⟨by (with_reducible repeat (first | apply Kd.R_alloc | apply Kd.R_drewN | apply Kd.R_drew)); exact Kd.R_mono HO226.out (fun _ hk => by first | exact trivial | simp [hk])⟩, ⟨by repeat (first | (with_reducible first | exact HB.out | apply below_alloc | apply pw_below_drewN | apply below_drew1) | exact HB.out)⟩⟩
                case rest =>
                  clear HC16
                  try clear c1
                  try clear p2
                  try clear q2
                  try clear hx2
                  try clear c3
                  try clear c4
                  try clear c4b0
                  try clear c4b1
                  try clear c5
                  try clear c5b0
                  try clear c6
                  try clear p6
                  try clear c7
                  try clear c8
                  try clear c11
                  try clear c11b0
                  try clear c12
                  try clear c12b0
                  try clear c19
                  try clear c19b0
                  try clear hx223_0
                  try clear p2
                  try clear p223
                  try clear q223
                  obtain ⟨kq, x52_15, rfl, HA, HJ15, HO_5, HB⟩ := hcut
                  cases kq with
                  | zero => exact absurd HA.out (by simp [fleuronlaw15_ScopeSums.j2])
                  | succ kj15 =>
                    have H := HA.out
                    clear HA
                    simp only [fleuronlaw15_ScopeSums.j2] at H
                    by_cases c20 : x52_15 = true
                    · subst c20
                      have H1 : ((scope_Value.f t224 (⟨#[110]⟩ : ByteArray)).bind fun bt227 => (if bt227.2 = true then (if bt227.1 = (wrap64 (x6_2 + ji14)) then (if (t224.length : Int) = 1 then (fleuronlaw15_ScopeSums.l0 kj15 l1 t224 (wrap64 (x6_2 + ji14)) (wrap64 (x7_2 + 1))) else (some false)) else (some false)) else (some false))) = some r := by rw [if_pos rfl] at H; exact H
                      clear H
                      have H := H1
                      clear H1
                      replace H := Option.bind_eq_some_iff.mp H
                      obtain ⟨⟨t227, t228⟩, A210, H⟩ := H
                      replace H : (if t228 = true then (if t227 = (wrap64 (x6_2 + ji14)) then (if (t224.length : Int) = 1 then (fleuronlaw15_ScopeSums.l0 kj15 l1 t224 (wrap64 (x6_2 + ji14)) (wrap64 (x7_2 + 1))) else (some false)) else (some false)) else (some false)) = some r := H
                      have A21 := Aside0.mk A210
                      clear A210
                      by_cases c22 : t228 = true
                      · subst c22
                        have H1 : (if t227 = (wrap64 (x6_2 + ji14)) then (if (t224.length : Int) = 1 then (fleuronlaw15_ScopeSums.l0 kj15 l1 t224 (wrap64 (x6_2 + ji14)) (wrap64 (x7_2 + 1))) else (some false)) else (some false)) = some r := by rw [if_pos rfl] at H; exact H
                        clear H
                        have H := H1
                        clear H1
                        by_cases c23 : t227 = (wrap64 (x6_2 + ji14))
                        · rw [if_pos c23] at H
                          have c23b0 : (t227 == (wrap64 (x6_2 + ji14))) = true := beq_iff_eq.mpr c23
                          have c23b1 : (t227 != (wrap64 (x6_2 + ji14))) = false := bne_eq_false_iff_eq.mpr c23
                          clear c23
                          by_cases c24 : (t224.length : Int) = 1
                          · rw [if_pos c24] at H
                            have c24b0 : ((t224.length : Int) == 1) = true := beq_iff_eq.mpr c24
                            have c24b1 : ((t224.length : Int) != 1) = false := bne_eq_false_iff_eq.mpr c24
                            clear c24
                            have H' := Aside0.mk H
                            clear H
                            obtain ⟨Ao25, co25, eo25⟩ := Kd.R_slice HO_5.out
                            subst eo25
                            go_wp2_with (first | ((with_reducible refine gate_callee (f := 9) rfl ?_); refine goesL_ (some 58) rfl rfl Try.func9 (by kernel_rfl) rfl #[.slice Ao25 t224.length co25, .string (⟨#[110]⟩ : ByteArray)] rfl (by (try simp only [List.map_toArray, List.map_cons, List.map_nil]); first | done | rfl | (simp only [List.length_drop, List.length_take]; rfl)) ?_; (with_reducible refine (scope_Value.calls _ _ t224 (⟨#[110]⟩ : ByteArray) t227 true _ ?side1 ?side2 A21.out).mono ?_); (case side1 => repeat (first | exact (Kd.R_reads' HO_5.out).2.2 | (with_reducible refine Kd.C_alloc ?_ _) | (with_reducible refine Kd.C_drewN ?_ _) | (with_reducible refine Kd.C_drew ?_))); (case side2 => exact (Kd.R_reads' HO_5.out).2.1); rintro e w26 ⟨rfl, hb⟩; refine ⟨_, rfl, ?_⟩; have n0_ := Aside0.mk (Kd.R_below (by (with_reducible repeat (first | apply Kd.R_alloc | apply Kd.R_drewN | apply Kd.R_drew)); exact HO_5.out) hb); have n1_ := Aside0.mk (below_step (by repeat (first | (with_reducible first | exact HB.out | apply below_alloc | apply pw_below_drewN | apply below_drew1) | exact HB.out)) hb); clear HO_5; clear HB; have HO_5 := n0_; have HB := n1_; clear n0_ n1_; (try clear hb); (try clear hb2); (try clear hk); (try clear hi)))
                            go_roundg kj15
                            case measure => have := HJ2.out; have := HK2.out; have := HJ15.out; omega
                            case rel => exact ⟨(t224), (wrap64 (x6_2 + ji14)), (wrap64 (x7_2 + 1)), (by first | rfl | (simp; done) | (simp only [← hji14] <;> (first | rfl | simp)) | (simp [*]; done)), (by first | rfl | (simp; done) | (simp [*]; done)), H', ⟨by have := HJ2.out; have := HK2.out; have := HJ15.out; omega⟩, ⟨by (with_reducible repeat (first | apply Kd.R_alloc | apply Kd.R_drewN | apply Kd.R_drew)); exact HO_5.out⟩, ⟨by repeat (first | (with_reducible first | exact HB.out | apply below_alloc | apply pw_below_drewN | apply below_drew1) | exact HB.out)⟩⟩
                          · rw [if_neg c24] at H
                            have c24b0 : ((t224.length : Int) == 1) = false := beq_eq_false_iff_ne.mpr c24
                            have c24b1 : ((t224.length : Int) != 1) = true := bne_iff_ne.mpr c24
                            exact absurd ((Option.some.inj H).trans ht_.out) (by decide)
                        · rw [if_neg c23] at H
                          have c23b0 : (t227 == (wrap64 (x6_2 + ji14))) = false := beq_eq_false_iff_ne.mpr c23
                          have c23b1 : (t227 != (wrap64 (x6_2 + ji14))) = true := bne_iff_ne.mpr c23
                          exact absurd ((Option.some.inj H).trans ht_.out) (by decide)
                      · replace c22 := Bool.eq_false_iff.mpr c22
                        subst c22
                        have H1 : (some false) = some r := by rw [if_neg (show ¬ (false = true) by decide)] at H; exact H
                        clear H
                        have H := H1
                        clear H1
                        exact absurd ((Option.some.inj H).trans ht_.out) (by decide)
                    · replace c20 := Bool.eq_false_iff.mpr c20
                      subst c20
                      have H1 : ((scope_Value.f t224 (⟨#[110]⟩ : ByteArray)).bind fun bt229 => (if bt229.2 = true then (if bt229.1 = x6_2 then (if (t224.length : Int) = 1 then (fleuronlaw15_ScopeSums.l0 kj15 l1 t224 x6_2 (wrap64 (x7_2 + 1))) else (some false)) else (some false)) else (some false))) = some r := by rw [if_neg (show ¬ (false = true) by decide)] at H; exact H
                      clear H
                      have H := H1
                      clear H1
                      replace H := Option.bind_eq_some_iff.mp H
                      obtain ⟨⟨t229, t230⟩, A270, H⟩ := H
                      replace H : (if t230 = true then (if t229 = x6_2 then (if (t224.length : Int) = 1 then (fleuronlaw15_ScopeSums.l0 kj15 l1 t224 x6_2 (wrap64 (x7_2 + 1))) else (some false)) else (some false)) else (some false)) = some r := H
                      have A27 := Aside0.mk A270
                      clear A270
                      by_cases c28 : t230 = true
                      · subst c28
                        have H1 : (if t229 = x6_2 then (if (t224.length : Int) = 1 then (fleuronlaw15_ScopeSums.l0 kj15 l1 t224 x6_2 (wrap64 (x7_2 + 1))) else (some false)) else (some false)) = some r := by rw [if_pos rfl] at H; exact H
                        clear H
                        have H := H1
                        clear H1
                        by_cases c29 : t229 = x6_2
                        · rw [if_pos c29] at H
                          have c29b0 : (t229 == x6_2) = true := beq_iff_eq.mpr c29
                          have c29b1 : (t229 != x6_2) = false := bne_eq_false_iff_eq.mpr c29
                          clear c29
                          by_cases c30 : (t224.length : Int) = 1
                          · rw [if_pos c30] at H
                            have c30b0 : ((t224.length : Int) == 1) = true := beq_iff_eq.mpr c30
                            have c30b1 : ((t224.length : Int) != 1) = false := bne_eq_false_iff_eq.mpr c30
                            clear c30
                            have H' := Aside0.mk H
                            clear H
                            obtain ⟨Ao31, co31, eo31⟩ := Kd.R_slice HO_5.out
                            subst eo31
                            go_wp2_with (first | ((with_reducible refine gate_callee (f := 9) rfl ?_); refine goesL_ (some 58) rfl rfl Try.func9 (by kernel_rfl) rfl #[.slice Ao31 t224.length co31, .string (⟨#[110]⟩ : ByteArray)] rfl (by (try simp only [List.map_toArray, List.map_cons, List.map_nil]); first | done | rfl | (simp only [List.length_drop, List.length_take]; rfl)) ?_; (with_reducible refine (scope_Value.calls _ _ t224 (⟨#[110]⟩ : ByteArray) t229 true _ ?side1 ?side2 A27.out).mono ?_); (case side1 => repeat (first | exact (Kd.R_reads' HO_5.out).2.2 | (with_reducible refine Kd.C_alloc ?_ _) | (with_reducible refine Kd.C_drewN ?_ _) | (with_reducible refine Kd.C_drew ?_))); (case side2 => exact (Kd.R_reads' HO_5.out).2.1); rintro e w32 ⟨rfl, hb⟩; refine ⟨_, rfl, ?_⟩; have n0_ := Aside0.mk (Kd.R_below (by (with_reducible repeat (first | apply Kd.R_alloc | apply Kd.R_drewN | apply Kd.R_drew)); exact HO_5.out) hb); have n1_ := Aside0.mk (below_step (by repeat (first | (with_reducible first | exact HB.out | apply below_alloc | apply pw_below_drewN | apply below_drew1) | exact HB.out)) hb); clear HO_5; clear HB; have HO_5 := n0_; have HB := n1_; clear n0_ n1_; (try clear hb); (try clear hb2); (try clear hk); (try clear hi)))
                            go_roundg kj15
                            case measure => have := HJ2.out; have := HK2.out; have := HJ15.out; omega
                            case rel => exact ⟨(t224), (x6_2), (wrap64 (x7_2 + 1)), (by first | rfl | (simp; done) | (simp [*]; done)), (by first | rfl | (simp; done) | (simp [*]; done)), H', ⟨by have := HJ2.out; have := HK2.out; have := HJ15.out; omega⟩, ⟨by (with_reducible repeat (first | apply Kd.R_alloc | apply Kd.R_drewN | apply Kd.R_drew)); exact HO_5.out⟩, ⟨by repeat (first | (with_reducible first | exact HB.out | apply below_alloc | apply pw_below_drewN | apply below_drew1) | exact HB.out)⟩⟩
                          · rw [if_neg c30] at H
                            have c30b0 : ((t224.length : Int) == 1) = false := beq_eq_false_iff_ne.mpr c30
                            have c30b1 : ((t224.length : Int) != 1) = true := bne_iff_ne.mpr c30
                            exact absurd ((Option.some.inj H).trans ht_.out) (by decide)
                        · rw [if_neg c29] at H
                          have c29b0 : (t229 == x6_2) = false := beq_eq_false_iff_ne.mpr c29
                          have c29b1 : (t229 != x6_2) = true := bne_iff_ne.mpr c29
                          exact absurd ((Option.some.inj H).trans ht_.out) (by decide)
                      · replace c28 := Bool.eq_false_iff.mpr c28
                        subst c28
                        have H1 : (some false) = some r := by rw [if_neg (show ¬ (false = true) by decide)] at H; exact H
                        clear H
                        have H := H1
                        clear H1
                        exact absurd ((Option.some.inj H).trans ht_.out) (by decide)
              · rw [if_neg c12] at H
                exact absurd H (by simp)
            · rw [if_neg c11] at H
              have c11b0 : decide (x7_2 < (l1.length : Int)) = false := decide_eq_false c11
              clear c11
              replace H := Option.bind_eq_some_iff.mp H
              obtain ⟨t222, A330, H⟩ := H
              replace H : (some t222) = some r := H
              have A33 := Aside0.mk A330
              clear A330
              obtain rfl := Option.some.inj H
              go_wp2_with (first | ((with_reducible refine gate_callee (f := 6) rfl ?_); refine goesL_ (some 73) rfl rfl Try.func6 (by kernel_rfl) rfl #[] rfl (by (try simp only [List.map_toArray, List.map_cons, List.map_nil]); first | done | rfl | (simp only [List.length_drop, List.length_take]; rfl)) ?_; (with_reducible refine (fleuronlaw15_awake.calls k2  t222 _ A33.out ht_.out).mono ?_); rintro e w34 ⟨rfl, hb⟩; refine ⟨_, rfl, ?_⟩; have n0_ := Aside0.mk (Kd.R_below (by (with_reducible repeat (first | apply Kd.R_alloc | apply Kd.R_drewN | apply Kd.R_drew)); exact HO_5.out) hb); have n1_ := Aside0.mk (below_step (by repeat (first | (with_reducible first | exact HB.out | apply below_alloc | apply pw_below_drewN | apply below_drew1) | exact HB.out)) hb); clear HO_5; clear HB; have HO_5 := n0_; have HB := n1_; clear n0_ n1_; (try clear hb); (try clear hb2); (try clear hk); (try clear hi)))
              go_ret
              exact ⟨by first | rfl | (simp [errW_none, errW_some] <;> rfl) | (simp [*, errW_none, errW_some] <;> rfl), by repeat (first | (with_reducible first | exact HB.out | apply below_alloc | apply pw_below_drewN | apply below_drew1) | exact HB.out)⟩

/-- THE ONE PURE STATEMENT of fleuronlaw15_ScopeSums: yours. -/
def fleuronlaw15_ScopeSums.Pure : Prop := ∀ (a0 : Int) (l1 : List Int), (Lit.int .i64 a0).wf = true → l1.length ≤ maxLen → l1.length * 8 ≤ 140737488351232 → (∀ x ∈ l1, (Lit.int .i64 x).wf = true) → ∃ k, fleuronlaw15_ScopeSums.f k a0 l1 = some true
theorem fleuronlaw15_ScopeSums.walk (P : fleuronlaw15_ScopeSums.Pure) (a0 : Int) (a1 : Option Addr) (len1 cap1 : Nat) (z1 : List Int) (w : World) (w0 : (Lit.int .i64 a0).wf = true) (w1 : (a1 = none ∧ len1 = 0 ∧ cap1 = 0 ∧ z1 = []) ∨ ∃ x, a1 = some x ∧ len1 ≤ cap1 ∧ cap1 ≤ maxLen ∧ z1.length = cap1 ∧ (∀ i, i < z1.length → w.cell? (x.add i) = some (.int .i64 (z1.getD i 0))) ∧ ∀ n ∈ z1, (Lit.int .i64 n).wf = true) (y1 : len1 * 8 ≤ 140737488351232) :
    Calls Try.prog 3 #[.int .i64 a0, .slice a1 len1 cap1] w fun e w' => e = .returned (.bool true) ∧ Below w.heap.size w w' := by
  obtain ⟨l1, rfl, hr1, hm1, hw1, hc1⟩ := ReadsInt.ofRowC w1
  obtain ⟨k, h⟩ := P a0 l1 w0 hm1 y1 hw1
  refine (fleuronlaw15_ScopeSums.calls k a0 _ _ l1 true w (Kd.C_of_reads (d := (0 : Int)) (h1 := fun _ => rfl) hr1) hc1 h rfl).mono ?_
  rintro e w' ⟨rfl, hd⟩
  exact ⟨rfl, hd⟩

/-! ### fleuronalike_Round: function 11 -/
def fleuronalike_Round.f (a0 : Int) (a1 : Int) : Option (Int) := if a1 = 0 then (none) else (some (Int.tmod (wrap64 ((Int.tmod a0 a1) + a1)) a1))
set_option maxHeartbeats 8000000 in
set_option maxRecDepth 100000 in
theorem fleuronalike_Round.calls (a0 : Int) (a1 : Int) (r : Int) (w : World) (h : fleuronalike_Round.f a0 a1 = some r) :
    Calls Try.prog 11 #[.int .i64 a0, .int .i64 a1] w fun e w' => e = .returned (.int .i64 r) ∧ Drawn0 w w' := by
  have H : (if a1 = 0 then (none) else (some (Int.tmod (wrap64 ((Int.tmod a0 a1) + a1)) a1))) = some r := h
  clear h
  by_cases c3 : a1 = 0
  · rw [if_pos c3] at H
    exact absurd H (by simp)
  · rw [if_neg c3] at H
    have c3b0 : (a1 == 0) = false := beq_eq_false_iff_ne.mpr c3
    have c3b1 : (a1 != 0) = true := bne_iff_ne.mpr c3
    obtain rfl := Option.some.inj H
    go_enter Try.func11, Try.ntmps11
    go_wp2
    go_ret
    exact ⟨by first | rfl | (simp; done) | (simp [*]; done), by repeat (first | exact Drawn0.refl _ | apply Drawn0.step)⟩

end Go.Proofs.Ytejkbdlegnobcaa.Print
