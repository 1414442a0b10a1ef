/- Written by a program of this session out of the translation, with contracts given by hand beside. -/
import Derived.Test.YtejkbdlegnobcaaPrint0
import Derived.Test.YtejkbdlegnobcaaPrint2
import Derived.Test.YtejkbdlegnobcaaPrint4
import Derived.Test.YtejkbdlegnobcaaPrint5
import Derived.Test.YtejkbdlegnobcaaPrint6
namespace Go.Proofs.Ytejkbdlegnobcaa.Print
open Go.RowKit Go.Proofs.YtejkbdlegnobcaaW.PrintWords Go.Proofs.YtejkbdlegnobcaaW.PrintLast Go.Proofs.YtejkbdlegnobcaaW.PrintMore
attribute [local go_sem] max2_int min2_int max_two min_two max_three min_three max_four min_four   -- for this text's walks alone
set_option linter.unusedVariables false
set_option linter.unusedSimpArgs false

/-! ### scope_Reset: function 7 -/
mutual
def scope_Reset.j0 : Nat → Int → List (S38) → Int → Bool → ByteArray → Int → Bool → Bool → Option ((List (S38)))
  | 0, _, _, _, _, _, _, _, _ => none
  | k + 1, x1, x9, x10, x37, x104000, x104001, x104002, x104003 => if x37 = true then ((scope_Counter_23.f x9 x10 (wrap64 (x10 + 1))).bind fun t111 => (scope_Reset.j1 k x1 t111 x104000 x104001 x104002 x104003)) else (scope_Reset.j1 k x1 x9 x104000 x104001 x104002 x104003)
def scope_Reset.j1 : Nat → Int → List (S38) → ByteArray → Int → Bool → Bool → Option ((List (S38)))
  | 0, _, _, _, _, _, _ => none
  | k + 1, x1, x9, x104000, x104001, x104002, x104003 => if x104003 = true then (scope_Reset.j2 k x9 x104000 x1 0 x104002) else (scope_Reset.j2 k x9 x104000 x1 x104001 x104002)
def scope_Reset.j2 : Nat → List (S38) → ByteArray → Int → Int → Bool → Option ((List (S38)))
  | 0, _, _, _, _, _ => none
  | k + 1, x9, x115000, x115001, x115002, x115003 => if x9.length < 3518437208883 then (some (x9 ++ [(⟨x115000, x115001, x115002, x115003⟩ : S38)])) else (none)
end
def scope_Reset.f (k : Nat) (l0 : List (S38)) (a1 : Int) (l2 : List Int) (a3_0 : ByteArray) (a3_1 : Int) (a3_2 : Bool) (a3_3 : Bool) : Option ((List (S38))) := (scope_Counter_20.f l0).bind fun t104 => ((scope_inner.f t104 a3_0).bind fun t107 => (if t107 ≥ 0 then (if 0 ≤ t107 then (if t107 < (t104.length : Int) then (if ((rd_T38 t104 t107).f1) = a1 then (scope_Reset.j0 k a1 t104 t107 true a3_0 a3_1 a3_2 a3_3) else ((slices_Contains_int_int.f k l2 ((rd_T38 t104 t107).f1)).bind fun t110 => (scope_Reset.j0 k a1 t104 t107 t110 a3_0 a3_1 a3_2 a3_3))) else (none)) else (none)) else (scope_Reset.j0 k a1 t104 t107 false a3_0 a3_1 a3_2 a3_3)))
theorem scope_Reset.mono_l : ∀ k, (∀ y0 y1 y2 y3 y4 y5 y6 y7, LeO (scope_Reset.j0 k y0 y1 y2 y3 y4 y5 y6 y7) (scope_Reset.j0 (k + 1) y0 y1 y2 y3 y4 y5 y6 y7)) ∧ (∀ y0 y1 y2 y3 y4 y5, LeO (scope_Reset.j1 k y0 y1 y2 y3 y4 y5) (scope_Reset.j1 (k + 1) y0 y1 y2 y3 y4 y5)) ∧ (∀ y0 y1 y2 y3 y4, LeO (scope_Reset.j2 k y0 y1 y2 y3 y4) (scope_Reset.j2 (k + 1) y0 y1 y2 y3 y4))
  | 0 => ⟨fun _ _ _ _ _ _ _ _ r h => by simp [scope_Reset.j0] at h, fun _ _ _ _ _ _ r h => by simp [scope_Reset.j1] at h, fun _ _ _ _ _ r h => by simp [scope_Reset.j2] at h⟩
  | k + 1 => by
    obtain ⟨ih0, ih1, ih2⟩ := scope_Reset.mono_l k
    refine ⟨?_, ?_, ?_⟩
    · intro y0 y1 y2 y3 y4 y5 y6 y7
      unfold scope_Reset.j0
      repeat' first
      | (with_reducible exact ih0 _ _ _ _ _ _ _ _)
      | (with_reducible exact ih1 _ _ _ _ _ _)
      | (with_reducible exact ih2 _ _ _ _ _)
      | (with_reducible exact slices_Contains_int_int.mono _ _ _)
      | (with_reducible exact LeO.refl _)
      | (with_reducible exact LeO.none _)
      | (with_reducible refine LeO.ite ?_ ?_)
      | (with_reducible refine LeO.bind ?_ (fun _ => ?_))
      | exact ih0 _ _ _ _ _ _ _ _
      | exact ih1 _ _ _ _ _ _
      | exact ih2 _ _ _ _ _
      | exact slices_Contains_int_int.mono _ _ _
      | exact LeO.none _
      | refine LeO.ite ?_ ?_
      | refine LeO.bind ?_ (fun _ => ?_)
    · intro y0 y1 y2 y3 y4 y5
      unfold scope_Reset.j1
      repeat' first
      | (with_reducible exact ih0 _ _ _ _ _ _ _ _)
      | (with_reducible exact ih1 _ _ _ _ _ _)
      | (with_reducible exact ih2 _ _ _ _ _)
      | (with_reducible exact slices_Contains_int_int.mono _ _ _)
      | (with_reducible exact LeO.refl _)
      | (with_reducible exact LeO.none _)
      | (with_reducible refine LeO.ite ?_ ?_)
      | (with_reducible refine LeO.bind ?_ (fun _ => ?_))
      | exact ih0 _ _ _ _ _ _ _ _
      | exact ih1 _ _ _ _ _ _
      | exact ih2 _ _ _ _ _
      | exact slices_Contains_int_int.mono _ _ _
      | exact LeO.none _
      | refine LeO.ite ?_ ?_
      | refine LeO.bind ?_ (fun _ => ?_)
    · intro y0 y1 y2 y3 y4
      unfold scope_Reset.j2
      repeat' first
      | (with_reducible exact ih0 _ _ _ _ _ _ _ _)
      | (with_reducible exact ih1 _ _ _ _ _ _)
      | (with_reducible exact ih2 _ _ _ _ _)
      | (with_reducible exact slices_Contains_int_int.mono _ _ _)
      | (with_reducible exact LeO.refl _)
      | (with_reducible exact LeO.none _)
      | (with_reducible refine LeO.ite ?_ ?_)
      | (with_reducible refine LeO.bind ?_ (fun _ => ?_))
      | exact ih0 _ _ _ _ _ _ _ _
      | exact ih1 _ _ _ _ _ _
      | exact ih2 _ _ _ _ _
      | exact slices_Contains_int_int.mono _ _ _
      | exact LeO.none _
      | refine LeO.ite ?_ ?_
      | refine LeO.bind ?_ (fun _ => ?_)
theorem scope_Reset.mono : ∀ a0 a1 a2 a3 a4 a5 a6 k, LeO (scope_Reset.f k a0 a1 a2 a3 a4 a5 a6) (scope_Reset.f (k + 1) a0 a1 a2 a3 a4 a5 a6) := by
  intro a0 a1 a2 a3 a4 a5 a6 k
  obtain ⟨ih0, ih1, ih2⟩ := scope_Reset.mono_l k
  unfold scope_Reset.f
  repeat' first
      | (with_reducible exact ih0 _ _ _ _ _ _ _ _)
      | (with_reducible exact ih1 _ _ _ _ _ _)
      | (with_reducible exact ih2 _ _ _ _ _)
      | (with_reducible exact slices_Contains_int_int.mono _ _ _)
      | (with_reducible exact LeO.refl _)
      | (with_reducible exact LeO.none _)
      | (with_reducible refine LeO.ite ?_ ?_)
      | (with_reducible refine LeO.bind ?_ (fun _ => ?_))
      | exact ih0 _ _ _ _ _ _ _ _
      | exact ih1 _ _ _ _ _ _
      | exact ih2 _ _ _ _ _
      | exact slices_Contains_int_int.mono _ _ _
      | exact LeO.none _
      | refine LeO.ite ?_ ?_
      | refine LeO.bind ?_ (fun _ => ?_)
set_option maxHeartbeats 8000000 in
set_option maxRecDepth 100000 in
theorem scope_Reset.calls (k : Nat) (A0 : Option Addr) (c0 : Nat) (l0 : List (S38)) (a1 : Int) (A2 : Option Addr) (c2 : Nat) (l2 : List Int) (a3_0 : ByteArray) (a3_1 : Int) (a3_2 : Bool) (a3_3 : Bool) (r : List (S38)) (w : World) (hr0 : Kd.C k38 w A0 l0.length l0) (hc0 : l0.length ≤ c0) (hr2 : Kd.C (Kd.int .i64) w A2 l2.length l2) (hc2 : l2.length ≤ c2) (h : scope_Reset.f k l0 a1 l2 a3_0 a3_1 a3_2 a3_3 = some r) :
    Calls Try.prog 7 #[.slice A0 l0.length c0, .int .i64 a1, .slice A2 l2.length c2, .agg #[.string a3_0, .int .i64 a3_1, .bool a3_2, .bool a3_3]] w fun e w' => ∃ v0_ : Value, e = .returned (v0_) ∧ Kd.R k38 38 w' w.heap.size (fun _ => True) v0_ r ∧ Below w.heap.size w w' := by
  have hu28 := Try.underlying28
  have hu38 := Try.underlying38
  have HR0 := Aside0.mk hr0
  have HC0 := Aside0.mk hc0
  clear hr0 hc0
  have HR2 := Aside0.mk hr2
  have HC2 := Aside0.mk hc2
  clear hr2 hc2
  have HB := Aside0.mk (Below.refl w.heap.size w)
  have H : ((scope_Counter_20.f l0).bind fun t104 => ((scope_inner.f t104 a3_0).bind fun t107 => (if t107 ≥ 0 then (if 0 ≤ t107 then (if t107 < (t104.length : Int) then (if ((rd_T38 t104 t107).f1) = a1 then (scope_Reset.j0 k a1 t104 t107 true a3_0 a3_1 a3_2 a3_3) else ((slices_Contains_int_int.f k l2 ((rd_T38 t104 t107).f1)).bind fun t110 => (scope_Reset.j0 k a1 t104 t107 t110 a3_0 a3_1 a3_2 a3_3))) else (none)) else (none)) else (scope_Reset.j0 k a1 t104 t107 false a3_0 a3_1 a3_2 a3_3)))) = some r := h
  clear h
  replace H := Option.bind_eq_some_iff.mp H
  obtain ⟨t104, A50, H⟩ := H
  replace H : ((scope_inner.f t104 a3_0).bind fun t107 => (if t107 ≥ 0 then (if 0 ≤ t107 then (if t107 < (t104.length : Int) then (if ((rd_T38 t104 t107).f1) = a1 then (scope_Reset.j0 k a1 t104 t107 true a3_0 a3_1 a3_2 a3_3) else ((slices_Contains_int_int.f k l2 ((rd_T38 t104 t107).f1)).bind fun t110 => (scope_Reset.j0 k a1 t104 t107 t110 a3_0 a3_1 a3_2 a3_3))) else (none)) else (none)) else (scope_Reset.j0 k a1 t104 t107 false a3_0 a3_1 a3_2 a3_3))) = some r := H
  have A5 := Aside0.mk A50
  clear A50
  replace H := Option.bind_eq_some_iff.mp H
  obtain ⟨t107, A60, H⟩ := H
  replace H : (if t107 ≥ 0 then (if 0 ≤ t107 then (if t107 < (t104.length : Int) then (if ((rd_T38 t104 t107).f1) = a1 then (scope_Reset.j0 k a1 t104 t107 true a3_0 a3_1 a3_2 a3_3) else ((slices_Contains_int_int.f k l2 ((rd_T38 t104 t107).f1)).bind fun t110 => (scope_Reset.j0 k a1 t104 t107 t110 a3_0 a3_1 a3_2 a3_3))) else (none)) else (none)) else (scope_Reset.j0 k a1 t104 t107 false a3_0 a3_1 a3_2 a3_3)) = some r := H
  have A6 := Aside0.mk A60
  clear A60
  have HC7 := Aside0.mk H
  clear H
  go_enter Try.func7, Try.ntmps7
  go_upto_region 3 with (first | ((with_reducible refine gate_dst (N := 7) rfl ?_); refine box_event ?hg (N := 7) ?hd (cs := #[.string a3_0, .int .i64 a3_1, .bool a3_2, .bool a3_3]) (t := 28) ?hr ?_; (case hd => rfl); (case hg => rfl); (case hr => first | (go_simp; done) | (go_simp; rfl)); intro gb103 hg w8 hbox hb; have n0_ := Aside0.mk (below_step (by repeat (first | (with_reducible first | exact HB.out | apply below_alloc | apply pw_below_drewN | apply below_drew1) | exact HB.out)) hb); have n1_ := Aside0.mk (hbox); have n2_ := Aside0.mk ((by rw [hg]; exact (below_size (by repeat (first | (with_reducible first | exact HB.out | apply below_alloc | apply pw_below_drewN | apply below_drew1) | exact HB.out))) : w.heap.size ≤ gb103)); have n3_ := Aside0.mk ((by rw [hg]; exact (below_size (by repeat (first | (with_reducible first | exact HB.out | apply below_alloc | apply pw_below_drewN | apply below_drew1) | exact HB.out))) : w.heap.size ≤ gb103)); clear HB; have HB := n0_; have BK103 := n1_; have GW103 := n2_; have GE103 := n3_; clear n0_ n1_ n2_ n3_; clear hb hbox hg) | ((with_reducible refine gate_callee (f := 20) rfl ?_); refine goesL_ (some 13) rfl rfl Try.func20 (by kernel_rfl) rfl #[.slice A0 l0.length c0] rfl (by (try simp only [List.map_toArray, List.map_cons, List.map_nil]); first | done | rfl | (simp only [List.length_drop, List.length_take]; rfl)) ?_; (with_reducible refine (scope_Counter_20.calls _ _ l0 t104 _ ?side1 ?side2 A5.out).mono ?_); (case side1 => repeat (first | exact (Kd.C_below HR0.out HB.out) | (with_reducible refine Kd.C_alloc ?_ _) | (with_reducible refine Kd.C_drewN ?_ _) | (with_reducible refine Kd.C_drew ?_))); (case side2 => exact HC0.out); rintro e w9 ⟨v105, rfl, ho0, hb⟩; refine ⟨_, rfl, ?_⟩; have n0_ := Aside0.mk (Kd.R_lower ho0 (below_size (by repeat (first | (with_reducible first | exact HB.out | apply below_alloc | apply pw_below_drewN | apply below_drew1 | refine below_set ?_ GE103.out) | exact HB.out)))); have n1_ := Aside0.mk (blk_below (g := gb103) (o := .cells #[.string a3_0, .int .i64 a3_1, .bool a3_2, .bool a3_3] 28 (0, 0)) (by (with_reducible repeat (first | refine blk_drewN ?_ _ | refine blk_drew ?_ | refine blk_alloc ?_ _)); exact BK103.out) hb); have n2_ := Aside0.mk (below_step (by repeat (first | (with_reducible first | exact HB.out | apply below_alloc | apply pw_below_drewN | apply below_drew1 | refine below_set ?_ GE103.out) | exact HB.out)) hb); clear BK103; clear HB; have HO106 := n0_; have BK103 := n1_; have HB := n2_; clear n0_ n1_ n2_; (try clear hb); (try clear hb2); (try clear hk); (try clear hi); (try clear ho0); have hcz10_0 : w9.cell? ⟨gb103, 0, none⟩ = some (.string a3_0) := (blk_cell BK103.out 0).trans rfl; have hcz10_1 : w9.cell? ⟨gb103, 1, none⟩ = some (.int .i64 a3_1) := (blk_cell BK103.out 1).trans rfl; have hcz10_2 : w9.cell? ⟨gb103, 2, none⟩ = some (.bool a3_2) := (blk_cell BK103.out 2).trans rfl; have hcz10_3 : w9.cell? ⟨gb103, 3, none⟩ = some (.bool a3_3) := (blk_cell BK103.out 3).trans rfl; have hfz10_0 := blk_frozen BK103.out 0; have hfz10_1 := blk_frozen BK103.out 1; have hfz10_2 := blk_frozen BK103.out 2; have hfz10_3 := blk_frozen BK103.out 3; obtain ⟨Ao11, co11, eo11⟩ := Kd.R_slice HO106.out; subst eo11) | ((with_reducible refine gate_callee (f := 21) rfl ?_); refine goesL_ (some 17) rfl rfl Try.func21 (by kernel_rfl) rfl #[.slice Ao11 t104.length co11, .string a3_0] rfl (by (try simp only [List.map_toArray, List.map_cons, List.map_nil]); first | done | rfl | (simp only [List.length_drop, List.length_take]; rfl)) ?_; (with_reducible refine (scope_inner.calls _ _ t104 a3_0 t107 _ ?side1 ?side2 A6.out).mono ?_); (case side1 => repeat (first | exact (Kd.R_reads' HO106.out).2.2 | (with_reducible refine Kd.C_alloc ?_ _) | (with_reducible refine Kd.C_drewN ?_ _) | (with_reducible refine Kd.C_drew ?_))); (case side2 => exact (Kd.R_reads' HO106.out).2.1); rintro e w12 ⟨rfl, hb⟩; refine ⟨_, rfl, ?_⟩; have n0_ := Aside0.mk (Kd.R_below (by (with_reducible repeat (first | apply Kd.R_alloc | apply Kd.R_drewN | apply Kd.R_drew)); exact HO106.out) hb); have n1_ := Aside0.mk (blk_below (g := gb103) (o := .cells #[.string a3_0, .int .i64 a3_1, .bool a3_2, .bool a3_3] 28 (0, 0)) (by (with_reducible repeat (first | refine blk_drewN ?_ _ | refine blk_drew ?_ | refine blk_alloc ?_ _)); exact BK103.out) hb); have n2_ := Aside0.mk (below_step (by repeat (first | (with_reducible first | exact HB.out | apply below_alloc | apply pw_below_drewN | apply below_drew1 | refine below_set ?_ GE103.out) | exact HB.out)) hb); clear HO106; clear BK103; clear HB; have HO106 := n0_; have BK103 := n1_; have HB := n2_; clear n0_ n1_ n2_; (try clear hb); (try clear hb2); (try clear hk); (try clear hi)))
  (try simp only [Act.put, List.setIfInBounds_toArray, List.set_cons_zero, List.set_cons_succ])
  go_cut [37] (fun v37 wc => ∃ (kq : Nat) (x37_6 : Bool), v37 = .bool x37_6 ∧ Aside0 (scope_Reset.j0 kq a1 t104 t107 x37_6 a3_0 a3_1 a3_2 a3_3 = some r) ∧ Aside0 (kq ≤ k) ∧ Aside0 (Kd.R k38 38 wc w.heap.size (fun _ => True) (.slice Ao11 t104.length co11) t104) ∧ Aside0 (wc.heap[gb103]? = some (.cells #[.string a3_0, .int .i64 a3_1, .bool a3_2, .bool a3_3] 28 (0, 0))) ∧ Aside0 (Below w.heap.size w wc))
  case first =>
    have H := HC7.out
    clear HC7
    by_cases c13 : t107 ≥ 0
    · rw [if_pos c13] at H
      have c13b0 : decide (0 ≤ t107) = true := decide_eq_true c13
      clear c13
      (first | rw [c13b0] | (simp only [i64_w, i32_w]; rw [c13b0]) | skip)
      by_cases c14 : 0 ≤ t107
      · rw [if_pos c14] at H
        have c14b0 : decide (0 ≤ t107) = true := decide_eq_true c14
        clear c14
        by_cases c15 : t107 < (t104.length : Int)
        · rw [if_pos c15] at H
          have c15b0 : decide (t107 < (t104.length : Int)) = true := decide_eq_true c15
          clear c15
          by_cases c16 : ((rd_T38 t104 t107).f1) = a1
          · rw [if_pos c16] at H
            have c16b0 : (((rd_T38 t104 t107).f1) == a1) = true := beq_iff_eq.mpr c16
            have c16b1 : (((rd_T38 t104 t107).f1) != a1) = false := bne_eq_false_iff_eq.mpr c16
            clear c16
            have H' := Aside0.mk H
            clear H
            have p108 : 0 ≤ (t107 : Int) := of_decide_eq_true (by first | (with_reducible assumption) | assumption)
            have q108 : t107 < (t104.length : Int) := of_decide_eq_true (by first | (with_reducible assumption) | assumption)
            obtain ⟨ad108, e108, hx108_0, hx108_1, hx108_2, hx108_3⟩ := at_T38 (Kd.R_reads' HO106.out).2.2 t107 p108 q108
            cases e108
            replace p108 := eq_true p108
            replace q108 := eq_true q108
            go_wp2
            go_meet
            case rel => exact ⟨_, (true), (by first | rfl | (simp; done) | (simp [*]; done)), H', ⟨by first | omega | exact Nat.le_refl _⟩, ⟨by (with_reducible repeat (first | apply Kd.R_alloc | apply Kd.R_drewN | apply Kd.R_drew)); exact HO106.out⟩, ⟨by (with_reducible repeat (first | refine blk_drewN ?_ _ | refine blk_drew ?_ | refine blk_alloc ?_ _)); exact BK103.out⟩, ⟨by repeat (first | (with_reducible first | exact HB.out | apply below_alloc | apply pw_below_drewN | apply below_drew1 | refine below_set ?_ GE103.out) | exact HB.out)⟩⟩
          · rw [if_neg c16] at H
            have c16b0 : (((rd_T38 t104 t107).f1) == a1) = false := beq_eq_false_iff_ne.mpr c16
            have c16b1 : (((rd_T38 t104 t107).f1) != a1) = true := bne_iff_ne.mpr c16
            replace H := Option.bind_eq_some_iff.mp H
            obtain ⟨t110, A170, H⟩ := H
            replace H : (scope_Reset.j0 k a1 t104 t107 t110 a3_0 a3_1 a3_2 a3_3) = some r := H
            have A17 := Aside0.mk A170
            clear A170
            have H' := Aside0.mk H
            clear H
            have p108 : 0 ≤ (t107 : Int) := of_decide_eq_true (by first | (with_reducible assumption) | assumption)
            have q108 : t107 < (t104.length : Int) := of_decide_eq_true (by first | (with_reducible assumption) | assumption)
            obtain ⟨ad108, e108, hx108_0, hx108_1, hx108_2, hx108_3⟩ := at_T38 (Kd.R_reads' HO106.out).2.2 t107 p108 q108
            cases e108
            replace p108 := eq_true p108
            replace q108 := eq_true q108
            have p109 : 0 ≤ (t107 : Int) := of_decide_eq_true (by first | (with_reducible assumption) | assumption)
            have q109 : t107 < (t104.length : Int) := of_decide_eq_true (by first | (with_reducible assumption) | assumption)
            obtain ⟨ad109, e109, hx109_0, hx109_1, hx109_2, hx109_3⟩ := at_T38 (Kd.R_reads' HO106.out).2.2 t107 p109 q109
            obtain rfl : ad108 = ad109 := (by injection e109)
            replace p109 := eq_true p109
            replace q109 := eq_true q109
            go_wp2_with (first | (go_at_call 22; (with_reducible refine (slices_Contains_int_int.calls k _ _ l2 ((rd_T38 t104 t107).f1) t110 _ ?side1 ?side2 A17.out).mono ?_); (case side1 => repeat (first | exact (Kd.C_below HR2.out HB.out) | (with_reducible refine Kd.C_alloc ?_ _) | (with_reducible refine Kd.C_drewN ?_ _) | (with_reducible refine Kd.C_drew ?_))); (case side2 => exact HC2.out); rintro e w' ⟨rfl, ⟨nd, rfl⟩⟩))
            go_meet
            case rel => exact ⟨_, (t110), (by first | rfl | (simp; done) | (simp [*]; done)), H', ⟨by first | omega | exact Nat.le_refl _⟩, ⟨by (with_reducible repeat (first | apply Kd.R_alloc | apply Kd.R_drewN | apply Kd.R_drew)); exact HO106.out⟩, ⟨by (with_reducible repeat (first | refine blk_drewN ?_ _ | refine blk_drew ?_ | refine blk_alloc ?_ _)); exact BK103.out⟩, ⟨by repeat (first | (with_reducible first | exact HB.out | apply below_alloc | apply pw_below_drewN | apply below_drew1 | refine below_set ?_ GE103.out) | exact HB.out)⟩⟩
        · rw [if_neg c15] at H
          exact absurd H (by simp)
      · rw [if_neg c14] at H
        exact absurd H (by simp)
    · rw [if_neg c13] at H
      have c13b0 : decide (0 ≤ t107) = false := decide_eq_false c13
      clear c13
      (first | rw [c13b0] | (simp only [i64_w, i32_w]; rw [c13b0]) | skip)
      have H' := Aside0.mk H
      clear H
      go_wp2
      go_meet
      case rel => exact ⟨_, (false), (by first | rfl | (simp; done) | (simp [*]; done)), H', ⟨by first | omega | exact Nat.le_refl _⟩, ⟨by (with_reducible repeat (first | apply Kd.R_alloc | apply Kd.R_drewN | apply Kd.R_drew)); exact HO106.out⟩, ⟨by (with_reducible repeat (first | refine blk_drewN ?_ _ | refine blk_drew ?_ | refine blk_alloc ?_ _)); exact BK103.out⟩, ⟨by repeat (first | (with_reducible first | exact HB.out | apply below_alloc | apply pw_below_drewN | apply below_drew1 | refine below_set ?_ GE103.out) | exact HB.out)⟩⟩
  case rest =>
    clear HC7
    try clear c1
    try clear p1
    try clear q1
    try clear hx1
    try clear c2
    try clear p2
    try clear c7
    try clear p10
    try clear q10
    try clear hx10
    try clear c13
    try clear c13b0
    try clear c14
    try clear c14b0
    try clear c15
    try clear c15b0
    try clear c16
    try clear c16b0
    try clear c16b1
    try clear hcz10_0
    try clear hcz10_1
    try clear hcz10_2
    try clear hcz10_3
    try clear hfz10_0
    try clear hfz10_1
    try clear hfz10_2
    try clear hfz10_3
    try clear hx108_0
    try clear hx108_1
    try clear hx108_2
    try clear hx108_3
    try clear hx109_0
    try clear hx109_1
    try clear hx109_2
    try clear hx109_3
    try clear p108
    try clear p109
    try clear q108
    try clear q109
    obtain ⟨kq, x37_6, rfl, HA, HJ6, HO_9, BK103, HB⟩ := hcut
    cases kq with
    | zero => exact absurd HA.out (by simp [scope_Reset.j0])
    | succ kj6 =>
      have H := HA.out
      clear HA
      simp only [scope_Reset.j0] at H
      have HC18 := Aside0.mk H
      clear H
      go_upto_if 37 with (fail)
      go_cut [9] (fun v9 wc => ∃ (kq : Nat) (x9_17 : List (S38)), Aside0 (scope_Reset.j1 kq a1 x9_17 a3_0 a3_1 a3_2 a3_3 = some r) ∧ Aside0 (kq ≤ kj6) ∧ Aside0 (Kd.R k38 38 wc w.heap.size (fun _ => True) v9 x9_17) ∧ Aside0 (wc.heap[gb103]? = some (.cells #[.string a3_0, .int .i64 a3_1, .bool a3_2, .bool a3_3] 28 (0, 0))) ∧ Aside0 (Below w.heap.size w wc))
      case first =>
        have H := HC18.out
        clear HC18
        by_cases c19 : x37_6 = true
        · subst c19
          have H1 : ((scope_Counter_23.f t104 t107 (wrap64 (t107 + 1))).bind fun t111 => (scope_Reset.j1 kj6 a1 t111 a3_0 a3_1 a3_2 a3_3)) = some r := by rw [if_pos rfl] at H; exact H
          clear H
          have H := H1
          clear H1
          replace H := Option.bind_eq_some_iff.mp H
          obtain ⟨t111, A200, H⟩ := H
          replace H : (scope_Reset.j1 kj6 a1 t111 a3_0 a3_1 a3_2 a3_3) = some r := H
          have A20 := Aside0.mk A200
          clear A200
          have H' := Aside0.mk H
          clear H
          go_wp2_with (first | ((with_reducible refine gate_callee (f := 23) rfl ?_); refine goesL_ (some 42) rfl rfl Try.func23 (by kernel_rfl) rfl #[.slice Ao11 t104.length co11, .int .i64 t107, .int .i64 (wrap64 (t107 + 1))] rfl (by (try simp only [List.map_toArray, List.map_cons, List.map_nil]); first | done | rfl | (simp only [List.length_drop, List.length_take]; rfl)) ?_; (with_reducible refine (scope_Counter_23.calls (fun k_ => some k_ = (.slice Ao11 t104.length co11 : Value).ownBlock) (.slice Ao11 t104.length co11) t104 t107 (wrap64 (t107 + 1)) t111 w _ ?side1 ?side2 A20.out).mono ?_); (case side1 => repeat (first | (with_reducible first | exact HB.out | apply below_alloc | apply pw_below_drewN | apply below_drew1 | refine below_set ?_ GE103.out) | exact HB.out)); (case side2 => exact Kd.R_tight rfl HO_9.out); rintro e w21 ⟨v112, rfl, ho0, hb, hkp⟩; refine ⟨_, rfl, ?_⟩; have n0_ := Aside0.mk (blk_kept (by (with_reducible repeat (first | refine blk_drewN ?_ _ | refine blk_drew ?_ | refine blk_alloc ?_ _)); exact BK103.out) hkp (fun hs_ => (fun e_ => (Kd.R_ne HO_9.out BK103.out (by decide)) e_) hs_)); have n1_ := Aside0.mk (Kd.R_mono (ok' := fun k_ => True) ho0 (fun k_ hk_ => trivial)); have n2_ := Aside0.mk (hb); clear BK103; clear HB; clear HO_9; have BK103 := n0_; have HO113 := n1_; have HB := n2_; clear n0_ n1_ n2_; (try clear hb); (try clear hkp); (try clear ho0)))
          go_meet
          case rel => exact ⟨_, (t111), H', ⟨by have := HJ6.out; first | omega | exact Nat.le_refl _⟩, ⟨by (with_reducible repeat (first | apply Kd.R_alloc | apply Kd.R_drewN | apply Kd.R_drew)); exact HO113.out⟩, ⟨by (with_reducible repeat (first | refine blk_drewN ?_ _ | refine blk_drew ?_ | refine blk_alloc ?_ _)); exact BK103.out⟩, ⟨by repeat (first | (with_reducible first | exact HB.out | apply below_alloc | apply pw_below_drewN | apply below_drew1 | refine below_set ?_ GE103.out) | exact HB.out)⟩⟩
        · replace c19 := Bool.eq_false_iff.mpr c19
          subst c19
          have H1 : (scope_Reset.j1 kj6 a1 t104 a3_0 a3_1 a3_2 a3_3) = some r := by rw [if_neg (show ¬ (false = true) by decide)] at H; exact H
          clear H
          have H := H1
          clear H1
          have H' := Aside0.mk H
          clear H
          go_wp2
          go_meet
          case rel => exact ⟨_, (t104), H', ⟨by have := HJ6.out; first | omega | exact Nat.le_refl _⟩, ⟨by (with_reducible repeat (first | apply Kd.R_alloc | apply Kd.R_drewN | apply Kd.R_drew)); exact HO_9.out⟩, ⟨by (with_reducible repeat (first | refine blk_drewN ?_ _ | refine blk_drew ?_ | refine blk_alloc ?_ _)); exact BK103.out⟩, ⟨by repeat (first | (with_reducible first | exact HB.out | apply below_alloc | apply pw_below_drewN | apply below_drew1 | refine below_set ?_ GE103.out) | exact HB.out)⟩⟩
      case rest =>
        clear HC18
        try clear c1
        try clear p1
        try clear q1
        try clear hx1
        try clear c2
        try clear p2
        try clear p6
        try clear c7
        try clear p10
        try clear q10
        try clear hx10
        try clear c13
        try clear c13b0
        try clear c14
        try clear c14b0
        try clear c15
        try clear c15b0
        try clear c16
        try clear c16b0
        try clear c16b1
        try clear c19
        try clear c20
        try clear c21
        try clear hcz10_0
        try clear hcz10_1
        try clear hcz10_2
        try clear hcz10_3
        try clear hfz10_0
        try clear hfz10_1
        try clear hfz10_2
        try clear hfz10_3
        try clear hx108_0
        try clear hx108_1
        try clear hx108_2
        try clear hx108_3
        try clear hx109_0
        try clear hx109_1
        try clear hx109_2
        try clear hx109_3
        try clear p1
        try clear p10
        try clear p108
        try clear p109
        try clear p2
        try clear q1
        try clear q10
        try clear q108
        try clear q109
        obtain ⟨kq, x9_17, HA, HJ17, HO_9, BK103, HB⟩ := hcut
        cases kq with
        | zero => exact absurd HA.out (by simp [scope_Reset.j1])
        | succ kj17 =>
          have H := HA.out
          clear HA
          simp only [scope_Reset.j1] at H
          have HC22 := Aside0.mk H
          clear H
          have hcz23_0 : wc.cell? ⟨gb103, 0, none⟩ = some (.string a3_0) := (blk_cell BK103.out 0).trans rfl
          have hcz23_1 : wc.cell? ⟨gb103, 1, none⟩ = some (.int .i64 a3_1) := (blk_cell BK103.out 1).trans rfl
          have hcz23_2 : wc.cell? ⟨gb103, 2, none⟩ = some (.bool a3_2) := (blk_cell BK103.out 2).trans rfl
          have hcz23_3 : wc.cell? ⟨gb103, 3, none⟩ = some (.bool a3_3) := (blk_cell BK103.out 3).trans rfl
          have hfz23_0 := blk_frozen BK103.out 0
          have hfz23_1 := blk_frozen BK103.out 1
          have hfz23_2 := blk_frozen BK103.out 2
          have hfz23_3 := blk_frozen BK103.out 3
          go_upto_if 52 with (first | ((with_reducible refine gate_dst (N := 11) rfl ?_); refine box_event ?hg (N := 11) ?hd (cs := #[.string (⟨#[]⟩ : ByteArray), .int .i64 0, .int .i64 0, .bool false]) (t := 38) ?hr ?_; (case hd => rfl); (case hg => rfl); (case hr => first | (go_simp; done) | (go_simp; rfl)); intro gb114 hg w24 hbox hb; have n0_ := Aside0.mk (Kd.R_below (Kd.R_elderB (by (with_reducible repeat (first | apply Kd.R_alloc | apply Kd.R_drewN | apply Kd.R_drew)); exact HO_9.out) gb114 (Nat.le_of_eq hg.symm)) hb); have n1_ := Aside0.mk (blk_below (g := gb103) (o := .cells #[.string a3_0, .int .i64 a3_1, .bool a3_2, .bool a3_3] 28 (0, 0)) (by (with_reducible repeat (first | refine blk_drewN ?_ _ | refine blk_drew ?_ | refine blk_alloc ?_ _)); exact BK103.out) hb); have n2_ := Aside0.mk (below_step (by repeat (first | (with_reducible first | exact HB.out | apply below_alloc | apply pw_below_drewN | apply below_drew1 | refine below_set ?_ GE103.out) | exact HB.out)) hb); have n3_ := Aside0.mk (hbox); have n4_ := Aside0.mk ((by rw [hg]; exact (below_size (by repeat (first | (with_reducible first | exact HB.out | apply below_alloc | apply pw_below_drewN | apply below_drew1 | refine below_set ?_ GE103.out) | exact HB.out))) : w.heap.size ≤ gb114)); have n5_ := Aside0.mk ((by rw [hg]; exact (below_size (by repeat (first | (with_reducible first | exact HB.out | apply below_alloc | apply pw_below_drewN | apply below_drew1 | refine below_set ?_ GE103.out) | exact HB.out))) : w.heap.size ≤ gb114)); have n6_ := Aside0.mk ((by rw [hg]; exact Nat.ne_of_lt (blk_lt (g := gb103) (o := .cells #[.string a3_0, .int .i64 a3_1, .bool a3_2, .bool a3_3] 28 (0, 0)) (by (with_reducible repeat (first | refine blk_drewN ?_ _ | refine blk_drew ?_ | refine blk_alloc ?_ _)); exact BK103.out)) : gb103 ≠ gb114)); have n7_ := Aside0.mk ((by rw [hg]; exact Nat.ne_of_gt (blk_lt (g := gb103) (o := .cells #[.string a3_0, .int .i64 a3_1, .bool a3_2, .bool a3_3] 28 (0, 0)) (by (with_reducible repeat (first | refine blk_drewN ?_ _ | refine blk_drew ?_ | refine blk_alloc ?_ _)); exact BK103.out)) : gb114 ≠ gb103)); clear HO_9; clear BK103; clear HB; have HO_9 := n0_; have BK103 := n1_; have HB := n2_; have BK114 := n3_; have GW114 := n4_; have GE114 := n5_; have NB103_114 := n6_; have NB114_103 := n7_; clear n0_ n1_ n2_ n3_ n4_ n5_ n6_ n7_; clear hb hbox hg; have hnb25 := NB114_103.out; have hnc25 := NB103_114.out; have hcz26_0 : w24.cell? ⟨gb114, 0, none⟩ = some (.string (⟨#[]⟩ : ByteArray)) := (blk_cell BK114.out 0).trans rfl; have hcz26_1 : w24.cell? ⟨gb114, 1, none⟩ = some (.int .i64 0) := (blk_cell BK114.out 1).trans rfl; have hcz26_2 : w24.cell? ⟨gb114, 2, none⟩ = some (.int .i64 0) := (blk_cell BK114.out 2).trans rfl; have hcz26_3 : w24.cell? ⟨gb114, 3, none⟩ = some (.bool false) := (blk_cell BK114.out 3).trans rfl; have hfz26_0 := blk_frozen BK114.out 0; have hfz26_1 := blk_frozen BK114.out 1; have hfz26_2 := blk_frozen BK114.out 2; have hfz26_3 := blk_frozen BK114.out 3; have hcz27_0 : w24.cell? ⟨gb103, 0, none⟩ = some (.string a3_0) := (blk_cell BK103.out 0).trans rfl; have hcz27_1 : w24.cell? ⟨gb103, 1, none⟩ = some (.int .i64 a3_1) := (blk_cell BK103.out 1).trans rfl; have hcz27_2 : w24.cell? ⟨gb103, 2, none⟩ = some (.bool a3_2) := (blk_cell BK103.out 2).trans rfl; have hcz27_3 : w24.cell? ⟨gb103, 3, none⟩ = some (.bool a3_3) := (blk_cell BK103.out 3).trans rfl; have hfz27_0 := blk_frozen BK103.out 0; have hfz27_1 := blk_frozen BK103.out 1; have hfz27_2 := blk_frozen BK103.out 2; have hfz27_3 := blk_frozen BK103.out 3))
          (try simp only [Act.put, List.setIfInBounds_toArray, List.set_cons_zero, List.set_cons_succ])
          go_cut [] (fun wc => ∃ (kq : Nat) (x115002_21 : Int), Aside0 (scope_Reset.j2 kq x9_17 a3_0 a1 x115002_21 a3_2 = some r) ∧ Aside0 (kq ≤ kj17) ∧ Aside0 (Kd.R k38 38 wc w.heap.size (fun k_ => k_ ≠ gb114) u9 x9_17) ∧ Aside0 (wc.heap[gb103]? = some (.cells #[.string a3_0, .int .i64 a3_1, .bool a3_2, .bool a3_3] 28 (0, 0))) ∧ Aside0 (wc.heap[gb114]? = some (.cells #[.string a3_0, .int .i64 a1, .int .i64 x115002_21, .bool a3_2] 38 (0, 0))) ∧ Aside0 (Below w.heap.size w wc))
          case first =>
            have H := HC22.out
            clear HC22
            by_cases c28 : a3_3 = true
            · subst c28
              have H1 : (scope_Reset.j2 kj17 x9_17 a3_0 a1 0 a3_2) = some r := by rw [if_pos rfl] at H; exact H
              clear H
              have H := H1
              clear H1
              have H' := Aside0.mk H
              clear H
              have hnb29 := NB114_103.out
              have hnc29 := NB103_114.out
              have hcz30_0 : w24.cell? ⟨gb114, 0, none⟩ = some (.string (⟨#[]⟩ : ByteArray)) := (blk_cell BK114.out 0).trans rfl
              have hcz30_1 : w24.cell? ⟨gb114, 1, none⟩ = some (.int .i64 0) := (blk_cell BK114.out 1).trans rfl
              have hcz30_2 : w24.cell? ⟨gb114, 2, none⟩ = some (.int .i64 0) := (blk_cell BK114.out 2).trans rfl
              have hcz30_3 : w24.cell? ⟨gb114, 3, none⟩ = some (.bool false) := (blk_cell BK114.out 3).trans rfl
              have hfz30_0 := blk_frozen BK114.out 0
              have hfz30_1 := blk_frozen BK114.out 1
              have hfz30_2 := blk_frozen BK114.out 2
              have hfz30_3 := blk_frozen BK114.out 3
              go_wp2
              go_meet
              case rel => exact ⟨_, (0), H', ⟨by have := HJ6.out; have := HJ17.out; first | omega | exact Nat.le_refl _⟩, ⟨by (with_reducible repeat (first | apply Kd.R_alloc | apply Kd.R_drewN | apply Kd.R_drew)); exact Kd.R_mono (Kd.R_far (p := ⟨gb114, 2, none⟩) (Kd.R_far (p := ⟨gb114, 3, none⟩) (Kd.R_far (p := ⟨gb114, 2, none⟩) (Kd.R_far (p := ⟨gb114, 1, none⟩) (Kd.R_far (p := ⟨gb114, 0, none⟩) (Kd.R_mono HO_9.out (fun k_ hk => (⟨hk, hk.2⟩ : _ ∧ k_ ≠ gb114))) (fun _ hk => hk.2) (.string a3_0)) (fun _ hk => hk.2) (.int .i64 a1)) (fun _ hk => hk.2) (.int .i64 a3_1)) (fun _ hk => hk.2) (.bool a3_2)) (fun _ hk => hk.2) (.int .i64 0)) (fun _ hk => by first | exact hk.1.2 | simp [hk])⟩, ⟨by (with_reducible repeat (first | refine blk_drewN ?_ _ | refine blk_drew ?_ | refine blk_alloc ?_ _)); refine blk_far ?_ NB103_114.out _; (with_reducible repeat (first | refine blk_drewN ?_ _ | refine blk_drew ?_ | refine blk_alloc ?_ _)); refine blk_far ?_ NB103_114.out _; (with_reducible repeat (first | refine blk_drewN ?_ _ | refine blk_drew ?_ | refine blk_alloc ?_ _)); refine blk_far ?_ NB103_114.out _; (with_reducible repeat (first | refine blk_drewN ?_ _ | refine blk_drew ?_ | refine blk_alloc ?_ _)); refine blk_far ?_ NB103_114.out _; (with_reducible repeat (first | refine blk_drewN ?_ _ | refine blk_drew ?_ | refine blk_alloc ?_ _)); refine blk_far ?_ NB103_114.out _; (with_reducible repeat (first | refine blk_drewN ?_ _ | refine blk_drew ?_ | refine blk_alloc ?_ _)); exact BK103.out⟩, ⟨by (with_reducible repeat (first | refine blk_drewN ?_ _ | refine blk_drew ?_ | refine blk_alloc ?_ _)); refine blk_put (cs := #[.string a3_0, .int .i64 a1, .int .i64 a3_1, .bool a3_2]) ?_ 2 _ rfl; (with_reducible repeat (first | refine blk_drewN ?_ _ | refine blk_drew ?_ | refine blk_alloc ?_ _)); refine blk_put (cs := #[.string a3_0, .int .i64 a1, .int .i64 a3_1, .bool false]) ?_ 3 _ rfl; (with_reducible repeat (first | refine blk_drewN ?_ _ | refine blk_drew ?_ | refine blk_alloc ?_ _)); refine blk_put (cs := #[.string a3_0, .int .i64 a1, .int .i64 0, .bool false]) ?_ 2 _ rfl; (with_reducible repeat (first | refine blk_drewN ?_ _ | refine blk_drew ?_ | refine blk_alloc ?_ _)); refine blk_put (cs := #[.string a3_0, .int .i64 0, .int .i64 0, .bool false]) ?_ 1 _ rfl; (with_reducible repeat (first | refine blk_drewN ?_ _ | refine blk_drew ?_ | refine blk_alloc ?_ _)); refine blk_put (cs := #[.string (⟨#[]⟩ : ByteArray), .int .i64 0, .int .i64 0, .bool false]) ?_ 0 _ rfl; (with_reducible repeat (first | refine blk_drewN ?_ _ | refine blk_drew ?_ | refine blk_alloc ?_ _)); exact BK114.out⟩, ⟨by repeat (first | (with_reducible first | exact HB.out | apply below_alloc | apply pw_below_drewN | apply below_drew1 | refine below_set ?_ GE103.out | refine below_set ?_ GE114.out) | exact HB.out)⟩⟩
            · replace c28 := Bool.eq_false_iff.mpr c28
              subst c28
              have H1 : (scope_Reset.j2 kj17 x9_17 a3_0 a1 a3_1 a3_2) = some r := by rw [if_neg (show ¬ (false = true) by decide)] at H; exact H
              clear H
              have H := H1
              clear H1
              have H' := Aside0.mk H
              clear H
              go_wp2
              go_meet
              case rel => exact ⟨_, (a3_1), H', ⟨by have := HJ6.out; have := HJ17.out; first | omega | exact Nat.le_refl _⟩, ⟨by (with_reducible repeat (first | apply Kd.R_alloc | apply Kd.R_drewN | apply Kd.R_drew)); exact Kd.R_mono (Kd.R_far (p := ⟨gb114, 3, none⟩) (Kd.R_far (p := ⟨gb114, 2, none⟩) (Kd.R_far (p := ⟨gb114, 1, none⟩) (Kd.R_far (p := ⟨gb114, 0, none⟩) (Kd.R_mono HO_9.out (fun k_ hk => (⟨hk, hk.2⟩ : _ ∧ k_ ≠ gb114))) (fun _ hk => hk.2) (.string a3_0)) (fun _ hk => hk.2) (.int .i64 a1)) (fun _ hk => hk.2) (.int .i64 a3_1)) (fun _ hk => hk.2) (.bool a3_2)) (fun _ hk => by first | exact hk.1.2 | simp [hk])⟩, ⟨by (with_reducible repeat (first | refine blk_drewN ?_ _ | refine blk_drew ?_ | refine blk_alloc ?_ _)); refine blk_far ?_ NB103_114.out _; (with_reducible repeat (first | refine blk_drewN ?_ _ | refine blk_drew ?_ | refine blk_alloc ?_ _)); refine blk_far ?_ NB103_114.out _; (with_reducible repeat (first | refine blk_drewN ?_ _ | refine blk_drew ?_ | refine blk_alloc ?_ _)); refine blk_far ?_ NB103_114.out _; (with_reducible repeat (first | refine blk_drewN ?_ _ | refine blk_drew ?_ | refine blk_alloc ?_ _)); refine blk_far ?_ NB103_114.out _; (with_reducible repeat (first | refine blk_drewN ?_ _ | refine blk_drew ?_ | refine blk_alloc ?_ _)); exact BK103.out⟩, ⟨by (with_reducible repeat (first | refine blk_drewN ?_ _ | refine blk_drew ?_ | refine blk_alloc ?_ _)); refine blk_put (cs := #[.string a3_0, .int .i64 a1, .int .i64 a3_1, .bool false]) ?_ 3 _ rfl; (with_reducible repeat (first | refine blk_drewN ?_ _ | refine blk_drew ?_ | refine blk_alloc ?_ _)); refine blk_put (cs := #[.string a3_0, .int .i64 a1, .int .i64 0, .bool false]) ?_ 2 _ rfl; (with_reducible repeat (first | refine blk_drewN ?_ _ | refine blk_drew ?_ | refine blk_alloc ?_ _)); refine blk_put (cs := #[.string a3_0, .int .i64 0, .int .i64 0, .bool false]) ?_ 1 _ rfl; (with_reducible repeat (first | refine blk_drewN ?_ _ | refine blk_drew ?_ | refine blk_alloc ?_ _)); refine blk_put (cs := #[.string (⟨#[]⟩ : ByteArray), .int .i64 0, .int .i64 0, .bool false]) ?_ 0 _ rfl; (with_reducible repeat (first | refine blk_drewN ?_ _ | refine blk_drew ?_ | refine blk_alloc ?_ _)); exact BK114.out⟩, ⟨by repeat (first | (with_reducible first | exact HB.out | apply below_alloc | apply pw_below_drewN | apply below_drew1 | refine below_set ?_ GE103.out | refine below_set ?_ GE114.out) | exact HB.out)⟩⟩
          case rest =>
            clear HC22
            try clear c1
            try clear p1
            try clear q1
            try clear hx1
            try clear c2
            try clear p2
            try clear p6
            try clear c7
            try clear p10
            try clear q10
            try clear hx10
            try clear c13
            try clear c13b0
            try clear c14
            try clear c14b0
            try clear c15
            try clear c15b0
            try clear c16
            try clear c16b0
            try clear c16b1
            try clear c19
            try clear c20
            try clear c21
            try clear c23
            try clear c25
            try clear c28
            try clear c29
            try clear hcz10_0
            try clear hcz10_1
            try clear hcz10_2
            try clear hcz10_3
            try clear hcz23_0
            try clear hcz23_1
            try clear hcz23_2
            try clear hcz23_3
            try clear hcz26_0
            try clear hcz26_1
            try clear hcz26_2
            try clear hcz26_3
            try clear hcz27_0
            try clear hcz27_1
            try clear hcz27_2
            try clear hcz27_3
            try clear hcz30_0
            try clear hcz30_1
            try clear hcz30_2
            try clear hcz30_3
            try clear hfz10_0
            try clear hfz10_1
            try clear hfz10_2
            try clear hfz10_3
            try clear hfz23_0
            try clear hfz23_1
            try clear hfz23_2
            try clear hfz23_3
            try clear hfz26_0
            try clear hfz26_1
            try clear hfz26_2
            try clear hfz26_3
            try clear hfz27_0
            try clear hfz27_1
            try clear hfz27_2
            try clear hfz27_3
            try clear hfz30_0
            try clear hfz30_1
            try clear hfz30_2
            try clear hfz30_3
            try clear hx108_0
            try clear hx108_1
            try clear hx108_2
            try clear hx108_3
            try clear hx109_0
            try clear hx109_1
            try clear hx109_2
            try clear hx109_3
            try clear p1
            try clear p10
            try clear p108
            try clear p109
            try clear p2
            try clear p6
            try clear q1
            try clear q10
            try clear q108
            try clear q109
            obtain ⟨kq, x115002_21, HA, HJ21, HO_9, BK103, BK114, HB⟩ := hcut
            cases kq with
            | zero => exact absurd HA.out (by simp [scope_Reset.j2])
            | succ kj21 =>
              have H := HA.out
              clear HA
              simp only [scope_Reset.j2] at H
              by_cases c31 : x9_17.length < 3518437208883
              · rw [if_pos c31] at H
                have LMc31 := Aside0.mk c31
                clear c31
                obtain ⟨y115, hy115⟩ : ∃ y_ : List (S38), y_ = (x9_17 ++ [(⟨a3_0, a1, x115002_21, a3_2⟩ : S38)]) := ⟨_, rfl⟩
                replace H : (some y115) = some r := by first | (rw [hy115]; with_reducible exact H) | (have H2_ := (Option.bind_some _ _).symm.trans H; rw [hy115]; with_reducible exact H2_) | (have H2_ := (Option.bind_some _ _).symm.trans H; with_reducible exact H2_) | with_reducible exact H | (rw [hy115]; exact H) | exact H
                have Ny115 := Aside0.mk hy115
                clear hy115
                obtain rfl := Option.some.inj H
                have hnb32 := NB114_103.out
                have hnc32 := NB103_114.out
                have hcz33_0 : wc.cell? ⟨gb114, 0, none⟩ = some (.string a3_0) := (blk_cell BK114.out 0).trans rfl
                have hcz33_1 : wc.cell? ⟨gb114, 1, none⟩ = some (.int .i64 a1) := (blk_cell BK114.out 1).trans rfl
                have hcz33_2 : wc.cell? ⟨gb114, 2, none⟩ = some (.int .i64 x115002_21) := (blk_cell BK114.out 2).trans rfl
                have hcz33_3 : wc.cell? ⟨gb114, 3, none⟩ = some (.bool a3_2) := (blk_cell BK114.out 3).trans rfl
                have hfz33_0 := blk_frozen BK114.out 0
                have hfz33_1 := blk_frozen BK114.out 1
                have hfz33_2 := blk_frozen BK114.out 2
                have hfz33_3 := blk_frozen BK114.out 3
                go_wp2_with (first | ((with_reducible refine gate_builtin (b := .append) (xs := #[.tmp 54, .tmp 56]) rfl ?_); at_builtin; refine Kd.R_append k38 (w0 := w) w.heap.size rfl (.tmp 54) (.tmp 56) 25 38 (.agg #[(.string ⟨#[]⟩), (.int .i64 0), (.int .i64 0), (.bool false)]) 40 rfl Try.underlying25 info38 rfl (by decide) (by omega) u9 x9_17 (⟨a3_0, a1, x115002_21, a3_2⟩ : S38) [.string a3_0, .int .i64 a1, .int .i64 x115002_21, .bool a3_2] (fun k_ => k_ ≠ gb114) (fun _ => False) rfl rfl ?aP (fun _ hk => hk.elim) ?aF ?aO ?aB ?aS ?aL ?_; (case aP => exact k38_mkM _ _ _ (⟨a3_0, a1, x115002_21, a3_2⟩ : S38)); (case aB => exact (by repeat (first | (with_reducible first | exact HB.out | apply below_alloc | apply pw_below_drewN | apply below_drew1 | refine below_set ?_ GE103.out | refine below_set ?_ GE114.out) | exact HB.out))); (case aF => exact (fun k_ hk => Kd.freshB (g := gb114) (o := .cells #[.string a3_0, .int .i64 a1, .int .i64 x115002_21, .bool a3_2] 38 (0, 0)) (by (with_reducible repeat (first | refine blk_drewN ?_ _ | refine blk_drew ?_ | refine blk_alloc ?_ _)); exact BK114.out) k_ hk)); (case aO => exact (by (with_reducible repeat (first | apply Kd.R_alloc | apply Kd.R_drewN | apply Kd.R_drew)); exact HO_9.out)); (case aS => exact (below_size (by repeat (first | (with_reducible first | exact HB.out | apply below_alloc | apply pw_below_drewN | apply below_drew1 | refine below_set ?_ GE103.out | refine below_set ?_ GE114.out) | exact HB.out)))); (case aL => have := LMc31.out; omega); intro v116 w34 ho hb hg hat; rw [← Ny115.out] at ho; have n0_ := Aside0.mk (blk_grown (g := gb103) (o := .cells #[.string a3_0, .int .i64 a3_1, .bool a3_2, .bool a3_3] 28 (0, 0)) (by (with_reducible repeat (first | refine blk_drewN ?_ _ | refine blk_drew ?_ | refine blk_alloc ?_ _)); exact BK103.out) hg (Kd.R_ne HO_9.out BK103.out (by decide))); have n1_ := Aside0.mk (blk_grown (g := gb114) (o := .cells #[.string a3_0, .int .i64 a1, .int .i64 x115002_21, .bool a3_2] 38 (0, 0)) (by (with_reducible repeat (first | refine blk_drewN ?_ _ | refine blk_drew ?_ | refine blk_alloc ?_ _)); exact BK114.out) hg (Kd.R_away HO_9.out (fun _ hk => hk))); have n2_ := Aside0.mk (hb); have n3_ := Aside0.mk (ho); clear BK103; clear BK114; clear HB; clear HO_9; have BK103 := n0_; have BK114 := n1_; have HB := n2_; have HO117 := n3_; clear n0_ n1_ n2_ n3_; clear ho hb hg hat))
                go_ret
                exact ⟨_, by first | rfl | (simp [errW_none, errW_some] <;> rfl) | (simp [*, errW_none, errW_some] <;> rfl), by (with_reducible repeat (first | apply Kd.R_alloc | apply Kd.R_drewN | apply Kd.R_drew)); exact Kd.R_mono HO117.out (fun _ hk => by first | exact trivial | simp [hk]), by repeat (first | (with_reducible first | exact HB.out | apply below_alloc | apply pw_below_drewN | apply below_drew1 | refine below_set ?_ GE103.out | refine below_set ?_ GE114.out) | exact HB.out)⟩
              · rw [if_neg c31] at H
                exact absurd H (by simp)

/-! ### scope_some: function 24 -/
def scope_some.f (l0 : List (S38)) (a1 : Int) (a2 : ByteArray) : Option ((List (S38)) × Int) := (scope_inner.f l0 a2).bind fun t118 => (if t118 ≥ 0 then ((scope_Counter_20.f l0).bind fun t119 => (some (t119, t118))) else ((scope_Counter_20.f l0).bind fun t122 => (if t122.length < 3518437208883 then (some ((t122 ++ [(⟨a2, a1, 0, false⟩ : S38)]), (l0.length : Int))) else (none))))
set_option maxHeartbeats 8000000 in
set_option maxRecDepth 100000 in
theorem scope_some.calls (A0 : Option Addr) (c0 : Nat) (l0 : List (S38)) (a1 : Int) (a2 : ByteArray) (r1 : List (S38)) (r2 : Int) (w : World) (hr0 : Kd.C k38 w A0 l0.length l0) (hc0 : l0.length ≤ c0) (h : scope_some.f l0 a1 a2 = some (r1, r2)) :
    Calls Try.prog 24 #[.slice A0 l0.length c0, .int .i64 a1, .string a2] w fun e w' => ∃ v0_ : Value, e = .returned (.tuple #[v0_, .int .i64 r2]) ∧ Kd.R k38 38 w' w.heap.size (fun _ => True) v0_ r1 ∧ Below w.heap.size w w' := by
  have hu38 := Try.underlying38
  have HR0 := Aside0.mk hr0
  have HC0 := Aside0.mk hc0
  clear hr0 hc0
  have HB := Aside0.mk (Below.refl w.heap.size w)
  have H : ((scope_inner.f l0 a2).bind fun t118 => (if t118 ≥ 0 then ((scope_Counter_20.f l0).bind fun t119 => (some (t119, t118))) else ((scope_Counter_20.f l0).bind fun t122 => (if t122.length < 3518437208883 then (some ((t122 ++ [(⟨a2, a1, 0, false⟩ : S38)]), (l0.length : Int))) else (none))))) = some (r1, r2) := h
  clear h
  replace H := Option.bind_eq_some_iff.mp H
  obtain ⟨t118, A40, H⟩ := H
  replace H : (if t118 ≥ 0 then ((scope_Counter_20.f l0).bind fun t119 => (some (t119, t118))) else ((scope_Counter_20.f l0).bind fun t122 => (if t122.length < 3518437208883 then (some ((t122 ++ [(⟨a2, a1, 0, false⟩ : S38)]), (l0.length : Int))) else (none)))) = some (r1, r2) := H
  have A4 := Aside0.mk A40
  clear A40
  by_cases c5 : t118 ≥ 0
  · rw [if_pos c5] at H
    have c5b0 : decide (0 ≤ t118) = true := decide_eq_true c5
    clear c5
    replace H := Option.bind_eq_some_iff.mp H
    obtain ⟨t119, A60, H⟩ := H
    replace H : (some (t119, t118)) = some (r1, r2) := H
    have A6 := Aside0.mk A60
    clear A60
    simp only [Option.some.injEq, Prod.mk.injEq] at H
    obtain ⟨rfl, rfl⟩ := H
    go_enter Try.func24, Try.ntmps24
    go_wp2_with (first | ((with_reducible refine gate_callee (f := 21) rfl ?_); refine goesL_ (some 11) rfl rfl Try.func21 (by kernel_rfl) rfl #[.slice A0 l0.length c0, .string a2] rfl (by (try simp only [List.map_toArray, List.map_cons, List.map_nil]); first | done | rfl | (simp only [List.length_drop, List.length_take]; rfl)) ?_; (with_reducible refine (scope_inner.calls _ _ l0 a2 t118 _ ?side1 ?side2 A4.out).mono ?_); (case side1 => repeat (first | exact HR0.out | (with_reducible refine Kd.C_alloc ?_ _) | (with_reducible refine Kd.C_drewN ?_ _) | (with_reducible refine Kd.C_drew ?_))); (case side2 => exact HC0.out); rintro e w7 ⟨rfl, hb⟩; refine ⟨_, rfl, ?_⟩; have n0_ := Aside0.mk (below_step (by repeat (first | (with_reducible first | exact HB.out | apply below_alloc | apply pw_below_drewN | apply below_drew1) | exact HB.out)) hb); clear HB; have HB := n0_; clear n0_; (try clear hb); (try clear hb2); (try clear hk); (try clear hi)) | ((with_reducible refine gate_callee (f := 20) rfl ?_); refine goesL_ (some 15) rfl rfl Try.func20 (by kernel_rfl) rfl #[.slice A0 l0.length c0] rfl (by (try simp only [List.map_toArray, List.map_cons, List.map_nil]); first | done | rfl | (simp only [List.length_drop, List.length_take]; rfl)) ?_; (with_reducible refine (scope_Counter_20.calls _ _ l0 t119 _ ?side1 ?side2 A6.out).mono ?_); (case side1 => repeat (first | exact (Kd.C_below HR0.out HB.out) | (with_reducible refine Kd.C_alloc ?_ _) | (with_reducible refine Kd.C_drewN ?_ _) | (with_reducible refine Kd.C_drew ?_))); (case side2 => exact HC0.out); rintro e w8 ⟨v120, rfl, ho0, hb⟩; refine ⟨_, rfl, ?_⟩; have n0_ := Aside0.mk (Kd.R_lower ho0 (below_size (by repeat (first | (with_reducible first | exact HB.out | apply below_alloc | apply pw_below_drewN | apply below_drew1) | exact HB.out)))); have n1_ := Aside0.mk (below_step (by repeat (first | (with_reducible first | exact HB.out | apply below_alloc | apply pw_below_drewN | apply below_drew1) | exact HB.out)) hb); clear HB; have HO121 := n0_; have HB := n1_; clear n0_ n1_; (try clear hb); (try clear hb2); (try clear hk); (try clear hi); (try clear ho0)))
    go_ret2
    exact ⟨_, by first | rfl | (simp [errW_none, errW_some] <;> rfl) | (simp [*, errW_none, errW_some] <;> rfl), by (with_reducible repeat (first | apply Kd.R_alloc | apply Kd.R_drewN | apply Kd.R_drew)); exact HO121.out, by repeat (first | (with_reducible first | exact HB.out | apply below_alloc | apply pw_below_drewN | apply below_drew1) | exact HB.out)⟩
  · rw [if_neg c5] at H
    have c5b0 : decide (0 ≤ t118) = false := decide_eq_false c5
    clear c5
    replace H := Option.bind_eq_some_iff.mp H
    obtain ⟨t122, A90, H⟩ := H
    replace H : (if t122.length < 3518437208883 then (some ((t122 ++ [(⟨a2, a1, 0, false⟩ : S38)]), (l0.length : Int))) else (none)) = some (r1, r2) := H
    have A9 := Aside0.mk A90
    clear A90
    by_cases c10 : t122.length < 3518437208883
    · rw [if_pos c10] at H
      have LMc10 := Aside0.mk c10
      clear c10
      obtain ⟨y125, hy125⟩ : ∃ y_ : List (S38), y_ = (t122 ++ [(⟨a2, a1, 0, false⟩ : S38)]) := ⟨_, rfl⟩
      replace H : (some (y125, (l0.length : Int))) = some (r1, r2) := by first | (rw [hy125]; with_reducible exact H) | (have H2_ := (Option.bind_some _ _).symm.trans H; rw [hy125]; with_reducible exact H2_) | (have H2_ := (Option.bind_some _ _).symm.trans H; with_reducible exact H2_) | with_reducible exact H | (rw [hy125]; exact H) | exact H
      have Ny125 := Aside0.mk hy125
      clear hy125
      simp only [Option.some.injEq, Prod.mk.injEq] at H
      obtain ⟨rfl, rfl⟩ := H
      go_enter Try.func24, Try.ntmps24
      go_wp2_with (first | ((with_reducible refine gate_callee (f := 21) rfl ?_); refine goesL_ (some 11) rfl rfl Try.func21 (by kernel_rfl) rfl #[.slice A0 l0.length c0, .string a2] rfl (by (try simp only [List.map_toArray, List.map_cons, List.map_nil]); first | done | rfl | (simp only [List.length_drop, List.length_take]; rfl)) ?_; (with_reducible refine (scope_inner.calls _ _ l0 a2 t118 _ ?side1 ?side2 A4.out).mono ?_); (case side1 => repeat (first | exact HR0.out | (with_reducible refine Kd.C_alloc ?_ _) | (with_reducible refine Kd.C_drewN ?_ _) | (with_reducible refine Kd.C_drew ?_))); (case side2 => exact HC0.out); rintro e w11 ⟨rfl, hb⟩; refine ⟨_, rfl, ?_⟩; have n0_ := Aside0.mk (below_step (by repeat (first | (with_reducible first | exact HB.out | apply below_alloc | apply pw_below_drewN | apply below_drew1) | exact HB.out)) hb); clear HB; have HB := n0_; clear n0_; (try clear hb); (try clear hb2); (try clear hk); (try clear hi)) | ((with_reducible refine gate_callee (f := 20) rfl ?_); refine goesL_ (some 18) rfl rfl Try.func20 (by kernel_rfl) rfl #[.slice A0 l0.length c0] rfl (by (try simp only [List.map_toArray, List.map_cons, List.map_nil]); first | done | rfl | (simp only [List.length_drop, List.length_take]; rfl)) ?_; (with_reducible refine (scope_Counter_20.calls _ _ l0 t122 _ ?side1 ?side2 A9.out).mono ?_); (case side1 => repeat (first | exact (Kd.C_below HR0.out HB.out) | (with_reducible refine Kd.C_alloc ?_ _) | (with_reducible refine Kd.C_drewN ?_ _) | (with_reducible refine Kd.C_drew ?_))); (case side2 => exact HC0.out); rintro e w12 ⟨v123, rfl, ho0, hb⟩; refine ⟨_, rfl, ?_⟩; have n0_ := Aside0.mk (Kd.R_lower ho0 (below_size (by repeat (first | (with_reducible first | exact HB.out | apply below_alloc | apply pw_below_drewN | apply below_drew1) | exact HB.out)))); have n1_ := Aside0.mk (below_step (by repeat (first | (with_reducible first | exact HB.out | apply below_alloc | apply pw_below_drewN | apply below_drew1) | exact HB.out)) hb); clear HB; have HO124 := n0_; have HB := n1_; clear n0_ n1_; (try clear hb); (try clear hb2); (try clear hk); (try clear hi); (try clear ho0)) | ((with_reducible refine gate_builtin (b := .append) (xs := #[.tmp 18, .tmp 22]) rfl ?_); at_builtin; refine Kd.R_append k38 (w0 := w) w.heap.size rfl (.tmp 18) (.tmp 22) 25 38 (.agg #[(.string ⟨#[]⟩), (.int .i64 0), (.int .i64 0), (.bool false)]) 40 rfl Try.underlying25 info38 rfl (by decide) (by omega) v123 t122 (⟨a2, a1, 0, false⟩ : S38) [.string a2, .int .i64 a1, .int .i64 0, .bool false] (fun _ => True) (fun _ => False) rfl rfl ?aP (fun _ hk => hk.elim) ?aF ?aO ?aB ?aS ?aL ?_; (case aP => exact k38_mkM _ _ _ (⟨a2, a1, 0, false⟩ : S38)); (case aB => exact (by repeat (first | (with_reducible first | exact HB.out | apply below_alloc | apply pw_below_drewN | apply below_drew1) | exact HB.out))); (case aF => exact (fun _ _ => trivial)); (case aO => exact (by (with_reducible repeat (first | apply Kd.R_alloc | apply Kd.R_drewN | apply Kd.R_drew)); exact HO124.out)); (case aS => exact (below_size (by repeat (first | (with_reducible first | exact HB.out | apply below_alloc | apply pw_below_drewN | apply below_drew1) | exact HB.out)))); (case aL => have := LMc10.out; omega); intro v126 w13 ho hb hg hat; rw [← Ny125.out] at ho; have n0_ := Aside0.mk (hb); have n1_ := Aside0.mk (ho); clear HB; clear HO124; have HB := n0_; have HO127 := n1_; clear n0_ n1_; clear ho hb hg hat))
      go_ret2
      exact ⟨_, by first | rfl | (simp [errW_none, errW_some] <;> rfl) | (simp [*, errW_none, errW_some] <;> rfl), by (with_reducible repeat (first | apply Kd.R_alloc | apply Kd.R_drewN | apply Kd.R_drew)); exact HO127.out, by repeat (first | (with_reducible first | exact HB.out | apply below_alloc | apply pw_below_drewN | apply below_drew1) | exact HB.out)⟩
    · rw [if_neg c10] at H
      exact absurd H (by simp)

/-! ### scope_Add: function 8 -/
def scope_Add.f (l0 : List (S38)) (a1 : Int) (a2_0 : ByteArray) (a2_1 : Int) (a2_2 : Bool) (a2_3 : Bool) : Option ((List (S38))) := (scope_some.f l0 a1 a2_0).bind fun bt129 => (if 0 ≤ bt129.2 then (if bt129.2 < (bt129.1.length : Int) then (if (wrap64 (((rd_T38 bt129.1 bt129.2).f2) + a2_1)) < (-2147483648) then (some bt129.1) else (if (wrap64 (((rd_T38 bt129.1 bt129.2).f2) + a2_1)) > 2147483647 then (some bt129.1) else (if ((decide ((wrap64 (((rd_T38 bt129.1 bt129.2).f2) + a2_1)) < ((rd_T38 bt129.1 bt129.2).f2))) != (decide (a2_1 < 0))) = true then (some bt129.1) else (some (bt129.1.set (bt129.2 : Int).toNat (⟨(rd_T38 bt129.1 bt129.2).f0, (rd_T38 bt129.1 bt129.2).f1, wrap64 (((rd_T38 bt129.1 bt129.2).f2) + a2_1), (rd_T38 bt129.1 bt129.2).f3⟩ : S38)))))) else (none)) else (none))
set_option maxHeartbeats 8000000 in
set_option maxRecDepth 100000 in
theorem scope_Add.calls (A0 : Option Addr) (c0 : Nat) (l0 : List (S38)) (a1 : Int) (a2_0 : ByteArray) (a2_1 : Int) (a2_2 : Bool) (a2_3 : Bool) (r : List (S38)) (w : World) (hr0 : Kd.C k38 w A0 l0.length l0) (hc0 : l0.length ≤ c0) (h : scope_Add.f l0 a1 a2_0 a2_1 a2_2 a2_3 = some r) :
    Calls Try.prog 8 #[.slice A0 l0.length c0, .int .i64 a1, .agg #[.string a2_0, .int .i64 a2_1, .bool a2_2, .bool a2_3]] w fun e w' => ∃ v0_ : Value, e = .returned (v0_) ∧ Kd.R k38 38 w' w.heap.size (fun _ => True) v0_ r ∧ Below w.heap.size w w' := by
  have hu28 := Try.underlying28
  have HR0 := Aside0.mk hr0
  have HC0 := Aside0.mk hc0
  clear hr0 hc0
  have HB := Aside0.mk (Below.refl w.heap.size w)
  have H : ((scope_some.f l0 a1 a2_0).bind fun bt129 => (if 0 ≤ bt129.2 then (if bt129.2 < (bt129.1.length : Int) then (if (wrap64 (((rd_T38 bt129.1 bt129.2).f2) + a2_1)) < (-2147483648) then (some bt129.1) else (if (wrap64 (((rd_T38 bt129.1 bt129.2).f2) + a2_1)) > 2147483647 then (some bt129.1) else (if ((decide ((wrap64 (((rd_T38 bt129.1 bt129.2).f2) + a2_1)) < ((rd_T38 bt129.1 bt129.2).f2))) != (decide (a2_1 < 0))) = true then (some bt129.1) else (some (bt129.1.set (bt129.2 : Int).toNat (⟨(rd_T38 bt129.1 bt129.2).f0, (rd_T38 bt129.1 bt129.2).f1, wrap64 (((rd_T38 bt129.1 bt129.2).f2) + a2_1), (rd_T38 bt129.1 bt129.2).f3⟩ : S38)))))) else (none)) else (none))) = some r := h
  clear h
  replace H := Option.bind_eq_some_iff.mp H
  obtain ⟨⟨t129, t130⟩, A40, H⟩ := H
  replace H : (if 0 ≤ t130 then (if t130 < (t129.length : Int) then (if (wrap64 (((rd_T38 t129 t130).f2) + a2_1)) < (-2147483648) then (some t129) else (if (wrap64 (((rd_T38 t129 t130).f2) + a2_1)) > 2147483647 then (some t129) else (if ((decide ((wrap64 (((rd_T38 t129 t130).f2) + a2_1)) < ((rd_T38 t129 t130).f2))) != (decide (a2_1 < 0))) = true then (some t129) else (some (t129.set (t130 : Int).toNat (⟨(rd_T38 t129 t130).f0, (rd_T38 t129 t130).f1, wrap64 (((rd_T38 t129 t130).f2) + a2_1), (rd_T38 t129 t130).f3⟩ : S38)))))) else (none)) else (none)) = some r := H
  have A4 := Aside0.mk A40
  clear A40
  by_cases c5 : 0 ≤ t130
  · rw [if_pos c5] at H
    have c5b0 : decide (0 ≤ t130) = true := decide_eq_true c5
    clear c5
    by_cases c6 : t130 < (t129.length : Int)
    · rw [if_pos c6] at H
      have c6b0 : decide (t130 < (t129.length : Int)) = true := decide_eq_true c6
      clear c6
      by_cases c7 : (wrap64 (((rd_T38 t129 t130).f2) + a2_1)) < (-2147483648)
      · rw [if_pos c7] at H
        have c7b0 : decide ((wrap64 (((rd_T38 t129 t130).f2) + a2_1)) < (-2147483648)) = true := decide_eq_true c7
        clear c7
        obtain rfl := Option.some.inj H
        go_enter Try.func8, Try.ntmps8
        go_wp2_with (first | ((with_reducible refine gate_dst (N := 5) rfl ?_); refine box_event ?hg (N := 5) ?hd (cs := #[.string a2_0, .int .i64 a2_1, .bool a2_2, .bool a2_3]) (t := 28) ?hr ?_; (case hd => rfl); (case hg => rfl); (case hr => first | (go_simp; done) | (go_simp; rfl)); intro gb128 hg w8 hbox hb; have n0_ := Aside0.mk (below_step (by repeat (first | (with_reducible first | exact HB.out | apply below_alloc | apply pw_below_drewN | apply below_drew1) | exact HB.out)) hb); have n1_ := Aside0.mk (hbox); have n2_ := Aside0.mk ((by rw [hg]; exact (below_size (by repeat (first | (with_reducible first | exact HB.out | apply below_alloc | apply pw_below_drewN | apply below_drew1) | exact HB.out))) : w.heap.size ≤ gb128)); have n3_ := Aside0.mk ((by rw [hg]; exact (below_size (by repeat (first | (with_reducible first | exact HB.out | apply below_alloc | apply pw_below_drewN | apply below_drew1) | exact HB.out))) : w.heap.size ≤ gb128)); clear HB; have HB := n0_; have BK128 := n1_; have GW128 := n2_; have GE128 := n3_; clear n0_ n1_ n2_ n3_; clear hb hbox hg; have hcz9_0 : w8.cell? ⟨gb128, 0, none⟩ = some (.string a2_0) := (blk_cell BK128.out 0).trans rfl; have hcz9_1 : w8.cell? ⟨gb128, 1, none⟩ = some (.int .i64 a2_1) := (blk_cell BK128.out 1).trans rfl; have hcz9_2 : w8.cell? ⟨gb128, 2, none⟩ = some (.bool a2_2) := (blk_cell BK128.out 2).trans rfl; have hcz9_3 : w8.cell? ⟨gb128, 3, none⟩ = some (.bool a2_3) := (blk_cell BK128.out 3).trans rfl; have hfz9_0 := blk_frozen BK128.out 0; have hfz9_1 := blk_frozen BK128.out 1; have hfz9_2 := blk_frozen BK128.out 2; have hfz9_3 := blk_frozen BK128.out 3) | (go_at_call 24; (with_reducible refine (scope_some.calls _ _ l0 a1 a2_0 t129 t130 _ ?side1 ?side2 A4.out).mono ?_); (case side1 => repeat (first | exact (Kd.C_below HR0.out HB.out) | (with_reducible refine Kd.C_alloc ?_ _) | (with_reducible refine Kd.C_drewN ?_ _) | (with_reducible refine Kd.C_drew ?_))); (case side2 => exact HC0.out); rintro e w10 ⟨v131, rfl, ho0, hb⟩; have n0_ := Aside0.mk (Kd.R_lower ho0 (below_size (by repeat (first | (with_reducible first | exact HB.out | apply below_alloc | apply pw_below_drewN | apply below_drew1 | refine below_set ?_ GE128.out) | exact HB.out)))); have n1_ := Aside0.mk (blk_below (g := gb128) (o := .cells #[.string a2_0, .int .i64 a2_1, .bool a2_2, .bool a2_3] 28 (0, 0)) (by (with_reducible repeat (first | refine blk_drewN ?_ _ | refine blk_drew ?_ | refine blk_alloc ?_ _)); exact BK128.out) hb); have n2_ := Aside0.mk (below_step (by repeat (first | (with_reducible first | exact HB.out | apply below_alloc | apply pw_below_drewN | apply below_drew1 | refine below_set ?_ GE128.out) | exact HB.out)) hb); clear BK128; clear HB; have HO132 := n0_; have BK128 := n1_; have HB := n2_; clear n0_ n1_ n2_; (try clear hb); (try clear hb2); (try clear hk); (try clear hi); (try clear ho0); obtain ⟨Ao11, co11, eo11⟩ := Kd.R_slice HO132.out; subst eo11; have p133 : 0 ≤ (t130 : Int) := of_decide_eq_true (by first | (with_reducible assumption) | assumption); have q133 : t130 < (t129.length : Int) := of_decide_eq_true (by first | (with_reducible assumption) | assumption); obtain ⟨ad133, e133, hx133_0, hx133_1, hx133_2, hx133_3⟩ := at_T38 (Kd.R_reads' HO132.out).2.2 t130 p133 q133; cases e133; replace p133 := eq_true p133; replace q133 := eq_true q133; have hcz12_0 : w10.cell? ⟨gb128, 0, none⟩ = some (.string a2_0) := (blk_cell BK128.out 0).trans rfl; have hcz12_1 : w10.cell? ⟨gb128, 1, none⟩ = some (.int .i64 a2_1) := (blk_cell BK128.out 1).trans rfl; have hcz12_2 : w10.cell? ⟨gb128, 2, none⟩ = some (.bool a2_2) := (blk_cell BK128.out 2).trans rfl; have hcz12_3 : w10.cell? ⟨gb128, 3, none⟩ = some (.bool a2_3) := (blk_cell BK128.out 3).trans rfl; have hfz12_0 := blk_frozen BK128.out 0; have hfz12_1 := blk_frozen BK128.out 1; have hfz12_2 := blk_frozen BK128.out 2; have hfz12_3 := blk_frozen BK128.out 3))
        repeat (go_quiet (first | ((with_reducible refine gate_dst (N := 5) rfl ?_); refine box_event ?hg (N := 5) ?hd (cs := #[.string a2_0, .int .i64 a2_1, .bool a2_2, .bool a2_3]) (t := 28) ?hr ?_; (case hd => rfl); (case hg => rfl); (case hr => first | (go_simp; done) | (go_simp; rfl)); intro gb128 hg w8 hbox hb; have n0_ := Aside0.mk (below_step (by repeat (first | (with_reducible first | exact HB.out | apply below_alloc | apply pw_below_drewN | apply below_drew1) | exact HB.out)) hb); have n1_ := Aside0.mk (hbox); have n2_ := Aside0.mk ((by rw [hg]; exact (below_size (by repeat (first | (with_reducible first | exact HB.out | apply below_alloc | apply pw_below_drewN | apply below_drew1) | exact HB.out))) : w.heap.size ≤ gb128)); have n3_ := Aside0.mk ((by rw [hg]; exact (below_size (by repeat (first | (with_reducible first | exact HB.out | apply below_alloc | apply pw_below_drewN | apply below_drew1) | exact HB.out))) : w.heap.size ≤ gb128)); clear HB; have HB := n0_; have BK128 := n1_; have GW128 := n2_; have GE128 := n3_; clear n0_ n1_ n2_ n3_; clear hb hbox hg; have hcz9_0 : w8.cell? ⟨gb128, 0, none⟩ = some (.string a2_0) := (blk_cell BK128.out 0).trans rfl; have hcz9_1 : w8.cell? ⟨gb128, 1, none⟩ = some (.int .i64 a2_1) := (blk_cell BK128.out 1).trans rfl; have hcz9_2 : w8.cell? ⟨gb128, 2, none⟩ = some (.bool a2_2) := (blk_cell BK128.out 2).trans rfl; have hcz9_3 : w8.cell? ⟨gb128, 3, none⟩ = some (.bool a2_3) := (blk_cell BK128.out 3).trans rfl; have hfz9_0 := blk_frozen BK128.out 0; have hfz9_1 := blk_frozen BK128.out 1; have hfz9_2 := blk_frozen BK128.out 2; have hfz9_3 := blk_frozen BK128.out 3) | (go_at_call 24; (with_reducible refine (scope_some.calls _ _ l0 a1 a2_0 t129 t130 _ ?side1 ?side2 A4.out).mono ?_); (case side1 => repeat (first | exact (Kd.C_below HR0.out HB.out) | (with_reducible refine Kd.C_alloc ?_ _) | (with_reducible refine Kd.C_drewN ?_ _) | (with_reducible refine Kd.C_drew ?_))); (case side2 => exact HC0.out); rintro e w10 ⟨v131, rfl, ho0, hb⟩; have n0_ := Aside0.mk (Kd.R_lower ho0 (below_size (by repeat (first | (with_reducible first | exact HB.out | apply below_alloc | apply pw_below_drewN | apply below_drew1 | refine below_set ?_ GE128.out) | exact HB.out)))); have n1_ := Aside0.mk (blk_below (g := gb128) (o := .cells #[.string a2_0, .int .i64 a2_1, .bool a2_2, .bool a2_3] 28 (0, 0)) (by (with_reducible repeat (first | refine blk_drewN ?_ _ | refine blk_drew ?_ | refine blk_alloc ?_ _)); exact BK128.out) hb); have n2_ := Aside0.mk (below_step (by repeat (first | (with_reducible first | exact HB.out | apply below_alloc | apply pw_below_drewN | apply below_drew1 | refine below_set ?_ GE128.out) | exact HB.out)) hb); clear BK128; clear HB; have HO132 := n0_; have BK128 := n1_; have HB := n2_; clear n0_ n1_ n2_; (try clear hb); (try clear hb2); (try clear hk); (try clear hi); (try clear ho0); obtain ⟨Ao11, co11, eo11⟩ := Kd.R_slice HO132.out; subst eo11; have p133 : 0 ≤ (t130 : Int) := of_decide_eq_true (by first | (with_reducible assumption) | assumption); have q133 : t130 < (t129.length : Int) := of_decide_eq_true (by first | (with_reducible assumption) | assumption); obtain ⟨ad133, e133, hx133_0, hx133_1, hx133_2, hx133_3⟩ := at_T38 (Kd.R_reads' HO132.out).2.2 t130 p133 q133; cases e133; replace p133 := eq_true p133; replace q133 := eq_true q133; have hcz12_0 : w10.cell? ⟨gb128, 0, none⟩ = some (.string a2_0) := (blk_cell BK128.out 0).trans rfl; have hcz12_1 : w10.cell? ⟨gb128, 1, none⟩ = some (.int .i64 a2_1) := (blk_cell BK128.out 1).trans rfl; have hcz12_2 : w10.cell? ⟨gb128, 2, none⟩ = some (.bool a2_2) := (blk_cell BK128.out 2).trans rfl; have hcz12_3 : w10.cell? ⟨gb128, 3, none⟩ = some (.bool a2_3) := (blk_cell BK128.out 3).trans rfl; have hfz12_0 := blk_frozen BK128.out 0; have hfz12_1 := blk_frozen BK128.out 1; have hfz12_2 := blk_frozen BK128.out 2; have hfz12_3 := blk_frozen BK128.out 3)); try go_wp2_with (first | ((with_reducible refine gate_dst (N := 5) rfl ?_); refine box_event ?hg (N := 5) ?hd (cs := #[.string a2_0, .int .i64 a2_1, .bool a2_2, .bool a2_3]) (t := 28) ?hr ?_; (case hd => rfl); (case hg => rfl); (case hr => first | (go_simp; done) | (go_simp; rfl)); intro gb128 hg w8 hbox hb; have n0_ := Aside0.mk (below_step (by repeat (first | (with_reducible first | exact HB.out | apply below_alloc | apply pw_below_drewN | apply below_drew1) | exact HB.out)) hb); have n1_ := Aside0.mk (hbox); have n2_ := Aside0.mk ((by rw [hg]; exact (below_size (by repeat (first | (with_reducible first | exact HB.out | apply below_alloc | apply pw_below_drewN | apply below_drew1) | exact HB.out))) : w.heap.size ≤ gb128)); have n3_ := Aside0.mk ((by rw [hg]; exact (below_size (by repeat (first | (with_reducible first | exact HB.out | apply below_alloc | apply pw_below_drewN | apply below_drew1) | exact HB.out))) : w.heap.size ≤ gb128)); clear HB; have HB := n0_; have BK128 := n1_; have GW128 := n2_; have GE128 := n3_; clear n0_ n1_ n2_ n3_; clear hb hbox hg; have hcz9_0 : w8.cell? ⟨gb128, 0, none⟩ = some (.string a2_0) := (blk_cell BK128.out 0).trans rfl; have hcz9_1 : w8.cell? ⟨gb128, 1, none⟩ = some (.int .i64 a2_1) := (blk_cell BK128.out 1).trans rfl; have hcz9_2 : w8.cell? ⟨gb128, 2, none⟩ = some (.bool a2_2) := (blk_cell BK128.out 2).trans rfl; have hcz9_3 : w8.cell? ⟨gb128, 3, none⟩ = some (.bool a2_3) := (blk_cell BK128.out 3).trans rfl; have hfz9_0 := blk_frozen BK128.out 0; have hfz9_1 := blk_frozen BK128.out 1; have hfz9_2 := blk_frozen BK128.out 2; have hfz9_3 := blk_frozen BK128.out 3) | (go_at_call 24; (with_reducible refine (scope_some.calls _ _ l0 a1 a2_0 t129 t130 _ ?side1 ?side2 A4.out).mono ?_); (case side1 => repeat (first | exact (Kd.C_below HR0.out HB.out) | (with_reducible refine Kd.C_alloc ?_ _) | (with_reducible refine Kd.C_drewN ?_ _) | (with_reducible refine Kd.C_drew ?_))); (case side2 => exact HC0.out); rintro e w10 ⟨v131, rfl, ho0, hb⟩; have n0_ := Aside0.mk (Kd.R_lower ho0 (below_size (by repeat (first | (with_reducible first | exact HB.out | apply below_alloc | apply pw_below_drewN | apply below_drew1 | refine below_set ?_ GE128.out) | exact HB.out)))); have n1_ := Aside0.mk (blk_below (g := gb128) (o := .cells #[.string a2_0, .int .i64 a2_1, .bool a2_2, .bool a2_3] 28 (0, 0)) (by (with_reducible repeat (first | refine blk_drewN ?_ _ | refine blk_drew ?_ | refine blk_alloc ?_ _)); exact BK128.out) hb); have n2_ := Aside0.mk (below_step (by repeat (first | (with_reducible first | exact HB.out | apply below_alloc | apply pw_below_drewN | apply below_drew1 | refine below_set ?_ GE128.out) | exact HB.out)) hb); clear BK128; clear HB; have HO132 := n0_; have BK128 := n1_; have HB := n2_; clear n0_ n1_ n2_; (try clear hb); (try clear hb2); (try clear hk); (try clear hi); (try clear ho0); obtain ⟨Ao11, co11, eo11⟩ := Kd.R_slice HO132.out; subst eo11; have p133 : 0 ≤ (t130 : Int) := of_decide_eq_true (by first | (with_reducible assumption) | assumption); have q133 : t130 < (t129.length : Int) := of_decide_eq_true (by first | (with_reducible assumption) | assumption); obtain ⟨ad133, e133, hx133_0, hx133_1, hx133_2, hx133_3⟩ := at_T38 (Kd.R_reads' HO132.out).2.2 t130 p133 q133; cases e133; replace p133 := eq_true p133; replace q133 := eq_true q133; have hcz12_0 : w10.cell? ⟨gb128, 0, none⟩ = some (.string a2_0) := (blk_cell BK128.out 0).trans rfl; have hcz12_1 : w10.cell? ⟨gb128, 1, none⟩ = some (.int .i64 a2_1) := (blk_cell BK128.out 1).trans rfl; have hcz12_2 : w10.cell? ⟨gb128, 2, none⟩ = some (.bool a2_2) := (blk_cell BK128.out 2).trans rfl; have hcz12_3 : w10.cell? ⟨gb128, 3, none⟩ = some (.bool a2_3) := (blk_cell BK128.out 3).trans rfl; have hfz12_0 := blk_frozen BK128.out 0; have hfz12_1 := blk_frozen BK128.out 1; have hfz12_2 := blk_frozen BK128.out 2; have hfz12_3 := blk_frozen BK128.out 3)))
        go_ret
        exact ⟨_, by first | rfl | (simp [errW_none, errW_some] <;> rfl) | (simp [*, errW_none, errW_some] <;> rfl), by (with_reducible repeat (first | apply Kd.R_alloc | apply Kd.R_drewN | apply Kd.R_drew)); exact HO132.out, by repeat (first | (with_reducible first | exact HB.out | apply below_alloc | apply pw_below_drewN | apply below_drew1 | refine below_set ?_ GE128.out) | exact HB.out)⟩
      · rw [if_neg c7] at H
        have c7b0 : decide ((wrap64 (((rd_T38 t129 t130).f2) + a2_1)) < (-2147483648)) = false := decide_eq_false c7
        clear c7
        by_cases c13 : (wrap64 (((rd_T38 t129 t130).f2) + a2_1)) > 2147483647
        · rw [if_pos c13] at H
          have c13b0 : decide (2147483647 < (wrap64 (((rd_T38 t129 t130).f2) + a2_1))) = true := decide_eq_true c13
          clear c13
          obtain rfl := Option.some.inj H
          go_enter Try.func8, Try.ntmps8
          go_wp2_with (first | ((with_reducible refine gate_dst (N := 5) rfl ?_); refine box_event ?hg (N := 5) ?hd (cs := #[.string a2_0, .int .i64 a2_1, .bool a2_2, .bool a2_3]) (t := 28) ?hr ?_; (case hd => rfl); (case hg => rfl); (case hr => first | (go_simp; done) | (go_simp; rfl)); intro gb128 hg w14 hbox hb; have n0_ := Aside0.mk (below_step (by repeat (first | (with_reducible first | exact HB.out | apply below_alloc | apply pw_below_drewN | apply below_drew1) | exact HB.out)) hb); have n1_ := Aside0.mk (hbox); have n2_ := Aside0.mk ((by rw [hg]; exact (below_size (by repeat (first | (with_reducible first | exact HB.out | apply below_alloc | apply pw_below_drewN | apply below_drew1) | exact HB.out))) : w.heap.size ≤ gb128)); have n3_ := Aside0.mk ((by rw [hg]; exact (below_size (by repeat (first | (with_reducible first | exact HB.out | apply below_alloc | apply pw_below_drewN | apply below_drew1) | exact HB.out))) : w.heap.size ≤ gb128)); clear HB; have HB := n0_; have BK128 := n1_; have GW128 := n2_; have GE128 := n3_; clear n0_ n1_ n2_ n3_; clear hb hbox hg; have hcz15_0 : w14.cell? ⟨gb128, 0, none⟩ = some (.string a2_0) := (blk_cell BK128.out 0).trans rfl; have hcz15_1 : w14.cell? ⟨gb128, 1, none⟩ = some (.int .i64 a2_1) := (blk_cell BK128.out 1).trans rfl; have hcz15_2 : w14.cell? ⟨gb128, 2, none⟩ = some (.bool a2_2) := (blk_cell BK128.out 2).trans rfl; have hcz15_3 : w14.cell? ⟨gb128, 3, none⟩ = some (.bool a2_3) := (blk_cell BK128.out 3).trans rfl; have hfz15_0 := blk_frozen BK128.out 0; have hfz15_1 := blk_frozen BK128.out 1; have hfz15_2 := blk_frozen BK128.out 2; have hfz15_3 := blk_frozen BK128.out 3) | (go_at_call 24; (with_reducible refine (scope_some.calls _ _ l0 a1 a2_0 t129 t130 _ ?side1 ?side2 A4.out).mono ?_); (case side1 => repeat (first | exact (Kd.C_below HR0.out HB.out) | (with_reducible refine Kd.C_alloc ?_ _) | (with_reducible refine Kd.C_drewN ?_ _) | (with_reducible refine Kd.C_drew ?_))); (case side2 => exact HC0.out); rintro e w16 ⟨v131, rfl, ho0, hb⟩; have n0_ := Aside0.mk (Kd.R_lower ho0 (below_size (by repeat (first | (with_reducible first | exact HB.out | apply below_alloc | apply pw_below_drewN | apply below_drew1 | refine below_set ?_ GE128.out) | exact HB.out)))); have n1_ := Aside0.mk (blk_below (g := gb128) (o := .cells #[.string a2_0, .int .i64 a2_1, .bool a2_2, .bool a2_3] 28 (0, 0)) (by (with_reducible repeat (first | refine blk_drewN ?_ _ | refine blk_drew ?_ | refine blk_alloc ?_ _)); exact BK128.out) hb); have n2_ := Aside0.mk (below_step (by repeat (first | (with_reducible first | exact HB.out | apply below_alloc | apply pw_below_drewN | apply below_drew1 | refine below_set ?_ GE128.out) | exact HB.out)) hb); clear BK128; clear HB; have HO132 := n0_; have BK128 := n1_; have HB := n2_; clear n0_ n1_ n2_; (try clear hb); (try clear hb2); (try clear hk); (try clear hi); (try clear ho0); obtain ⟨Ao17, co17, eo17⟩ := Kd.R_slice HO132.out; subst eo17; have p133 : 0 ≤ (t130 : Int) := of_decide_eq_true (by first | (with_reducible assumption) | assumption); have q133 : t130 < (t129.length : Int) := of_decide_eq_true (by first | (with_reducible assumption) | assumption); obtain ⟨ad133, e133, hx133_0, hx133_1, hx133_2, hx133_3⟩ := at_T38 (Kd.R_reads' HO132.out).2.2 t130 p133 q133; cases e133; replace p133 := eq_true p133; replace q133 := eq_true q133; have hcz18_0 : w16.cell? ⟨gb128, 0, none⟩ = some (.string a2_0) := (blk_cell BK128.out 0).trans rfl; have hcz18_1 : w16.cell? ⟨gb128, 1, none⟩ = some (.int .i64 a2_1) := (blk_cell BK128.out 1).trans rfl; have hcz18_2 : w16.cell? ⟨gb128, 2, none⟩ = some (.bool a2_2) := (blk_cell BK128.out 2).trans rfl; have hcz18_3 : w16.cell? ⟨gb128, 3, none⟩ = some (.bool a2_3) := (blk_cell BK128.out 3).trans rfl; have hfz18_0 := blk_frozen BK128.out 0; have hfz18_1 := blk_frozen BK128.out 1; have hfz18_2 := blk_frozen BK128.out 2; have hfz18_3 := blk_frozen BK128.out 3))
          repeat (go_quiet (first | ((with_reducible refine gate_dst (N := 5) rfl ?_); refine box_event ?hg (N := 5) ?hd (cs := #[.string a2_0, .int .i64 a2_1, .bool a2_2, .bool a2_3]) (t := 28) ?hr ?_; (case hd => rfl); (case hg => rfl); (case hr => first | (go_simp; done) | (go_simp; rfl)); intro gb128 hg w14 hbox hb; have n0_ := Aside0.mk (below_step (by repeat (first | (with_reducible first | exact HB.out | apply below_alloc | apply pw_below_drewN | apply below_drew1) | exact HB.out)) hb); have n1_ := Aside0.mk (hbox); have n2_ := Aside0.mk ((by rw [hg]; exact (below_size (by repeat (first | (with_reducible first | exact HB.out | apply below_alloc | apply pw_below_drewN | apply below_drew1) | exact HB.out))) : w.heap.size ≤ gb128)); have n3_ := Aside0.mk ((by rw [hg]; exact (below_size (by repeat (first | (with_reducible first | exact HB.out | apply below_alloc | apply pw_below_drewN | apply below_drew1) | exact HB.out))) : w.heap.size ≤ gb128)); clear HB; have HB := n0_; have BK128 := n1_; have GW128 := n2_; have GE128 := n3_; clear n0_ n1_ n2_ n3_; clear hb hbox hg; have hcz15_0 : w14.cell? ⟨gb128, 0, none⟩ = some (.string a2_0) := (blk_cell BK128.out 0).trans rfl; have hcz15_1 : w14.cell? ⟨gb128, 1, none⟩ = some (.int .i64 a2_1) := (blk_cell BK128.out 1).trans rfl; have hcz15_2 : w14.cell? ⟨gb128, 2, none⟩ = some (.bool a2_2) := (blk_cell BK128.out 2).trans rfl; have hcz15_3 : w14.cell? ⟨gb128, 3, none⟩ = some (.bool a2_3) := (blk_cell BK128.out 3).trans rfl; have hfz15_0 := blk_frozen BK128.out 0; have hfz15_1 := blk_frozen BK128.out 1; have hfz15_2 := blk_frozen BK128.out 2; have hfz15_3 := blk_frozen BK128.out 3) | (go_at_call 24; (with_reducible refine (scope_some.calls _ _ l0 a1 a2_0 t129 t130 _ ?side1 ?side2 A4.out).mono ?_); (case side1 => repeat (first | exact (Kd.C_below HR0.out HB.out) | (with_reducible refine Kd.C_alloc ?_ _) | (with_reducible refine Kd.C_drewN ?_ _) | (with_reducible refine Kd.C_drew ?_))); (case side2 => exact HC0.out); rintro e w16 ⟨v131, rfl, ho0, hb⟩; have n0_ := Aside0.mk (Kd.R_lower ho0 (below_size (by repeat (first | (with_reducible first | exact HB.out | apply below_alloc | apply pw_below_drewN | apply below_drew1 | refine below_set ?_ GE128.out) | exact HB.out)))); have n1_ := Aside0.mk (blk_below (g := gb128) (o := .cells #[.string a2_0, .int .i64 a2_1, .bool a2_2, .bool a2_3] 28 (0, 0)) (by (with_reducible repeat (first | refine blk_drewN ?_ _ | refine blk_drew ?_ | refine blk_alloc ?_ _)); exact BK128.out) hb); have n2_ := Aside0.mk (below_step (by repeat (first | (with_reducible first | exact HB.out | apply below_alloc | apply pw_below_drewN | apply below_drew1 | refine below_set ?_ GE128.out) | exact HB.out)) hb); clear BK128; clear HB; have HO132 := n0_; have BK128 := n1_; have HB := n2_; clear n0_ n1_ n2_; (try clear hb); (try clear hb2); (try clear hk); (try clear hi); (try clear ho0); obtain ⟨Ao17, co17, eo17⟩ := Kd.R_slice HO132.out; subst eo17; have p133 : 0 ≤ (t130 : Int) := of_decide_eq_true (by first | (with_reducible assumption) | assumption); have q133 : t130 < (t129.length : Int) := of_decide_eq_true (by first | (with_reducible assumption) | assumption); obtain ⟨ad133, e133, hx133_0, hx133_1, hx133_2, hx133_3⟩ := at_T38 (Kd.R_reads' HO132.out).2.2 t130 p133 q133; cases e133; replace p133 := eq_true p133; replace q133 := eq_true q133; have hcz18_0 : w16.cell? ⟨gb128, 0, none⟩ = some (.string a2_0) := (blk_cell BK128.out 0).trans rfl; have hcz18_1 : w16.cell? ⟨gb128, 1, none⟩ = some (.int .i64 a2_1) := (blk_cell BK128.out 1).trans rfl; have hcz18_2 : w16.cell? ⟨gb128, 2, none⟩ = some (.bool a2_2) := (blk_cell BK128.out 2).trans rfl; have hcz18_3 : w16.cell? ⟨gb128, 3, none⟩ = some (.bool a2_3) := (blk_cell BK128.out 3).trans rfl; have hfz18_0 := blk_frozen BK128.out 0; have hfz18_1 := blk_frozen BK128.out 1; have hfz18_2 := blk_frozen BK128.out 2; have hfz18_3 := blk_frozen BK128.out 3)); try go_wp2_with (first | ((with_reducible refine gate_dst (N := 5) rfl ?_); refine box_event ?hg (N := 5) ?hd (cs := #[.string a2_0, .int .i64 a2_1, .bool a2_2, .bool a2_3]) (t := 28) ?hr ?_; (case hd => rfl); (case hg => rfl); (case hr => first | (go_simp; done) | (go_simp; rfl)); intro gb128 hg w14 hbox hb; have n0_ := Aside0.mk (below_step (by repeat (first | (with_reducible first | exact HB.out | apply below_alloc | apply pw_below_drewN | apply below_drew1) | exact HB.out)) hb); have n1_ := Aside0.mk (hbox); have n2_ := Aside0.mk ((by rw [hg]; exact (below_size (by repeat (first | (with_reducible first | exact HB.out | apply below_alloc | apply pw_below_drewN | apply below_drew1) | exact HB.out))) : w.heap.size ≤ gb128)); have n3_ := Aside0.mk ((by rw [hg]; exact (below_size (by repeat (first | (with_reducible first | exact HB.out | apply below_alloc | apply pw_below_drewN | apply below_drew1) | exact HB.out))) : w.heap.size ≤ gb128)); clear HB; have HB := n0_; have BK128 := n1_; have GW128 := n2_; have GE128 := n3_; clear n0_ n1_ n2_ n3_; clear hb hbox hg; have hcz15_0 : w14.cell? ⟨gb128, 0, none⟩ = some (.string a2_0) := (blk_cell BK128.out 0).trans rfl; have hcz15_1 : w14.cell? ⟨gb128, 1, none⟩ = some (.int .i64 a2_1) := (blk_cell BK128.out 1).trans rfl; have hcz15_2 : w14.cell? ⟨gb128, 2, none⟩ = some (.bool a2_2) := (blk_cell BK128.out 2).trans rfl; have hcz15_3 : w14.cell? ⟨gb128, 3, none⟩ = some (.bool a2_3) := (blk_cell BK128.out 3).trans rfl; have hfz15_0 := blk_frozen BK128.out 0; have hfz15_1 := blk_frozen BK128.out 1; have hfz15_2 := blk_frozen BK128.out 2; have hfz15_3 := blk_frozen BK128.out 3) | (go_at_call 24; (with_reducible refine (scope_some.calls _ _ l0 a1 a2_0 t129 t130 _ ?side1 ?side2 A4.out).mono ?_); (case side1 => repeat (first | exact (Kd.C_below HR0.out HB.out) | (with_reducible refine Kd.C_alloc ?_ _) | (with_reducible refine Kd.C_drewN ?_ _) | (with_reducible refine Kd.C_drew ?_))); (case side2 => exact HC0.out); rintro e w16 ⟨v131, rfl, ho0, hb⟩; have n0_ := Aside0.mk (Kd.R_lower ho0 (below_size (by repeat (first | (with_reducible first | exact HB.out | apply below_alloc | apply pw_below_drewN | apply below_drew1 | refine below_set ?_ GE128.out) | exact HB.out)))); have n1_ := Aside0.mk (blk_below (g := gb128) (o := .cells #[.string a2_0, .int .i64 a2_1, .bool a2_2, .bool a2_3] 28 (0, 0)) (by (with_reducible repeat (first | refine blk_drewN ?_ _ | refine blk_drew ?_ | refine blk_alloc ?_ _)); exact BK128.out) hb); have n2_ := Aside0.mk (below_step (by repeat (first | (with_reducible first | exact HB.out | apply below_alloc | apply pw_below_drewN | apply below_drew1 | refine below_set ?_ GE128.out) | exact HB.out)) hb); clear BK128; clear HB; have HO132 := n0_; have BK128 := n1_; have HB := n2_; clear n0_ n1_ n2_; (try clear hb); (try clear hb2); (try clear hk); (try clear hi); (try clear ho0); obtain ⟨Ao17, co17, eo17⟩ := Kd.R_slice HO132.out; subst eo17; have p133 : 0 ≤ (t130 : Int) := of_decide_eq_true (by first | (with_reducible assumption) | assumption); have q133 : t130 < (t129.length : Int) := of_decide_eq_true (by first | (with_reducible assumption) | assumption); obtain ⟨ad133, e133, hx133_0, hx133_1, hx133_2, hx133_3⟩ := at_T38 (Kd.R_reads' HO132.out).2.2 t130 p133 q133; cases e133; replace p133 := eq_true p133; replace q133 := eq_true q133; have hcz18_0 : w16.cell? ⟨gb128, 0, none⟩ = some (.string a2_0) := (blk_cell BK128.out 0).trans rfl; have hcz18_1 : w16.cell? ⟨gb128, 1, none⟩ = some (.int .i64 a2_1) := (blk_cell BK128.out 1).trans rfl; have hcz18_2 : w16.cell? ⟨gb128, 2, none⟩ = some (.bool a2_2) := (blk_cell BK128.out 2).trans rfl; have hcz18_3 : w16.cell? ⟨gb128, 3, none⟩ = some (.bool a2_3) := (blk_cell BK128.out 3).trans rfl; have hfz18_0 := blk_frozen BK128.out 0; have hfz18_1 := blk_frozen BK128.out 1; have hfz18_2 := blk_frozen BK128.out 2; have hfz18_3 := blk_frozen BK128.out 3)))
          go_ret
          exact ⟨_, by first | rfl | (simp [errW_none, errW_some] <;> rfl) | (simp [*, errW_none, errW_some] <;> rfl), by (with_reducible repeat (first | apply Kd.R_alloc | apply Kd.R_drewN | apply Kd.R_drew)); exact HO132.out, by repeat (first | (with_reducible first | exact HB.out | apply below_alloc | apply pw_below_drewN | apply below_drew1 | refine below_set ?_ GE128.out) | exact HB.out)⟩
        · rw [if_neg c13] at H
          have c13b0 : decide (2147483647 < (wrap64 (((rd_T38 t129 t130).f2) + a2_1))) = false := decide_eq_false c13
          clear c13
          by_cases c19 : ((decide ((wrap64 (((rd_T38 t129 t130).f2) + a2_1)) < ((rd_T38 t129 t130).f2))) != (decide (a2_1 < 0))) = true
          · rw [if_pos c19] at H
            have c19b0 : ((decide ((wrap64 (((rd_T38 t129 t130).f2) + a2_1)) < ((rd_T38 t129 t130).f2))) != (decide (a2_1 < 0))) = true := c19
            (try (have c19b1 : decide ((decide ((wrap64 (((rd_T38 t129 t130).f2) + a2_1)) < ((rd_T38 t129 t130).f2))) = (decide (a2_1 < 0))) = false := by simpa using c19))
            (try (have c19b2 : ((decide ((wrap64 (((rd_T38 t129 t130).f2) + a2_1)) < ((rd_T38 t129 t130).f2))) == (decide (a2_1 < 0))) = false := by simpa using c19))
            (try (have c19b3 : ¬ ((decide ((wrap64 (((rd_T38 t129 t130).f2) + a2_1)) < ((rd_T38 t129 t130).f2))) = (decide (a2_1 < 0))) := by simpa using c19))
            clear c19
            obtain rfl := Option.some.inj H
            go_enter Try.func8, Try.ntmps8
            go_wp2_with (first | ((with_reducible refine gate_dst (N := 5) rfl ?_); refine box_event ?hg (N := 5) ?hd (cs := #[.string a2_0, .int .i64 a2_1, .bool a2_2, .bool a2_3]) (t := 28) ?hr ?_; (case hd => rfl); (case hg => rfl); (case hr => first | (go_simp; done) | (go_simp; rfl)); intro gb128 hg w20 hbox hb; have n0_ := Aside0.mk (below_step (by repeat (first | (with_reducible first | exact HB.out | apply below_alloc | apply pw_below_drewN | apply below_drew1) | exact HB.out)) hb); have n1_ := Aside0.mk (hbox); have n2_ := Aside0.mk ((by rw [hg]; exact (below_size (by repeat (first | (with_reducible first | exact HB.out | apply below_alloc | apply pw_below_drewN | apply below_drew1) | exact HB.out))) : w.heap.size ≤ gb128)); have n3_ := Aside0.mk ((by rw [hg]; exact (below_size (by repeat (first | (with_reducible first | exact HB.out | apply below_alloc | apply pw_below_drewN | apply below_drew1) | exact HB.out))) : w.heap.size ≤ gb128)); clear HB; have HB := n0_; have BK128 := n1_; have GW128 := n2_; have GE128 := n3_; clear n0_ n1_ n2_ n3_; clear hb hbox hg; have hcz21_0 : w20.cell? ⟨gb128, 0, none⟩ = some (.string a2_0) := (blk_cell BK128.out 0).trans rfl; have hcz21_1 : w20.cell? ⟨gb128, 1, none⟩ = some (.int .i64 a2_1) := (blk_cell BK128.out 1).trans rfl; have hcz21_2 : w20.cell? ⟨gb128, 2, none⟩ = some (.bool a2_2) := (blk_cell BK128.out 2).trans rfl; have hcz21_3 : w20.cell? ⟨gb128, 3, none⟩ = some (.bool a2_3) := (blk_cell BK128.out 3).trans rfl; have hfz21_0 := blk_frozen BK128.out 0; have hfz21_1 := blk_frozen BK128.out 1; have hfz21_2 := blk_frozen BK128.out 2; have hfz21_3 := blk_frozen BK128.out 3) | (go_at_call 24; (with_reducible refine (scope_some.calls _ _ l0 a1 a2_0 t129 t130 _ ?side1 ?side2 A4.out).mono ?_); (case side1 => repeat (first | exact (Kd.C_below HR0.out HB.out) | (with_reducible refine Kd.C_alloc ?_ _) | (with_reducible refine Kd.C_drewN ?_ _) | (with_reducible refine Kd.C_drew ?_))); (case side2 => exact HC0.out); rintro e w22 ⟨v131, rfl, ho0, hb⟩; have n0_ := Aside0.mk (Kd.R_lower ho0 (below_size (by repeat (first | (with_reducible first | exact HB.out | apply below_alloc | apply pw_below_drewN | apply below_drew1 | refine below_set ?_ GE128.out) | exact HB.out)))); have n1_ := Aside0.mk (blk_below (g := gb128) (o := .cells #[.string a2_0, .int .i64 a2_1, .bool a2_2, .bool a2_3] 28 (0, 0)) (by (with_reducible repeat (first | refine blk_drewN ?_ _ | refine blk_drew ?_ | refine blk_alloc ?_ _)); exact BK128.out) hb); have n2_ := Aside0.mk (below_step (by repeat (first | (with_reducible first | exact HB.out | apply below_alloc | apply pw_below_drewN | apply below_drew1 | refine below_set ?_ GE128.out) | exact HB.out)) hb); clear BK128; clear HB; have HO132 := n0_; have BK128 := n1_; have HB := n2_; clear n0_ n1_ n2_; (try clear hb); (try clear hb2); (try clear hk); (try clear hi); (try clear ho0); obtain ⟨Ao23, co23, eo23⟩ := Kd.R_slice HO132.out; subst eo23; have p133 : 0 ≤ (t130 : Int) := of_decide_eq_true (by first | (with_reducible assumption) | assumption); have q133 : t130 < (t129.length : Int) := of_decide_eq_true (by first | (with_reducible assumption) | assumption); obtain ⟨ad133, e133, hx133_0, hx133_1, hx133_2, hx133_3⟩ := at_T38 (Kd.R_reads' HO132.out).2.2 t130 p133 q133; cases e133; replace p133 := eq_true p133; replace q133 := eq_true q133; have hcz24_0 : w22.cell? ⟨gb128, 0, none⟩ = some (.string a2_0) := (blk_cell BK128.out 0).trans rfl; have hcz24_1 : w22.cell? ⟨gb128, 1, none⟩ = some (.int .i64 a2_1) := (blk_cell BK128.out 1).trans rfl; have hcz24_2 : w22.cell? ⟨gb128, 2, none⟩ = some (.bool a2_2) := (blk_cell BK128.out 2).trans rfl; have hcz24_3 : w22.cell? ⟨gb128, 3, none⟩ = some (.bool a2_3) := (blk_cell BK128.out 3).trans rfl; have hfz24_0 := blk_frozen BK128.out 0; have hfz24_1 := blk_frozen BK128.out 1; have hfz24_2 := blk_frozen BK128.out 2; have hfz24_3 := blk_frozen BK128.out 3; have p134 : 0 ≤ (t130 : Int) := of_decide_eq_true (by first | (with_reducible assumption) | assumption); have q134 : t130 < (t129.length : Int) := of_decide_eq_true (by first | (with_reducible assumption) | assumption); obtain ⟨ad134, e134, hx134_0, hx134_1, hx134_2, hx134_3⟩ := at_T38 (Kd.R_reads' HO132.out).2.2 t130 p134 q134; obtain rfl : ad133 = ad134 := (by injection e134); replace p134 := eq_true p134; replace q134 := eq_true q134))
            repeat (go_quiet (first | ((with_reducible refine gate_dst (N := 5) rfl ?_); refine box_event ?hg (N := 5) ?hd (cs := #[.string a2_0, .int .i64 a2_1, .bool a2_2, .bool a2_3]) (t := 28) ?hr ?_; (case hd => rfl); (case hg => rfl); (case hr => first | (go_simp; done) | (go_simp; rfl)); intro gb128 hg w20 hbox hb; have n0_ := Aside0.mk (below_step (by repeat (first | (with_reducible first | exact HB.out | apply below_alloc | apply pw_below_drewN | apply below_drew1) | exact HB.out)) hb); have n1_ := Aside0.mk (hbox); have n2_ := Aside0.mk ((by rw [hg]; exact (below_size (by repeat (first | (with_reducible first | exact HB.out | apply below_alloc | apply pw_below_drewN | apply below_drew1) | exact HB.out))) : w.heap.size ≤ gb128)); have n3_ := Aside0.mk ((by rw [hg]; exact (below_size (by repeat (first | (with_reducible first | exact HB.out | apply below_alloc | apply pw_below_drewN | apply below_drew1) | exact HB.out))) : w.heap.size ≤ gb128)); clear HB; have HB := n0_; have BK128 := n1_; have GW128 := n2_; have GE128 := n3_; clear n0_ n1_ n2_ n3_; clear hb hbox hg; have hcz21_0 : w20.cell? ⟨gb128, 0, none⟩ = some (.string a2_0) := (blk_cell BK128.out 0).trans rfl; have hcz21_1 : w20.cell? ⟨gb128, 1, none⟩ = some (.int .i64 a2_1) := (blk_cell BK128.out 1).trans rfl; have hcz21_2 : w20.cell? ⟨gb128, 2, none⟩ = some (.bool a2_2) := (blk_cell BK128.out 2).trans rfl; have hcz21_3 : w20.cell? ⟨gb128, 3, none⟩ = some (.bool a2_3) := (blk_cell BK128.out 3).trans rfl; have hfz21_0 := blk_frozen BK128.out 0; have hfz21_1 := blk_frozen BK128.out 1; have hfz21_2 := blk_frozen BK128.out 2; have hfz21_3 := blk_frozen BK128.out 3) | (go_at_call 24; (with_reducible refine (scope_some.calls _ _ l0 a1 a2_0 t129 t130 _ ?side1 ?side2 A4.out).mono ?_); (case side1 => repeat (first | exact (Kd.C_below HR0.out HB.out) | (with_reducible refine Kd.C_alloc ?_ _) | (with_reducible refine Kd.C_drewN ?_ _) | (with_reducible refine Kd.C_drew ?_))); (case side2 => exact HC0.out); rintro e w22 ⟨v131, rfl, ho0, hb⟩; have n0_ := Aside0.mk (Kd.R_lower ho0 (below_size (by repeat (first | (with_reducible first | exact HB.out | apply below_alloc | apply pw_below_drewN | apply below_drew1 | refine below_set ?_ GE128.out) | exact HB.out)))); have n1_ := Aside0.mk (blk_below (g := gb128) (o := .cells #[.string a2_0, .int .i64 a2_1, .bool a2_2, .bool a2_3] 28 (0, 0)) (by (with_reducible repeat (first | refine blk_drewN ?_ _ | refine blk_drew ?_ | refine blk_alloc ?_ _)); exact BK128.out) hb); have n2_ := Aside0.mk (below_step (by repeat (first | (with_reducible first | exact HB.out | apply below_alloc | apply pw_below_drewN | apply below_drew1 | refine below_set ?_ GE128.out) | exact HB.out)) hb); clear BK128; clear HB; have HO132 := n0_; have BK128 := n1_; have HB := n2_; clear n0_ n1_ n2_; (try clear hb); (try clear hb2); (try clear hk); (try clear hi); (try clear ho0); obtain ⟨Ao23, co23, eo23⟩ := Kd.R_slice HO132.out; subst eo23; have p133 : 0 ≤ (t130 : Int) := of_decide_eq_true (by first | (with_reducible assumption) | assumption); have q133 : t130 < (t129.length : Int) := of_decide_eq_true (by first | (with_reducible assumption) | assumption); obtain ⟨ad133, e133, hx133_0, hx133_1, hx133_2, hx133_3⟩ := at_T38 (Kd.R_reads' HO132.out).2.2 t130 p133 q133; cases e133; replace p133 := eq_true p133; replace q133 := eq_true q133; have hcz24_0 : w22.cell? ⟨gb128, 0, none⟩ = some (.string a2_0) := (blk_cell BK128.out 0).trans rfl; have hcz24_1 : w22.cell? ⟨gb128, 1, none⟩ = some (.int .i64 a2_1) := (blk_cell BK128.out 1).trans rfl; have hcz24_2 : w22.cell? ⟨gb128, 2, none⟩ = some (.bool a2_2) := (blk_cell BK128.out 2).trans rfl; have hcz24_3 : w22.cell? ⟨gb128, 3, none⟩ = some (.bool a2_3) := (blk_cell BK128.out 3).trans rfl; have hfz24_0 := blk_frozen BK128.out 0; have hfz24_1 := blk_frozen BK128.out 1; have hfz24_2 := blk_frozen BK128.out 2; have hfz24_3 := blk_frozen BK128.out 3; have p134 : 0 ≤ (t130 : Int) := of_decide_eq_true (by first | (with_reducible assumption) | assumption); have q134 : t130 < (t129.length : Int) := of_decide_eq_true (by first | (with_reducible assumption) | assumption); obtain ⟨ad134, e134, hx134_0, hx134_1, hx134_2, hx134_3⟩ := at_T38 (Kd.R_reads' HO132.out).2.2 t130 p134 q134; obtain rfl : ad133 = ad134 := (by injection e134); replace p134 := eq_true p134; replace q134 := eq_true q134)); try go_wp2_with (first | ((with_reducible refine gate_dst (N := 5) rfl ?_); refine box_event ?hg (N := 5) ?hd (cs := #[.string a2_0, .int .i64 a2_1, .bool a2_2, .bool a2_3]) (t := 28) ?hr ?_; (case hd => rfl); (case hg => rfl); (case hr => first | (go_simp; done) | (go_simp; rfl)); intro gb128 hg w20 hbox hb; have n0_ := Aside0.mk (below_step (by repeat (first | (with_reducible first | exact HB.out | apply below_alloc | apply pw_below_drewN | apply below_drew1) | exact HB.out)) hb); have n1_ := Aside0.mk (hbox); have n2_ := Aside0.mk ((by rw [hg]; exact (below_size (by repeat (first | (with_reducible first | exact HB.out | apply below_alloc | apply pw_below_drewN | apply below_drew1) | exact HB.out))) : w.heap.size ≤ gb128)); have n3_ := Aside0.mk ((by rw [hg]; exact (below_size (by repeat (first | (with_reducible first | exact HB.out | apply below_alloc | apply pw_below_drewN | apply below_drew1) | exact HB.out))) : w.heap.size ≤ gb128)); clear HB; have HB := n0_; have BK128 := n1_; have GW128 := n2_; have GE128 := n3_; clear n0_ n1_ n2_ n3_; clear hb hbox hg; have hcz21_0 : w20.cell? ⟨gb128, 0, none⟩ = some (.string a2_0) := (blk_cell BK128.out 0).trans rfl; have hcz21_1 : w20.cell? ⟨gb128, 1, none⟩ = some (.int .i64 a2_1) := (blk_cell BK128.out 1).trans rfl; have hcz21_2 : w20.cell? ⟨gb128, 2, none⟩ = some (.bool a2_2) := (blk_cell BK128.out 2).trans rfl; have hcz21_3 : w20.cell? ⟨gb128, 3, none⟩ = some (.bool a2_3) := (blk_cell BK128.out 3).trans rfl; have hfz21_0 := blk_frozen BK128.out 0; have hfz21_1 := blk_frozen BK128.out 1; have hfz21_2 := blk_frozen BK128.out 2; have hfz21_3 := blk_frozen BK128.out 3) | (go_at_call 24; (with_reducible refine (scope_some.calls _ _ l0 a1 a2_0 t129 t130 _ ?side1 ?side2 A4.out).mono ?_); (case side1 => repeat (first | exact (Kd.C_below HR0.out HB.out) | (with_reducible refine Kd.C_alloc ?_ _) | (with_reducible refine Kd.C_drewN ?_ _) | (with_reducible refine Kd.C_drew ?_))); (case side2 => exact HC0.out); rintro e w22 ⟨v131, rfl, ho0, hb⟩; have n0_ := Aside0.mk (Kd.R_lower ho0 (below_size (by repeat (first | (with_reducible first | exact HB.out | apply below_alloc | apply pw_below_drewN | apply below_drew1 | refine below_set ?_ GE128.out) | exact HB.out)))); have n1_ := Aside0.mk (blk_below (g := gb128) (o := .cells #[.string a2_0, .int .i64 a2_1, .bool a2_2, .bool a2_3] 28 (0, 0)) (by (with_reducible repeat (first | refine blk_drewN ?_ _ | refine blk_drew ?_ | refine blk_alloc ?_ _)); exact BK128.out) hb); have n2_ := Aside0.mk (below_step (by repeat (first | (with_reducible first | exact HB.out | apply below_alloc | apply pw_below_drewN | apply below_drew1 | refine below_set ?_ GE128.out) | exact HB.out)) hb); clear BK128; clear HB; have HO132 := n0_; have BK128 := n1_; have HB := n2_; clear n0_ n1_ n2_; (try clear hb); (try clear hb2); (try clear hk); (try clear hi); (try clear ho0); obtain ⟨Ao23, co23, eo23⟩ := Kd.R_slice HO132.out; subst eo23; have p133 : 0 ≤ (t130 : Int) := of_decide_eq_true (by first | (with_reducible assumption) | assumption); have q133 : t130 < (t129.length : Int) := of_decide_eq_true (by first | (with_reducible assumption) | assumption); obtain ⟨ad133, e133, hx133_0, hx133_1, hx133_2, hx133_3⟩ := at_T38 (Kd.R_reads' HO132.out).2.2 t130 p133 q133; cases e133; replace p133 := eq_true p133; replace q133 := eq_true q133; have hcz24_0 : w22.cell? ⟨gb128, 0, none⟩ = some (.string a2_0) := (blk_cell BK128.out 0).trans rfl; have hcz24_1 : w22.cell? ⟨gb128, 1, none⟩ = some (.int .i64 a2_1) := (blk_cell BK128.out 1).trans rfl; have hcz24_2 : w22.cell? ⟨gb128, 2, none⟩ = some (.bool a2_2) := (blk_cell BK128.out 2).trans rfl; have hcz24_3 : w22.cell? ⟨gb128, 3, none⟩ = some (.bool a2_3) := (blk_cell BK128.out 3).trans rfl; have hfz24_0 := blk_frozen BK128.out 0; have hfz24_1 := blk_frozen BK128.out 1; have hfz24_2 := blk_frozen BK128.out 2; have hfz24_3 := blk_frozen BK128.out 3; have p134 : 0 ≤ (t130 : Int) := of_decide_eq_true (by first | (with_reducible assumption) | assumption); have q134 : t130 < (t129.length : Int) := of_decide_eq_true (by first | (with_reducible assumption) | assumption); obtain ⟨ad134, e134, hx134_0, hx134_1, hx134_2, hx134_3⟩ := at_T38 (Kd.R_reads' HO132.out).2.2 t130 p134 q134; obtain rfl : ad133 = ad134 := (by injection e134); replace p134 := eq_true p134; replace q134 := eq_true q134)))
            go_ret
            exact ⟨_, by first | rfl | (simp [errW_none, errW_some] <;> rfl) | (simp [*, errW_none, errW_some] <;> rfl), by (with_reducible repeat (first | apply Kd.R_alloc | apply Kd.R_drewN | apply Kd.R_drew)); exact HO132.out, by repeat (first | (with_reducible first | exact HB.out | apply below_alloc | apply pw_below_drewN | apply below_drew1 | refine below_set ?_ GE128.out) | exact HB.out)⟩
          · rw [if_neg c19] at H
            have c19b0 : ((decide ((wrap64 (((rd_T38 t129 t130).f2) + a2_1)) < ((rd_T38 t129 t130).f2))) != (decide (a2_1 < 0))) = false := by simpa using c19
            (try (have c19b1 : decide ((decide ((wrap64 (((rd_T38 t129 t130).f2) + a2_1)) < ((rd_T38 t129 t130).f2))) = (decide (a2_1 < 0))) = true := by simpa using c19))
            (try (have c19b2 : ((decide ((wrap64 (((rd_T38 t129 t130).f2) + a2_1)) < ((rd_T38 t129 t130).f2))) == (decide (a2_1 < 0))) = true := by simpa using c19))
            clear c19
            obtain ⟨y135, hy135⟩ : ∃ y_ : List (S38), y_ = (t129.set (t130 : Int).toNat (⟨(rd_T38 t129 t130).f0, (rd_T38 t129 t130).f1, wrap64 (((rd_T38 t129 t130).f2) + a2_1), (rd_T38 t129 t130).f3⟩ : S38)) := ⟨_, rfl⟩
            replace H : (some y135) = some r := by first | (rw [hy135]; with_reducible exact H) | (have H2_ := (Option.bind_some _ _).symm.trans H; rw [hy135]; with_reducible exact H2_) | (have H2_ := (Option.bind_some _ _).symm.trans H; with_reducible exact H2_) | with_reducible exact H | (rw [hy135]; exact H) | exact H
            have Ny135 := Aside0.mk hy135
            clear hy135
            obtain rfl := Option.some.inj H
            go_enter Try.func8, Try.ntmps8
            go_wp2_with (first | ((with_reducible refine gate_dst (N := 5) rfl ?_); refine box_event ?hg (N := 5) ?hd (cs := #[.string a2_0, .int .i64 a2_1, .bool a2_2, .bool a2_3]) (t := 28) ?hr ?_; (case hd => rfl); (case hg => rfl); (case hr => first | (go_simp; done) | (go_simp; rfl)); intro gb128 hg w26 hbox hb; have n0_ := Aside0.mk (below_step (by repeat (first | (with_reducible first | exact HB.out | apply below_alloc | apply pw_below_drewN | apply below_drew1) | exact HB.out)) hb); have n1_ := Aside0.mk (hbox); have n2_ := Aside0.mk ((by rw [hg]; exact (below_size (by repeat (first | (with_reducible first | exact HB.out | apply below_alloc | apply pw_below_drewN | apply below_drew1) | exact HB.out))) : w.heap.size ≤ gb128)); have n3_ := Aside0.mk ((by rw [hg]; exact (below_size (by repeat (first | (with_reducible first | exact HB.out | apply below_alloc | apply pw_below_drewN | apply below_drew1) | exact HB.out))) : w.heap.size ≤ gb128)); clear HB; have HB := n0_; have BK128 := n1_; have GW128 := n2_; have GE128 := n3_; clear n0_ n1_ n2_ n3_; clear hb hbox hg; have hcz27_0 : w26.cell? ⟨gb128, 0, none⟩ = some (.string a2_0) := (blk_cell BK128.out 0).trans rfl; have hcz27_1 : w26.cell? ⟨gb128, 1, none⟩ = some (.int .i64 a2_1) := (blk_cell BK128.out 1).trans rfl; have hcz27_2 : w26.cell? ⟨gb128, 2, none⟩ = some (.bool a2_2) := (blk_cell BK128.out 2).trans rfl; have hcz27_3 : w26.cell? ⟨gb128, 3, none⟩ = some (.bool a2_3) := (blk_cell BK128.out 3).trans rfl; have hfz27_0 := blk_frozen BK128.out 0; have hfz27_1 := blk_frozen BK128.out 1; have hfz27_2 := blk_frozen BK128.out 2; have hfz27_3 := blk_frozen BK128.out 3) | (go_at_call 24; (with_reducible refine (scope_some.calls _ _ l0 a1 a2_0 t129 t130 _ ?side1 ?side2 A4.out).mono ?_); (case side1 => repeat (first | exact (Kd.C_below HR0.out HB.out) | (with_reducible refine Kd.C_alloc ?_ _) | (with_reducible refine Kd.C_drewN ?_ _) | (with_reducible refine Kd.C_drew ?_))); (case side2 => exact HC0.out); rintro e w28 ⟨v131, rfl, ho0, hb⟩; have n0_ := Aside0.mk (Kd.R_lower ho0 (below_size (by repeat (first | (with_reducible first | exact HB.out | apply below_alloc | apply pw_below_drewN | apply below_drew1 | refine below_set ?_ GE128.out) | exact HB.out)))); have n1_ := Aside0.mk (blk_below (g := gb128) (o := .cells #[.string a2_0, .int .i64 a2_1, .bool a2_2, .bool a2_3] 28 (0, 0)) (by (with_reducible repeat (first | refine blk_drewN ?_ _ | refine blk_drew ?_ | refine blk_alloc ?_ _)); exact BK128.out) hb); have n2_ := Aside0.mk (below_step (by repeat (first | (with_reducible first | exact HB.out | apply below_alloc | apply pw_below_drewN | apply below_drew1 | refine below_set ?_ GE128.out) | exact HB.out)) hb); clear BK128; clear HB; have HO132 := n0_; have BK128 := n1_; have HB := n2_; clear n0_ n1_ n2_; (try clear hb); (try clear hb2); (try clear hk); (try clear hi); (try clear ho0); obtain ⟨Ao29, co29, eo29⟩ := Kd.R_slice HO132.out; subst eo29; have p133 : 0 ≤ (t130 : Int) := of_decide_eq_true (by first | (with_reducible assumption) | assumption); have q133 : t130 < (t129.length : Int) := of_decide_eq_true (by first | (with_reducible assumption) | assumption); obtain ⟨ad133, e133, hx133_0, hx133_1, hx133_2, hx133_3⟩ := at_T38 (Kd.R_reads' HO132.out).2.2 t130 p133 q133; cases e133; replace p133 := eq_true p133; replace q133 := eq_true q133; have hcz30_0 : w28.cell? ⟨gb128, 0, none⟩ = some (.string a2_0) := (blk_cell BK128.out 0).trans rfl; have hcz30_1 : w28.cell? ⟨gb128, 1, none⟩ = some (.int .i64 a2_1) := (blk_cell BK128.out 1).trans rfl; have hcz30_2 : w28.cell? ⟨gb128, 2, none⟩ = some (.bool a2_2) := (blk_cell BK128.out 2).trans rfl; have hcz30_3 : w28.cell? ⟨gb128, 3, none⟩ = some (.bool a2_3) := (blk_cell BK128.out 3).trans rfl; have hfz30_0 := blk_frozen BK128.out 0; have hfz30_1 := blk_frozen BK128.out 1; have hfz30_2 := blk_frozen BK128.out 2; have hfz30_3 := blk_frozen BK128.out 3; have p134 : 0 ≤ (t130 : Int) := of_decide_eq_true (by first | (with_reducible assumption) | assumption); have q134 : t130 < (t129.length : Int) := of_decide_eq_true (by first | (with_reducible assumption) | assumption); obtain ⟨ad134, e134, hx134_0, hx134_1, hx134_2, hx134_3⟩ := at_T38 (Kd.R_reads' HO132.out).2.2 t130 p134 q134; obtain rfl : ad133 = ad134 := (by injection e134); replace p134 := eq_true p134; replace q134 := eq_true q134; have p25 : 0 ≤ (t130 : Int) := of_decide_eq_true (by first | (with_reducible assumption) | assumption); have q25 : (t130 : Int) < ((t129.length : Int) : Int) := of_decide_eq_true (by first | (with_reducible assumption) | assumption); obtain ⟨go25, co25, eo25, gb25, gl25, cl25, HG25⟩ := Kd.R_form HO132.out (by omega); (first | cases eo25 | (injection eo25 with ea_ en_ ec_; (first | subst ea_ | (injection ea_ with ea_; subst ea_)); subst ec_; clear en_)); have GB25 := Aside0.mk gb25; have GG25 := Aside0.mk HG25; clear gb25 gl25 HG25; (first | simp only [add_plain] at hx133_0 | skip); (first | simp only [add_plain] at hx133_1 | skip); (first | simp only [add_plain] at hx133_2 | skip); (first | simp only [add_plain] at hx133_3 | skip); (first | simp only [add_plain] at hx134_0 | skip); (first | simp only [add_plain] at hx134_1 | skip); (first | simp only [add_plain] at hx134_2 | skip); (first | simp only [add_plain] at hx134_3 | skip); obtain ⟨ce25, hcl25, hM25, hcc25, hfr25⟩ := Kd.R_elem HO132.out z38 (t130 : Int) p25 q25; obtain rfl := k38_openM hM25; have hx25_0 : w28.cell? ⟨go25, (t130 : Int).toNat * 4, none⟩ = some (.string ((rd_T38 t129 t130).f0)) := hcc25 0 _ rfl; have hx25_1 : w28.cell? ⟨go25, (t130 : Int).toNat * 4 + 1, none⟩ = some (.int .i64 ((rd_T38 t129 t130).f1)) := hcc25 1 _ rfl; have hx25_2 : w28.cell? ⟨go25, (t130 : Int).toNat * 4 + 2, none⟩ = some (.int .i64 ((rd_T38 t129 t130).f2)) := hcc25 2 _ rfl; have hx25_3 : w28.cell? ⟨go25, (t130 : Int).toNat * 4 + 3, none⟩ = some (.bool ((rd_T38 t129 t130).f3)) := hcc25 3 _ rfl; have hf25_0 : w28.frozen? ⟨go25, (t130 : Int).toNat * 4, none⟩ = false := hfr25 0; have hf25_1 : w28.frozen? ⟨go25, (t130 : Int).toNat * 4 + 1, none⟩ = false := hfr25 1; have hf25_2 : w28.frozen? ⟨go25, (t130 : Int).toNat * 4 + 2, none⟩ = false := hfr25 2; have hf25_3 : w28.frozen? ⟨go25, (t130 : Int).toNat * 4 + 3, none⟩ = false := hfr25 3; clear hcl25 hcc25 hfr25 hM25; replace p25 := eq_true p25; replace q25 := eq_true q25; have HX31 := Aside0.mk (show Kd.R k38 38 w28 w.heap.size (fun _ => True) (.slice (some ⟨go25, 0, none⟩) t129.length co29) t129 from (by (with_reducible repeat (first | apply Kd.R_alloc | apply Kd.R_drewN | apply Kd.R_drew)); exact HO132.out)); obtain ⟨ce31, hcl31, hM31, hcc31, hfr31⟩ := Kd.R_elem HX31.out z38 (t130 : Int) (of_decide_eq_true (by first | (with_reducible assumption) | assumption)) (by have h_ : (t130 : Int) < ((t129.length : Int) : Int) := of_decide_eq_true (by first | (with_reducible assumption) | assumption); first | exact h_ | (have e_ := (Kd.R_reads' HO132.out).1; omega) | simpa using h_); obtain rfl := k38_openM hM31; have HP31 := Kd.R_seg HX31.out (t130 : Int) (of_decide_eq_true (by first | (with_reducible assumption) | assumption)) (by have h_ : (t130 : Int) < ((t129.length : Int) : Int) := of_decide_eq_true (by first | (with_reducible assumption) | assumption); first | exact h_ | (have e_ := (Kd.R_reads' HO132.out).1; omega) | simpa using h_) (seg := [.int .i64 (wrap64 (((rd_T38 t129 t130).f2) + a2_1))]) (j := 2) hcl31 hcc31 (show 3 ≤ 4 from by decide) (x' := (⟨(rd_T38 t129 t130).f0, (rd_T38 t129 t130).f1, wrap64 (((rd_T38 t129 t130).f2) + a2_1), (rd_T38 t129 t130).f3⟩ : S38)) (k38_mkM _ _ _ (⟨(rd_T38 t129 t130).f0, (rd_T38 t129 t130).f1, wrap64 (((rd_T38 t129 t130).f2) + a2_1), (rd_T38 t129 t130).f3⟩ : S38) ) (fun _ hk => hk); have hx31_2 := hcc31 2 _ rfl; (try simp only [show (k38).sz = 4 from rfl, Nat.mul_one, Nat.add_zero] at hx31_2); have hf31_2 := hfr31 2; (try simp only [show (k38).sz = 4 from rfl, Nat.mul_one, Nat.add_zero] at hf31_2); clear hcl31 hcc31 hfr31 hM31) | ((with_reducible refine gate_store (t := 3) (p := 50) rfl ?_); (try (rw [drewN_self w28]; generalize hq_ : World.drewN w28 _ = w28; have n0_ := Aside0.mk (Kd.R_at hq_ HO132.out); have n1_ := Aside0.mk (blk_at hq_ BK128.out); have n2_ := Aside0.mk (below_at hq_ HB.out); clear hq_ HO132 BK128 HB; have HO132 := n0_; have BK128 := n1_; have HB := n2_; clear n0_ n1_ n2_; (try (have HX31 := Aside0.mk (show Kd.R k38 38 w28 w.heap.size (fun _ => True) (.slice (some ⟨go25, 0, none⟩) t129.length co29) t129 from (by (with_reducible repeat (first | apply Kd.R_alloc | apply Kd.R_drewN | apply Kd.R_drew)); exact HO132.out)))); (try (obtain ⟨ce31, hcl31, hM31, hcc31, hfr31⟩ := Kd.R_elem HX31.out z38 (t130 : Int) (of_decide_eq_true (by first | (with_reducible assumption) | assumption)) (by have h_ : (t130 : Int) < ((t129.length : Int) : Int) := of_decide_eq_true (by first | (with_reducible assumption) | assumption); first | exact h_ | (have e_ := (Kd.R_reads' HO132.out).1; omega) | simpa using h_))); (try (obtain rfl := k38_openM hM31)); (try (have HP31 := Kd.R_seg HX31.out (t130 : Int) (of_decide_eq_true (by first | (with_reducible assumption) | assumption)) (by have h_ : (t130 : Int) < ((t129.length : Int) : Int) := of_decide_eq_true (by first | (with_reducible assumption) | assumption); first | exact h_ | (have e_ := (Kd.R_reads' HO132.out).1; omega) | simpa using h_) (seg := [.int .i64 (wrap64 (((rd_T38 t129 t130).f2) + a2_1))]) (j := 2) hcl31 hcc31 (show 3 ≤ 4 from by decide) (x' := (⟨(rd_T38 t129 t130).f0, (rd_T38 t129 t130).f1, wrap64 (((rd_T38 t129 t130).f2) + a2_1), (rd_T38 t129 t130).f3⟩ : S38)) (k38_mkM _ _ _ (⟨(rd_T38 t129 t130).f0, (rd_T38 t129 t130).f1, wrap64 (((rd_T38 t129 t130).f2) + a2_1), (rd_T38 t129 t130).f3⟩ : S38) ) (fun _ hk => hk))); (try (have hx31_2 := hcc31 2 _ rfl)); (try (try simp only [show (k38).sz = 4 from rfl, Nat.mul_one, Nat.add_zero] at hx31_2)); (try (have hf31_2 := hfr31 2)); (try (try simp only [show (k38).sz = 4 from rfl, Nat.mul_one, Nat.add_zero] at hf31_2)); (try (clear hcl31 hcc31 hfr31 hM31)))); refine store_event (t := 3) (p := 50) (v := ?vo_w32) (w1 := (w28.setCell ⟨go25, (t130 : Int).toNat * 4 + 2, none⟩ (.int .i64 (wrap64 (((rd_T38 t129 t130).f2) + a2_1))))) ?hg ?ho ?hn ?hr ?_; (case ho => rfl); (case hg => rfl); (case hn => rfl); (case hr => first | (go_simp; done) | (go_simp; rfl)); intro w32 hw; have hg : w28.grownBy w32 (some go25) := (by rw [hw]; exact HP31.2); have hp_ : Kd.R k38 38 w32 w.heap.size (fun _ => True) (.slice (some ⟨go25, 0, none⟩) t129.length co29) y135 := (by rw [hw, Ny135.out]; exact HP31.1); clear HP31; have n0_ := Aside0.mk (blk_grown (g := gb128) (o := .cells #[.string a2_0, .int .i64 a2_1, .bool a2_2, .bool a2_3] 28 (0, 0)) (by (with_reducible repeat (first | refine blk_drewN ?_ _ | refine blk_drew ?_ | refine blk_alloc ?_ _)); exact BK128.out) hg (Kd.R_ne HO132.out BK128.out (by decide))); have n1_ := Aside0.mk (hp_); have n2_ := Aside0.mk ((by rw [hw]; exact below_set (HB.out) GB25.out : Below w.heap.size w w32)); clear BK128; clear HO132; clear HB; have BK128 := n0_; have HO132 := n1_; have HB := n2_; clear n0_ n1_ n2_; clear hg hw hp_))
            repeat (go_quiet (first | ((with_reducible refine gate_dst (N := 5) rfl ?_); refine box_event ?hg (N := 5) ?hd (cs := #[.string a2_0, .int .i64 a2_1, .bool a2_2, .bool a2_3]) (t := 28) ?hr ?_; (case hd => rfl); (case hg => rfl); (case hr => first | (go_simp; done) | (go_simp; rfl)); intro gb128 hg w26 hbox hb; have n0_ := Aside0.mk (below_step (by repeat (first | (with_reducible first | exact HB.out | apply below_alloc | apply pw_below_drewN | apply below_drew1) | exact HB.out)) hb); have n1_ := Aside0.mk (hbox); have n2_ := Aside0.mk ((by rw [hg]; exact (below_size (by repeat (first | (with_reducible first | exact HB.out | apply below_alloc | apply pw_below_drewN | apply below_drew1) | exact HB.out))) : w.heap.size ≤ gb128)); have n3_ := Aside0.mk ((by rw [hg]; exact (below_size (by repeat (first | (with_reducible first | exact HB.out | apply below_alloc | apply pw_below_drewN | apply below_drew1) | exact HB.out))) : w.heap.size ≤ gb128)); clear HB; have HB := n0_; have BK128 := n1_; have GW128 := n2_; have GE128 := n3_; clear n0_ n1_ n2_ n3_; clear hb hbox hg; have hcz27_0 : w26.cell? ⟨gb128, 0, none⟩ = some (.string a2_0) := (blk_cell BK128.out 0).trans rfl; have hcz27_1 : w26.cell? ⟨gb128, 1, none⟩ = some (.int .i64 a2_1) := (blk_cell BK128.out 1).trans rfl; have hcz27_2 : w26.cell? ⟨gb128, 2, none⟩ = some (.bool a2_2) := (blk_cell BK128.out 2).trans rfl; have hcz27_3 : w26.cell? ⟨gb128, 3, none⟩ = some (.bool a2_3) := (blk_cell BK128.out 3).trans rfl; have hfz27_0 := blk_frozen BK128.out 0; have hfz27_1 := blk_frozen BK128.out 1; have hfz27_2 := blk_frozen BK128.out 2; have hfz27_3 := blk_frozen BK128.out 3) | (go_at_call 24; (with_reducible refine (scope_some.calls _ _ l0 a1 a2_0 t129 t130 _ ?side1 ?side2 A4.out).mono ?_); (case side1 => repeat (first | exact (Kd.C_below HR0.out HB.out) | (with_reducible refine Kd.C_alloc ?_ _) | (with_reducible refine Kd.C_drewN ?_ _) | (with_reducible refine Kd.C_drew ?_))); (case side2 => exact HC0.out); rintro e w28 ⟨v131, rfl, ho0, hb⟩; have n0_ := Aside0.mk (Kd.R_lower ho0 (below_size (by repeat (first | (with_reducible first | exact HB.out | apply below_alloc | apply pw_below_drewN | apply below_drew1 | refine below_set ?_ GE128.out) | exact HB.out)))); have n1_ := Aside0.mk (blk_below (g := gb128) (o := .cells #[.string a2_0, .int .i64 a2_1, .bool a2_2, .bool a2_3] 28 (0, 0)) (by (with_reducible repeat (first | refine blk_drewN ?_ _ | refine blk_drew ?_ | refine blk_alloc ?_ _)); exact BK128.out) hb); have n2_ := Aside0.mk (below_step (by repeat (first | (with_reducible first | exact HB.out | apply below_alloc | apply pw_below_drewN | apply below_drew1 | refine below_set ?_ GE128.out) | exact HB.out)) hb); clear BK128; clear HB; have HO132 := n0_; have BK128 := n1_; have HB := n2_; clear n0_ n1_ n2_; (try clear hb); (try clear hb2); (try clear hk); (try clear hi); (try clear ho0); obtain ⟨Ao29, co29, eo29⟩ := Kd.R_slice HO132.out; subst eo29; have p133 : 0 ≤ (t130 : Int) := of_decide_eq_true (by first | (with_reducible assumption) | assumption); have q133 : t130 < (t129.length : Int) := of_decide_eq_true (by first | (with_reducible assumption) | assumption); obtain ⟨ad133, e133, hx133_0, hx133_1, hx133_2, hx133_3⟩ := at_T38 (Kd.R_reads' HO132.out).2.2 t130 p133 q133; cases e133; replace p133 := eq_true p133; replace q133 := eq_true q133; have hcz30_0 : w28.cell? ⟨gb128, 0, none⟩ = some (.string a2_0) := (blk_cell BK128.out 0).trans rfl; have hcz30_1 : w28.cell? ⟨gb128, 1, none⟩ = some (.int .i64 a2_1) := (blk_cell BK128.out 1).trans rfl; have hcz30_2 : w28.cell? ⟨gb128, 2, none⟩ = some (.bool a2_2) := (blk_cell BK128.out 2).trans rfl; have hcz30_3 : w28.cell? ⟨gb128, 3, none⟩ = some (.bool a2_3) := (blk_cell BK128.out 3).trans rfl; have hfz30_0 := blk_frozen BK128.out 0; have hfz30_1 := blk_frozen BK128.out 1; have hfz30_2 := blk_frozen BK128.out 2; have hfz30_3 := blk_frozen BK128.out 3; have p134 : 0 ≤ (t130 : Int) := of_decide_eq_true (by first | (with_reducible assumption) | assumption); have q134 : t130 < (t129.length : Int) := of_decide_eq_true (by first | (with_reducible assumption) | assumption); obtain ⟨ad134, e134, hx134_0, hx134_1, hx134_2, hx134_3⟩ := at_T38 (Kd.R_reads' HO132.out).2.2 t130 p134 q134; obtain rfl : ad133 = ad134 := (by injection e134); replace p134 := eq_true p134; replace q134 := eq_true q134; have p25 : 0 ≤ (t130 : Int) := of_decide_eq_true (by first | (with_reducible assumption) | assumption); have q25 : (t130 : Int) < ((t129.length : Int) : Int) := of_decide_eq_true (by first | (with_reducible assumption) | assumption); obtain ⟨go25, co25, eo25, gb25, gl25, cl25, HG25⟩ := Kd.R_form HO132.out (by omega); (first | cases eo25 | (injection eo25 with ea_ en_ ec_; (first | subst ea_ | (injection ea_ with ea_; subst ea_)); subst ec_; clear en_)); have GB25 := Aside0.mk gb25; have GG25 := Aside0.mk HG25; clear gb25 gl25 HG25; (first | simp only [add_plain] at hx133_0 | skip); (first | simp only [add_plain] at hx133_1 | skip); (first | simp only [add_plain] at hx133_2 | skip); (first | simp only [add_plain] at hx133_3 | skip); (first | simp only [add_plain] at hx134_0 | skip); (first | simp only [add_plain] at hx134_1 | skip); (first | simp only [add_plain] at hx134_2 | skip); (first | simp only [add_plain] at hx134_3 | skip); obtain ⟨ce25, hcl25, hM25, hcc25, hfr25⟩ := Kd.R_elem HO132.out z38 (t130 : Int) p25 q25; obtain rfl := k38_openM hM25; have hx25_0 : w28.cell? ⟨go25, (t130 : Int).toNat * 4, none⟩ = some (.string ((rd_T38 t129 t130).f0)) := hcc25 0 _ rfl; have hx25_1 : w28.cell? ⟨go25, (t130 : Int).toNat * 4 + 1, none⟩ = some (.int .i64 ((rd_T38 t129 t130).f1)) := hcc25 1 _ rfl; have hx25_2 : w28.cell? ⟨go25, (t130 : Int).toNat * 4 + 2, none⟩ = some (.int .i64 ((rd_T38 t129 t130).f2)) := hcc25 2 _ rfl; have hx25_3 : w28.cell? ⟨go25, (t130 : Int).toNat * 4 + 3, none⟩ = some (.bool ((rd_T38 t129 t130).f3)) := hcc25 3 _ rfl; have hf25_0 : w28.frozen? ⟨go25, (t130 : Int).toNat * 4, none⟩ = false := hfr25 0; have hf25_1 : w28.frozen? ⟨go25, (t130 : Int).toNat * 4 + 1, none⟩ = false := hfr25 1; have hf25_2 : w28.frozen? ⟨go25, (t130 : Int).toNat * 4 + 2, none⟩ = false := hfr25 2; have hf25_3 : w28.frozen? ⟨go25, (t130 : Int).toNat * 4 + 3, none⟩ = false := hfr25 3; clear hcl25 hcc25 hfr25 hM25; replace p25 := eq_true p25; replace q25 := eq_true q25; have HX31 := Aside0.mk (show Kd.R k38 38 w28 w.heap.size (fun _ => True) (.slice (some ⟨go25, 0, none⟩) t129.length co29) t129 from (by (with_reducible repeat (first | apply Kd.R_alloc | apply Kd.R_drewN | apply Kd.R_drew)); exact HO132.out)); obtain ⟨ce31, hcl31, hM31, hcc31, hfr31⟩ := Kd.R_elem HX31.out z38 (t130 : Int) (of_decide_eq_true (by first | (with_reducible assumption) | assumption)) (by have h_ : (t130 : Int) < ((t129.length : Int) : Int) := of_decide_eq_true (by first | (with_reducible assumption) | assumption); first | exact h_ | (have e_ := (Kd.R_reads' HO132.out).1; omega) | simpa using h_); obtain rfl := k38_openM hM31; have HP31 := Kd.R_seg HX31.out (t130 : Int) (of_decide_eq_true (by first | (with_reducible assumption) | assumption)) (by have h_ : (t130 : Int) < ((t129.length : Int) : Int) := of_decide_eq_true (by first | (with_reducible assumption) | assumption); first | exact h_ | (have e_ := (Kd.R_reads' HO132.out).1; omega) | simpa using h_) (seg := [.int .i64 (wrap64 (((rd_T38 t129 t130).f2) + a2_1))]) (j := 2) hcl31 hcc31 (show 3 ≤ 4 from by decide) (x' := (⟨(rd_T38 t129 t130).f0, (rd_T38 t129 t130).f1, wrap64 (((rd_T38 t129 t130).f2) + a2_1), (rd_T38 t129 t130).f3⟩ : S38)) (k38_mkM _ _ _ (⟨(rd_T38 t129 t130).f0, (rd_T38 t129 t130).f1, wrap64 (((rd_T38 t129 t130).f2) + a2_1), (rd_T38 t129 t130).f3⟩ : S38) ) (fun _ hk => hk); have hx31_2 := hcc31 2 _ rfl; (try simp only [show (k38).sz = 4 from rfl, Nat.mul_one, Nat.add_zero] at hx31_2); have hf31_2 := hfr31 2; (try simp only [show (k38).sz = 4 from rfl, Nat.mul_one, Nat.add_zero] at hf31_2); clear hcl31 hcc31 hfr31 hM31) | ((with_reducible refine gate_store (t := 3) (p := 50) rfl ?_); (try (rw [drewN_self w28]; generalize hq_ : World.drewN w28 _ = w28; have n0_ := Aside0.mk (Kd.R_at hq_ HO132.out); have n1_ := Aside0.mk (blk_at hq_ BK128.out); have n2_ := Aside0.mk (below_at hq_ HB.out); clear hq_ HO132 BK128 HB; have HO132 := n0_; have BK128 := n1_; have HB := n2_; clear n0_ n1_ n2_; (try (have HX31 := Aside0.mk (show Kd.R k38 38 w28 w.heap.size (fun _ => True) (.slice (some ⟨go25, 0, none⟩) t129.length co29) t129 from (by (with_reducible repeat (first | apply Kd.R_alloc | apply Kd.R_drewN | apply Kd.R_drew)); exact HO132.out)))); (try (obtain ⟨ce31, hcl31, hM31, hcc31, hfr31⟩ := Kd.R_elem HX31.out z38 (t130 : Int) (of_decide_eq_true (by first | (with_reducible assumption) | assumption)) (by have h_ : (t130 : Int) < ((t129.length : Int) : Int) := of_decide_eq_true (by first | (with_reducible assumption) | assumption); first | exact h_ | (have e_ := (Kd.R_reads' HO132.out).1; omega) | simpa using h_))); (try (obtain rfl := k38_openM hM31)); (try (have HP31 := Kd.R_seg HX31.out (t130 : Int) (of_decide_eq_true (by first | (with_reducible assumption) | assumption)) (by have h_ : (t130 : Int) < ((t129.length : Int) : Int) := of_decide_eq_true (by first | (with_reducible assumption) | assumption); first | exact h_ | (have e_ := (Kd.R_reads' HO132.out).1; omega) | simpa using h_) (seg := [.int .i64 (wrap64 (((rd_T38 t129 t130).f2) + a2_1))]) (j := 2) hcl31 hcc31 (show 3 ≤ 4 from by decide) (x' := (⟨(rd_T38 t129 t130).f0, (rd_T38 t129 t130).f1, wrap64 (((rd_T38 t129 t130).f2) + a2_1), (rd_T38 t129 t130).f3⟩ : S38)) (k38_mkM _ _ _ (⟨(rd_T38 t129 t130).f0, (rd_T38 t129 t130).f1, wrap64 (((rd_T38 t129 t130).f2) + a2_1), (rd_T38 t129 t130).f3⟩ : S38) ) (fun _ hk => hk))); (try (have hx31_2 := hcc31 2 _ rfl)); (try (try simp only [show (k38).sz = 4 from rfl, Nat.mul_one, Nat.add_zero] at hx31_2)); (try (have hf31_2 := hfr31 2)); (try (try simp only [show (k38).sz = 4 from rfl, Nat.mul_one, Nat.add_zero] at hf31_2)); (try (clear hcl31 hcc31 hfr31 hM31)))); refine store_event (t := 3) (p := 50) (v := ?vo_w32) (w1 := (w28.setCell ⟨go25, (t130 : Int).toNat * 4 + 2, none⟩ (.int .i64 (wrap64 (((rd_T38 t129 t130).f2) + a2_1))))) ?hg ?ho ?hn ?hr ?_; (case ho => rfl); (case hg => rfl); (case hn => rfl); (case hr => first | (go_simp; done) | (go_simp; rfl)); intro w32 hw; have hg : w28.grownBy w32 (some go25) := (by rw [hw]; exact HP31.2); have hp_ : Kd.R k38 38 w32 w.heap.size (fun _ => True) (.slice (some ⟨go25, 0, none⟩) t129.length co29) y135 := (by rw [hw, Ny135.out]; exact HP31.1); clear HP31; have n0_ := Aside0.mk (blk_grown (g := gb128) (o := .cells #[.string a2_0, .int .i64 a2_1, .bool a2_2, .bool a2_3] 28 (0, 0)) (by (with_reducible repeat (first | refine blk_drewN ?_ _ | refine blk_drew ?_ | refine blk_alloc ?_ _)); exact BK128.out) hg (Kd.R_ne HO132.out BK128.out (by decide))); have n1_ := Aside0.mk (hp_); have n2_ := Aside0.mk ((by rw [hw]; exact below_set (HB.out) GB25.out : Below w.heap.size w w32)); clear BK128; clear HO132; clear HB; have BK128 := n0_; have HO132 := n1_; have HB := n2_; clear n0_ n1_ n2_; clear hg hw hp_)); try go_wp2_with (first | ((with_reducible refine gate_dst (N := 5) rfl ?_); refine box_event ?hg (N := 5) ?hd (cs := #[.string a2_0, .int .i64 a2_1, .bool a2_2, .bool a2_3]) (t := 28) ?hr ?_; (case hd => rfl); (case hg => rfl); (case hr => first | (go_simp; done) | (go_simp; rfl)); intro gb128 hg w26 hbox hb; have n0_ := Aside0.mk (below_step (by repeat (first | (with_reducible first | exact HB.out | apply below_alloc | apply pw_below_drewN | apply below_drew1) | exact HB.out)) hb); have n1_ := Aside0.mk (hbox); have n2_ := Aside0.mk ((by rw [hg]; exact (below_size (by repeat (first | (with_reducible first | exact HB.out | apply below_alloc | apply pw_below_drewN | apply below_drew1) | exact HB.out))) : w.heap.size ≤ gb128)); have n3_ := Aside0.mk ((by rw [hg]; exact (below_size (by repeat (first | (with_reducible first | exact HB.out | apply below_alloc | apply pw_below_drewN | apply below_drew1) | exact HB.out))) : w.heap.size ≤ gb128)); clear HB; have HB := n0_; have BK128 := n1_; have GW128 := n2_; have GE128 := n3_; clear n0_ n1_ n2_ n3_; clear hb hbox hg; have hcz27_0 : w26.cell? ⟨gb128, 0, none⟩ = some (.string a2_0) := (blk_cell BK128.out 0).trans rfl; have hcz27_1 : w26.cell? ⟨gb128, 1, none⟩ = some (.int .i64 a2_1) := (blk_cell BK128.out 1).trans rfl; have hcz27_2 : w26.cell? ⟨gb128, 2, none⟩ = some (.bool a2_2) := (blk_cell BK128.out 2).trans rfl; have hcz27_3 : w26.cell? ⟨gb128, 3, none⟩ = some (.bool a2_3) := (blk_cell BK128.out 3).trans rfl; have hfz27_0 := blk_frozen BK128.out 0; have hfz27_1 := blk_frozen BK128.out 1; have hfz27_2 := blk_frozen BK128.out 2; have hfz27_3 := blk_frozen BK128.out 3) | (go_at_call 24; (with_reducible refine (scope_some.calls _ _ l0 a1 a2_0 t129 t130 _ ?side1 ?side2 A4.out).mono ?_); (case side1 => repeat (first | exact (Kd.C_below HR0.out HB.out) | (with_reducible refine Kd.C_alloc ?_ _) | (with_reducible refine Kd.C_drewN ?_ _) | (with_reducible refine Kd.C_drew ?_))); (case side2 => exact HC0.out); rintro e w28 ⟨v131, rfl, ho0, hb⟩; have n0_ := Aside0.mk (Kd.R_lower ho0 (below_size (by repeat (first | (with_reducible first | exact HB.out | apply below_alloc | apply pw_below_drewN | apply below_drew1 | refine below_set ?_ GE128.out) | exact HB.out)))); have n1_ := Aside0.mk (blk_below (g := gb128) (o := .cells #[.string a2_0, .int .i64 a2_1, .bool a2_2, .bool a2_3] 28 (0, 0)) (by (with_reducible repeat (first | refine blk_drewN ?_ _ | refine blk_drew ?_ | refine blk_alloc ?_ _)); exact BK128.out) hb); have n2_ := Aside0.mk (below_step (by repeat (first | (with_reducible first | exact HB.out | apply below_alloc | apply pw_below_drewN | apply below_drew1 | refine below_set ?_ GE128.out) | exact HB.out)) hb); clear BK128; clear HB; have HO132 := n0_; have BK128 := n1_; have HB := n2_; clear n0_ n1_ n2_; (try clear hb); (try clear hb2); (try clear hk); (try clear hi); (try clear ho0); obtain ⟨Ao29, co29, eo29⟩ := Kd.R_slice HO132.out; subst eo29; have p133 : 0 ≤ (t130 : Int) := of_decide_eq_true (by first | (with_reducible assumption) | assumption); have q133 : t130 < (t129.length : Int) := of_decide_eq_true (by first | (with_reducible assumption) | assumption); obtain ⟨ad133, e133, hx133_0, hx133_1, hx133_2, hx133_3⟩ := at_T38 (Kd.R_reads' HO132.out).2.2 t130 p133 q133; cases e133; replace p133 := eq_true p133; replace q133 := eq_true q133; have hcz30_0 : w28.cell? ⟨gb128, 0, none⟩ = some (.string a2_0) := (blk_cell BK128.out 0).trans rfl; have hcz30_1 : w28.cell? ⟨gb128, 1, none⟩ = some (.int .i64 a2_1) := (blk_cell BK128.out 1).trans rfl; have hcz30_2 : w28.cell? ⟨gb128, 2, none⟩ = some (.bool a2_2) := (blk_cell BK128.out 2).trans rfl; have hcz30_3 : w28.cell? ⟨gb128, 3, none⟩ = some (.bool a2_3) := (blk_cell BK128.out 3).trans rfl; have hfz30_0 := blk_frozen BK128.out 0; have hfz30_1 := blk_frozen BK128.out 1; have hfz30_2 := blk_frozen BK128.out 2; have hfz30_3 := blk_frozen BK128.out 3; have p134 : 0 ≤ (t130 : Int) := of_decide_eq_true (by first | (with_reducible assumption) | assumption); have q134 : t130 < (t129.length : Int) := of_decide_eq_true (by first | (with_reducible assumption) | assumption); obtain ⟨ad134, e134, hx134_0, hx134_1, hx134_2, hx134_3⟩ := at_T38 (Kd.R_reads' HO132.out).2.2 t130 p134 q134; obtain rfl : ad133 = ad134 := (by injection e134); replace p134 := eq_true p134; replace q134 := eq_true q134; have p25 : 0 ≤ (t130 : Int) := of_decide_eq_true (by first | (with_reducible assumption) | assumption); have q25 : (t130 : Int) < ((t129.length : Int) : Int) := of_decide_eq_true (by first | (with_reducible assumption) | assumption); obtain ⟨go25, co25, eo25, gb25, gl25, cl25, HG25⟩ := Kd.R_form HO132.out (by omega); (first | cases eo25 | (injection eo25 with ea_ en_ ec_; (first | subst ea_ | (injection ea_ with ea_; subst ea_)); subst ec_; clear en_)); have GB25 := Aside0.mk gb25; have GG25 := Aside0.mk HG25; clear gb25 gl25 HG25; (first | simp only [add_plain] at hx133_0 | skip); (first | simp only [add_plain] at hx133_1 | skip); (first | simp only [add_plain] at hx133_2 | skip); (first | simp only [add_plain] at hx133_3 | skip); (first | simp only [add_plain] at hx134_0 | skip); (first | simp only [add_plain] at hx134_1 | skip); (first | simp only [add_plain] at hx134_2 | skip); (first | simp only [add_plain] at hx134_3 | skip); obtain ⟨ce25, hcl25, hM25, hcc25, hfr25⟩ := Kd.R_elem HO132.out z38 (t130 : Int) p25 q25; obtain rfl := k38_openM hM25; have hx25_0 : w28.cell? ⟨go25, (t130 : Int).toNat * 4, none⟩ = some (.string ((rd_T38 t129 t130).f0)) := hcc25 0 _ rfl; have hx25_1 : w28.cell? ⟨go25, (t130 : Int).toNat * 4 + 1, none⟩ = some (.int .i64 ((rd_T38 t129 t130).f1)) := hcc25 1 _ rfl; have hx25_2 : w28.cell? ⟨go25, (t130 : Int).toNat * 4 + 2, none⟩ = some (.int .i64 ((rd_T38 t129 t130).f2)) := hcc25 2 _ rfl; have hx25_3 : w28.cell? ⟨go25, (t130 : Int).toNat * 4 + 3, none⟩ = some (.bool ((rd_T38 t129 t130).f3)) := hcc25 3 _ rfl; have hf25_0 : w28.frozen? ⟨go25, (t130 : Int).toNat * 4, none⟩ = false := hfr25 0; have hf25_1 : w28.frozen? ⟨go25, (t130 : Int).toNat * 4 + 1, none⟩ = false := hfr25 1; have hf25_2 : w28.frozen? ⟨go25, (t130 : Int).toNat * 4 + 2, none⟩ = false := hfr25 2; have hf25_3 : w28.frozen? ⟨go25, (t130 : Int).toNat * 4 + 3, none⟩ = false := hfr25 3; clear hcl25 hcc25 hfr25 hM25; replace p25 := eq_true p25; replace q25 := eq_true q25; have HX31 := Aside0.mk (show Kd.R k38 38 w28 w.heap.size (fun _ => True) (.slice (some ⟨go25, 0, none⟩) t129.length co29) t129 from (by (with_reducible repeat (first | apply Kd.R_alloc | apply Kd.R_drewN | apply Kd.R_drew)); exact HO132.out)); obtain ⟨ce31, hcl31, hM31, hcc31, hfr31⟩ := Kd.R_elem HX31.out z38 (t130 : Int) (of_decide_eq_true (by first | (with_reducible assumption) | assumption)) (by have h_ : (t130 : Int) < ((t129.length : Int) : Int) := of_decide_eq_true (by first | (with_reducible assumption) | assumption); first | exact h_ | (have e_ := (Kd.R_reads' HO132.out).1; omega) | simpa using h_); obtain rfl := k38_openM hM31; have HP31 := Kd.R_seg HX31.out (t130 : Int) (of_decide_eq_true (by first | (with_reducible assumption) | assumption)) (by have h_ : (t130 : Int) < ((t129.length : Int) : Int) := of_decide_eq_true (by first | (with_reducible assumption) | assumption); first | exact h_ | (have e_ := (Kd.R_reads' HO132.out).1; omega) | simpa using h_) (seg := [.int .i64 (wrap64 (((rd_T38 t129 t130).f2) + a2_1))]) (j := 2) hcl31 hcc31 (show 3 ≤ 4 from by decide) (x' := (⟨(rd_T38 t129 t130).f0, (rd_T38 t129 t130).f1, wrap64 (((rd_T38 t129 t130).f2) + a2_1), (rd_T38 t129 t130).f3⟩ : S38)) (k38_mkM _ _ _ (⟨(rd_T38 t129 t130).f0, (rd_T38 t129 t130).f1, wrap64 (((rd_T38 t129 t130).f2) + a2_1), (rd_T38 t129 t130).f3⟩ : S38) ) (fun _ hk => hk); have hx31_2 := hcc31 2 _ rfl; (try simp only [show (k38).sz = 4 from rfl, Nat.mul_one, Nat.add_zero] at hx31_2); have hf31_2 := hfr31 2; (try simp only [show (k38).sz = 4 from rfl, Nat.mul_one, Nat.add_zero] at hf31_2); clear hcl31 hcc31 hfr31 hM31) | ((with_reducible refine gate_store (t := 3) (p := 50) rfl ?_); (try (rw [drewN_self w28]; generalize hq_ : World.drewN w28 _ = w28; have n0_ := Aside0.mk (Kd.R_at hq_ HO132.out); have n1_ := Aside0.mk (blk_at hq_ BK128.out); have n2_ := Aside0.mk (below_at hq_ HB.out); clear hq_ HO132 BK128 HB; have HO132 := n0_; have BK128 := n1_; have HB := n2_; clear n0_ n1_ n2_; (try (have HX31 := Aside0.mk (show Kd.R k38 38 w28 w.heap.size (fun _ => True) (.slice (some ⟨go25, 0, none⟩) t129.length co29) t129 from (by (with_reducible repeat (first | apply Kd.R_alloc | apply Kd.R_drewN | apply Kd.R_drew)); exact HO132.out)))); (try (obtain ⟨ce31, hcl31, hM31, hcc31, hfr31⟩ := Kd.R_elem HX31.out z38 (t130 : Int) (of_decide_eq_true (by first | (with_reducible assumption) | assumption)) (by have h_ : (t130 : Int) < ((t129.length : Int) : Int) := of_decide_eq_true (by first | (with_reducible assumption) | assumption); first | exact h_ | (have e_ := (Kd.R_reads' HO132.out).1; omega) | simpa using h_))); (try (obtain rfl := k38_openM hM31)); (try (have HP31 := Kd.R_seg HX31.out (t130 : Int) (of_decide_eq_true (by first | (with_reducible assumption) | assumption)) (by have h_ : (t130 : Int) < ((t129.length : Int) : Int) := of_decide_eq_true (by first | (with_reducible assumption) | assumption); first | exact h_ | (have e_ := (Kd.R_reads' HO132.out).1; omega) | simpa using h_) (seg := [.int .i64 (wrap64 (((rd_T38 t129 t130).f2) + a2_1))]) (j := 2) hcl31 hcc31 (show 3 ≤ 4 from by decide) (x' := (⟨(rd_T38 t129 t130).f0, (rd_T38 t129 t130).f1, wrap64 (((rd_T38 t129 t130).f2) + a2_1), (rd_T38 t129 t130).f3⟩ : S38)) (k38_mkM _ _ _ (⟨(rd_T38 t129 t130).f0, (rd_T38 t129 t130).f1, wrap64 (((rd_T38 t129 t130).f2) + a2_1), (rd_T38 t129 t130).f3⟩ : S38) ) (fun _ hk => hk))); (try (have hx31_2 := hcc31 2 _ rfl)); (try (try simp only [show (k38).sz = 4 from rfl, Nat.mul_one, Nat.add_zero] at hx31_2)); (try (have hf31_2 := hfr31 2)); (try (try simp only [show (k38).sz = 4 from rfl, Nat.mul_one, Nat.add_zero] at hf31_2)); (try (clear hcl31 hcc31 hfr31 hM31)))); refine store_event (t := 3) (p := 50) (v := ?vo_w32) (w1 := (w28.setCell ⟨go25, (t130 : Int).toNat * 4 + 2, none⟩ (.int .i64 (wrap64 (((rd_T38 t129 t130).f2) + a2_1))))) ?hg ?ho ?hn ?hr ?_; (case ho => rfl); (case hg => rfl); (case hn => rfl); (case hr => first | (go_simp; done) | (go_simp; rfl)); intro w32 hw; have hg : w28.grownBy w32 (some go25) := (by rw [hw]; exact HP31.2); have hp_ : Kd.R k38 38 w32 w.heap.size (fun _ => True) (.slice (some ⟨go25, 0, none⟩) t129.length co29) y135 := (by rw [hw, Ny135.out]; exact HP31.1); clear HP31; have n0_ := Aside0.mk (blk_grown (g := gb128) (o := .cells #[.string a2_0, .int .i64 a2_1, .bool a2_2, .bool a2_3] 28 (0, 0)) (by (with_reducible repeat (first | refine blk_drewN ?_ _ | refine blk_drew ?_ | refine blk_alloc ?_ _)); exact BK128.out) hg (Kd.R_ne HO132.out BK128.out (by decide))); have n1_ := Aside0.mk (hp_); have n2_ := Aside0.mk ((by rw [hw]; exact below_set (HB.out) GB25.out : Below w.heap.size w w32)); clear BK128; clear HO132; clear HB; have BK128 := n0_; have HO132 := n1_; have HB := n2_; clear n0_ n1_ n2_; clear hg hw hp_)))
            go_ret
            exact ⟨_, by first | rfl | (simp [errW_none, errW_some] <;> rfl) | (simp [*, errW_none, errW_some] <;> rfl), by (with_reducible repeat (first | apply Kd.R_alloc | apply Kd.R_drewN | apply Kd.R_drew)); exact HO132.out, by repeat (first | (with_reducible first | exact HB.out | apply below_alloc | apply pw_below_drewN | apply below_drew1 | refine below_set ?_ GE128.out) | exact HB.out)⟩
    · rw [if_neg c6] at H
      exact absurd H (by simp)
  · rw [if_neg c5] at H
    exact absurd H (by simp)

/-! ### scope_Value: function 9 -/
def scope_Value.f (l0 : List (S38)) (a1 : ByteArray) : Option (Int × Bool) := (scope_inner.f l0 a1).bind fun t136 => (if t136 < 0 then (some (0, false)) else (if 0 ≤ t136 then (if t136 < (l0.length : Int) then (some ((rd_T38 l0 t136).f2, true)) else (none)) else (none)))
set_option maxHeartbeats 8000000 in
set_option maxRecDepth 100000 in
theorem scope_Value.calls (A0 : Option Addr) (c0 : Nat) (l0 : List (S38)) (a1 : ByteArray) (r1 : Int) (r2 : Bool) (w : World) (hr0 : Kd.C k38 w A0 l0.length l0) (hc0 : l0.length ≤ c0) (h : scope_Value.f l0 a1 = some (r1, r2)) :
    Calls Try.prog 9 #[.slice A0 l0.length c0, .string a1] w fun e w' => e = .returned (.tuple #[.int .i64 r1, .bool r2]) ∧ Below w.heap.size w w' := by
  have HR0 := Aside0.mk hr0
  have HC0 := Aside0.mk hc0
  clear hr0 hc0
  have HB := Aside0.mk (Below.refl w.heap.size w)
  have H : ((scope_inner.f l0 a1).bind fun t136 => (if t136 < 0 then (some (0, false)) else (if 0 ≤ t136 then (if t136 < (l0.length : Int) then (some ((rd_T38 l0 t136).f2, true)) else (none)) else (none)))) = some (r1, r2) := h
  clear h
  replace H := Option.bind_eq_some_iff.mp H
  obtain ⟨t136, A30, H⟩ := H
  replace H : (if t136 < 0 then (some (0, false)) else (if 0 ≤ t136 then (if t136 < (l0.length : Int) then (some ((rd_T38 l0 t136).f2, true)) else (none)) else (none))) = some (r1, r2) := H
  have A3 := Aside0.mk A30
  clear A30
  by_cases c4 : t136 < 0
  · rw [if_pos c4] at H
    have c4b0 : decide (t136 < 0) = true := decide_eq_true c4
    clear c4
    simp only [Option.some.injEq, Prod.mk.injEq] at H
    obtain ⟨rfl, rfl⟩ := H
    go_enter Try.func9, Try.ntmps9
    go_wp2_with (first | ((with_reducible refine gate_callee (f := 21) rfl ?_); refine goesL_ (some 9) rfl rfl Try.func21 (by kernel_rfl) rfl #[.slice A0 l0.length c0, .string a1] rfl (by (try simp only [List.map_toArray, List.map_cons, List.map_nil]); first | done | rfl | (simp only [List.length_drop, List.length_take]; rfl)) ?_; (with_reducible refine (scope_inner.calls _ _ l0 a1 t136 _ ?side1 ?side2 A3.out).mono ?_); (case side1 => repeat (first | exact HR0.out | (with_reducible refine Kd.C_alloc ?_ _) | (with_reducible refine Kd.C_drewN ?_ _) | (with_reducible refine Kd.C_drew ?_))); (case side2 => exact HC0.out); rintro e w5 ⟨rfl, hb⟩; refine ⟨_, rfl, ?_⟩; have n0_ := Aside0.mk (below_step (by repeat (first | (with_reducible first | exact HB.out | apply below_alloc | apply pw_below_drewN | apply below_drew1) | exact HB.out)) hb); clear HB; have HB := n0_; clear n0_; (try clear hb); (try clear hb2); (try clear hk); (try clear hi)))
    go_ret2
    exact ⟨by first | rfl | (simp [errW_none, errW_some] <;> rfl) | (simp [*, errW_none, errW_some] <;> rfl), by repeat (first | (with_reducible first | exact HB.out | apply below_alloc | apply pw_below_drewN | apply below_drew1) | exact HB.out)⟩
  · rw [if_neg c4] at H
    have c4b0 : decide (t136 < 0) = false := decide_eq_false c4
    clear c4
    by_cases c6 : 0 ≤ t136
    · rw [if_pos c6] at H
      have c6b0 : decide (0 ≤ t136) = true := decide_eq_true c6
      clear c6
      by_cases c7 : t136 < (l0.length : Int)
      · rw [if_pos c7] at H
        have c7b0 : decide (t136 < (l0.length : Int)) = true := decide_eq_true c7
        clear c7
        simp only [Option.some.injEq, Prod.mk.injEq] at H
        obtain ⟨rfl, rfl⟩ := H
        go_enter Try.func9, Try.ntmps9
        go_wp2_with (first | ((with_reducible refine gate_callee (f := 21) rfl ?_); refine goesL_ (some 9) rfl rfl Try.func21 (by kernel_rfl) rfl #[.slice A0 l0.length c0, .string a1] rfl (by (try simp only [List.map_toArray, List.map_cons, List.map_nil]); first | done | rfl | (simp only [List.length_drop, List.length_take]; rfl)) ?_; (with_reducible refine (scope_inner.calls _ _ l0 a1 t136 _ ?side1 ?side2 A3.out).mono ?_); (case side1 => repeat (first | exact HR0.out | (with_reducible refine Kd.C_alloc ?_ _) | (with_reducible refine Kd.C_drewN ?_ _) | (with_reducible refine Kd.C_drew ?_))); (case side2 => exact HC0.out); rintro e w8 ⟨rfl, hb⟩; refine ⟨_, rfl, ?_⟩; have n0_ := Aside0.mk (below_step (by repeat (first | (with_reducible first | exact HB.out | apply below_alloc | apply pw_below_drewN | apply below_drew1) | exact HB.out)) hb); clear HB; have HB := n0_; clear n0_; (try clear hb); (try clear hb2); (try clear hk); (try clear hi); have p137 : 0 ≤ (t136 : Int) := of_decide_eq_true (by first | (with_reducible assumption) | assumption); have q137 : t136 < (l0.length : Int) := of_decide_eq_true (by first | (with_reducible assumption) | assumption); obtain ⟨ad137, e137, hx137_0, hx137_1, hx137_2, hx137_3⟩ := at_T38 HR0.out t136 p137 q137; cases e137; replace hx137_0 := (HB.out.cell (World.block_lt_of_cell? w _ hx137_0)).trans hx137_0; replace hx137_1 := (HB.out.cell (World.block_lt_of_cell? w _ hx137_1)).trans hx137_1; replace hx137_2 := (HB.out.cell (World.block_lt_of_cell? w _ hx137_2)).trans hx137_2; replace hx137_3 := (HB.out.cell (World.block_lt_of_cell? w _ hx137_3)).trans hx137_3; replace p137 := eq_true p137; replace q137 := eq_true q137))
        go_ret2
        exact ⟨by first | rfl | (simp [errW_none, errW_some] <;> rfl) | (simp [*, errW_none, errW_some] <;> rfl), by repeat (first | (with_reducible first | exact HB.out | apply below_alloc | apply pw_below_drewN | apply below_drew1) | exact HB.out)⟩
      · rw [if_neg c7] at H
        exact absurd H (by simp)
    · rw [if_neg c6] at H
      exact absurd H (by simp)

/-! ### scope_Put: function 10 -/
def scope_Put.f (l0 : List (S38)) (a1 : Int) (a2_0 : ByteArray) (a2_1 : Int) (a2_2 : Bool) (a2_3 : Bool) : Option ((List (S38))) := (scope_some.f l0 a1 a2_0).bind fun bt139 => (if 0 ≤ bt139.2 then (if bt139.2 < (bt139.1.length : Int) then (some (bt139.1.set (bt139.2 : Int).toNat (⟨(rd_T38 bt139.1 bt139.2).f0, (rd_T38 bt139.1 bt139.2).f1, a2_1, (rd_T38 bt139.1 bt139.2).f3⟩ : S38))) else (none)) else (none))
set_option maxHeartbeats 8000000 in
set_option maxRecDepth 100000 in
theorem scope_Put.calls (A0 : Option Addr) (c0 : Nat) (l0 : List (S38)) (a1 : Int) (a2_0 : ByteArray) (a2_1 : Int) (a2_2 : Bool) (a2_3 : Bool) (r : List (S38)) (w : World) (hr0 : Kd.C k38 w A0 l0.length l0) (hc0 : l0.length ≤ c0) (h : scope_Put.f l0 a1 a2_0 a2_1 a2_2 a2_3 = some r) :
    Calls Try.prog 10 #[.slice A0 l0.length c0, .int .i64 a1, .agg #[.string a2_0, .int .i64 a2_1, .bool a2_2, .bool a2_3]] w fun e w' => ∃ v0_ : Value, e = .returned (v0_) ∧ Kd.R k38 38 w' w.heap.size (fun _ => True) v0_ r ∧ Below w.heap.size w w' := by
  have hu28 := Try.underlying28
  have HR0 := Aside0.mk hr0
  have HC0 := Aside0.mk hc0
  clear hr0 hc0
  have HB := Aside0.mk (Below.refl w.heap.size w)
  have H : ((scope_some.f l0 a1 a2_0).bind fun bt139 => (if 0 ≤ bt139.2 then (if bt139.2 < (bt139.1.length : Int) then (some (bt139.1.set (bt139.2 : Int).toNat (⟨(rd_T38 bt139.1 bt139.2).f0, (rd_T38 bt139.1 bt139.2).f1, a2_1, (rd_T38 bt139.1 bt139.2).f3⟩ : S38))) else (none)) else (none))) = some r := h
  clear h
  replace H := Option.bind_eq_some_iff.mp H
  obtain ⟨⟨t139, t140⟩, A40, H⟩ := H
  replace H : (if 0 ≤ t140 then (if t140 < (t139.length : Int) then (some (t139.set (t140 : Int).toNat (⟨(rd_T38 t139 t140).f0, (rd_T38 t139 t140).f1, a2_1, (rd_T38 t139 t140).f3⟩ : S38))) else (none)) else (none)) = some r := H
  have A4 := Aside0.mk A40
  clear A40
  by_cases c5 : 0 ≤ t140
  · rw [if_pos c5] at H
    have c5b0 : decide (0 ≤ t140) = true := decide_eq_true c5
    clear c5
    by_cases c6 : t140 < (t139.length : Int)
    · rw [if_pos c6] at H
      have c6b0 : decide (t140 < (t139.length : Int)) = true := decide_eq_true c6
      clear c6
      obtain ⟨y143, hy143⟩ : ∃ y_ : List (S38), y_ = (t139.set (t140 : Int).toNat (⟨(rd_T38 t139 t140).f0, (rd_T38 t139 t140).f1, a2_1, (rd_T38 t139 t140).f3⟩ : S38)) := ⟨_, rfl⟩
      replace H : (some y143) = some r := by first | (rw [hy143]; with_reducible exact H) | (have H2_ := (Option.bind_some _ _).symm.trans H; rw [hy143]; with_reducible exact H2_) | (have H2_ := (Option.bind_some _ _).symm.trans H; with_reducible exact H2_) | with_reducible exact H | (rw [hy143]; exact H) | exact H
      have Ny143 := Aside0.mk hy143
      clear hy143
      obtain rfl := Option.some.inj H
      go_enter Try.func10, Try.ntmps10
      go_wp2_with (first | ((with_reducible refine gate_dst (N := 5) rfl ?_); refine box_event ?hg (N := 5) ?hd (cs := #[.string a2_0, .int .i64 a2_1, .bool a2_2, .bool a2_3]) (t := 28) ?hr ?_; (case hd => rfl); (case hg => rfl); (case hr => first | (go_simp; done) | (go_simp; rfl)); intro gb138 hg w8 hbox hb; have n0_ := Aside0.mk (below_step (by repeat (first | (with_reducible first | exact HB.out | apply below_alloc | apply pw_below_drewN | apply below_drew1) | exact HB.out)) hb); have n1_ := Aside0.mk (hbox); have n2_ := Aside0.mk ((by rw [hg]; exact (below_size (by repeat (first | (with_reducible first | exact HB.out | apply below_alloc | apply pw_below_drewN | apply below_drew1) | exact HB.out))) : w.heap.size ≤ gb138)); have n3_ := Aside0.mk ((by rw [hg]; exact (below_size (by repeat (first | (with_reducible first | exact HB.out | apply below_alloc | apply pw_below_drewN | apply below_drew1) | exact HB.out))) : w.heap.size ≤ gb138)); clear HB; have HB := n0_; have BK138 := n1_; have GW138 := n2_; have GE138 := n3_; clear n0_ n1_ n2_ n3_; clear hb hbox hg; have hcz9_0 : w8.cell? ⟨gb138, 0, none⟩ = some (.string a2_0) := (blk_cell BK138.out 0).trans rfl; have hcz9_1 : w8.cell? ⟨gb138, 1, none⟩ = some (.int .i64 a2_1) := (blk_cell BK138.out 1).trans rfl; have hcz9_2 : w8.cell? ⟨gb138, 2, none⟩ = some (.bool a2_2) := (blk_cell BK138.out 2).trans rfl; have hcz9_3 : w8.cell? ⟨gb138, 3, none⟩ = some (.bool a2_3) := (blk_cell BK138.out 3).trans rfl; have hfz9_0 := blk_frozen BK138.out 0; have hfz9_1 := blk_frozen BK138.out 1; have hfz9_2 := blk_frozen BK138.out 2; have hfz9_3 := blk_frozen BK138.out 3) | ((with_reducible refine gate_callee (f := 24) rfl ?_); refine goesL_ (some 14) rfl rfl Try.func24 (by kernel_rfl) rfl #[.slice A0 l0.length c0, .int .i64 a1, .string a2_0] rfl (by (try simp only [List.map_toArray, List.map_cons, List.map_nil]); first | done | rfl | (simp only [List.length_drop, List.length_take]; rfl)) ?_; (with_reducible refine (scope_some.calls _ _ l0 a1 a2_0 t139 t140 _ ?side1 ?side2 A4.out).mono ?_); (case side1 => repeat (first | exact (Kd.C_below HR0.out HB.out) | (with_reducible refine Kd.C_alloc ?_ _) | (with_reducible refine Kd.C_drewN ?_ _) | (with_reducible refine Kd.C_drew ?_))); (case side2 => exact HC0.out); rintro e w10 ⟨v141, rfl, ho0, hb⟩; refine ⟨_, rfl, ?_⟩; have n0_ := Aside0.mk (Kd.R_lower ho0 (below_size (by repeat (first | (with_reducible first | exact HB.out | apply below_alloc | apply pw_below_drewN | apply below_drew1 | refine below_set ?_ GE138.out) | exact HB.out)))); have n1_ := Aside0.mk (blk_below (g := gb138) (o := .cells #[.string a2_0, .int .i64 a2_1, .bool a2_2, .bool a2_3] 28 (0, 0)) (by (with_reducible repeat (first | refine blk_drewN ?_ _ | refine blk_drew ?_ | refine blk_alloc ?_ _)); exact BK138.out) hb); have n2_ := Aside0.mk (below_step (by repeat (first | (with_reducible first | exact HB.out | apply below_alloc | apply pw_below_drewN | apply below_drew1 | refine below_set ?_ GE138.out) | exact HB.out)) hb); clear BK138; clear HB; have HO142 := n0_; have BK138 := n1_; have HB := n2_; clear n0_ n1_ n2_; (try clear hb); (try clear hb2); (try clear hk); (try clear hi); (try clear ho0); have hcz11_0 : w10.cell? ⟨gb138, 0, none⟩ = some (.string a2_0) := (blk_cell BK138.out 0).trans rfl; have hcz11_1 : w10.cell? ⟨gb138, 1, none⟩ = some (.int .i64 a2_1) := (blk_cell BK138.out 1).trans rfl; have hcz11_2 : w10.cell? ⟨gb138, 2, none⟩ = some (.bool a2_2) := (blk_cell BK138.out 2).trans rfl; have hcz11_3 : w10.cell? ⟨gb138, 3, none⟩ = some (.bool a2_3) := (blk_cell BK138.out 3).trans rfl; have hfz11_0 := blk_frozen BK138.out 0; have hfz11_1 := blk_frozen BK138.out 1; have hfz11_2 := blk_frozen BK138.out 2; have hfz11_3 := blk_frozen BK138.out 3; have p7 : 0 ≤ (t140 : Int) := of_decide_eq_true (by first | (with_reducible assumption) | assumption); have q7 : (t140 : Int) < ((t139.length : Int) : Int) := of_decide_eq_true (by first | (with_reducible assumption) | assumption); obtain ⟨go7, co7, eo7, gb7, gl7, cl7, HG7⟩ := Kd.R_form HO142.out (by omega); (first | cases eo7 | (injection eo7 with ea_ en_ ec_; (first | subst ea_ | (injection ea_ with ea_; subst ea_)); subst ec_; clear en_)); have GB7 := Aside0.mk gb7; have GG7 := Aside0.mk HG7; clear gb7 gl7 HG7; obtain ⟨ce7, hcl7, hM7, hcc7, hfr7⟩ := Kd.R_elem HO142.out z38 (t140 : Int) p7 q7; obtain rfl := k38_openM hM7; have hx7_0 : w10.cell? ⟨go7, (t140 : Int).toNat * 4, none⟩ = some (.string ((rd_T38 t139 t140).f0)) := hcc7 0 _ rfl; have hx7_1 : w10.cell? ⟨go7, (t140 : Int).toNat * 4 + 1, none⟩ = some (.int .i64 ((rd_T38 t139 t140).f1)) := hcc7 1 _ rfl; have hx7_2 : w10.cell? ⟨go7, (t140 : Int).toNat * 4 + 2, none⟩ = some (.int .i64 ((rd_T38 t139 t140).f2)) := hcc7 2 _ rfl; have hx7_3 : w10.cell? ⟨go7, (t140 : Int).toNat * 4 + 3, none⟩ = some (.bool ((rd_T38 t139 t140).f3)) := hcc7 3 _ rfl; have hf7_0 : w10.frozen? ⟨go7, (t140 : Int).toNat * 4, none⟩ = false := hfr7 0; have hf7_1 : w10.frozen? ⟨go7, (t140 : Int).toNat * 4 + 1, none⟩ = false := hfr7 1; have hf7_2 : w10.frozen? ⟨go7, (t140 : Int).toNat * 4 + 2, none⟩ = false := hfr7 2; have hf7_3 : w10.frozen? ⟨go7, (t140 : Int).toNat * 4 + 3, none⟩ = false := hfr7 3; clear hcl7 hcc7 hfr7 hM7; replace p7 := eq_true p7; replace q7 := eq_true q7; have HX12 := Aside0.mk (show Kd.R k38 38 w10 w.heap.size (fun _ => True) (.slice (some ⟨go7, 0, none⟩) t139.length co7) t139 from (by (with_reducible repeat (first | apply Kd.R_alloc | apply Kd.R_drewN | apply Kd.R_drew)); exact HO142.out)); obtain ⟨ce12, hcl12, hM12, hcc12, hfr12⟩ := Kd.R_elem HX12.out z38 (t140 : Int) (of_decide_eq_true (by first | (with_reducible assumption) | assumption)) (by have h_ : (t140 : Int) < ((t139.length : Int) : Int) := of_decide_eq_true (by first | (with_reducible assumption) | assumption); first | exact h_ | (have e_ := (Kd.R_reads' HO142.out).1; omega) | simpa using h_); obtain rfl := k38_openM hM12; have HP12 := Kd.R_seg HX12.out (t140 : Int) (of_decide_eq_true (by first | (with_reducible assumption) | assumption)) (by have h_ : (t140 : Int) < ((t139.length : Int) : Int) := of_decide_eq_true (by first | (with_reducible assumption) | assumption); first | exact h_ | (have e_ := (Kd.R_reads' HO142.out).1; omega) | simpa using h_) (seg := [.int .i64 a2_1]) (j := 2) hcl12 hcc12 (show 3 ≤ 4 from by decide) (x' := (⟨(rd_T38 t139 t140).f0, (rd_T38 t139 t140).f1, a2_1, (rd_T38 t139 t140).f3⟩ : S38)) (k38_mkM _ _ _ (⟨(rd_T38 t139 t140).f0, (rd_T38 t139 t140).f1, a2_1, (rd_T38 t139 t140).f3⟩ : S38) ) (fun _ hk => hk); have hx12_2 := hcc12 2 _ rfl; (try simp only [show (k38).sz = 4 from rfl, Nat.mul_one, Nat.add_zero] at hx12_2); have hf12_2 := hfr12 2; (try simp only [show (k38).sz = 4 from rfl, Nat.mul_one, Nat.add_zero] at hf12_2); clear hcl12 hcc12 hfr12 hM12) | ((with_reducible refine gate_store (t := 3) (p := 22) rfl ?_); refine store_event (t := 3) (p := 22) (v := ?vo_w13) (w1 := (w10.setCell ⟨go7, (t140 : Int).toNat * 4 + 2, none⟩ (.int .i64 a2_1))) ?hg ?ho ?hn ?hr ?_; (case ho => rfl); (case hg => rfl); (case hn => rfl); (case hr => first | (go_simp; done) | (go_simp; rfl)); intro w13 hw; have hg : w10.grownBy w13 (some go7) := (by rw [hw]; exact HP12.2); have hp_ : Kd.R k38 38 w13 w.heap.size (fun _ => True) (.slice (some ⟨go7, 0, none⟩) t139.length co7) y143 := (by rw [hw, Ny143.out]; exact HP12.1); clear HP12; have n0_ := Aside0.mk (blk_grown (g := gb138) (o := .cells #[.string a2_0, .int .i64 a2_1, .bool a2_2, .bool a2_3] 28 (0, 0)) (by (with_reducible repeat (first | refine blk_drewN ?_ _ | refine blk_drew ?_ | refine blk_alloc ?_ _)); exact BK138.out) hg (Kd.R_ne HO142.out BK138.out (by decide))); have n1_ := Aside0.mk (hp_); have n2_ := Aside0.mk ((by rw [hw]; exact below_set (HB.out) GB7.out : Below w.heap.size w w13)); clear BK138; clear HO142; clear HB; have BK138 := n0_; have HO142 := n1_; have HB := n2_; clear n0_ n1_ n2_; clear hg hw hp_))
      go_ret
      exact ⟨_, by first | rfl | (simp [errW_none, errW_some] <;> rfl) | (simp [*, errW_none, errW_some] <;> rfl), by (with_reducible repeat (first | apply Kd.R_alloc | apply Kd.R_drewN | apply Kd.R_drew)); exact HO142.out, by repeat (first | (with_reducible first | exact HB.out | apply below_alloc | apply pw_below_drewN | apply below_drew1 | refine below_set ?_ GE138.out) | exact HB.out)⟩
    · rw [if_neg c6] at H
      exact absurd H (by simp)
  · rw [if_neg c5] at H
    exact absurd H (by simp)

/-! ### fleuronalike_Ints: function 12 -/
def fleuronalike_Ints.l0 : Nat → List Int → List Int → Int → Option (Bool)
  | 0, _, _, _ => none
  | k + 1, x0, x1, x5 => if x5 < (x0.length : Int) then (if 0 ≤ x5 then (if x5 < (x1.length : Int) then (if (rd x0 x5) = (rd x1 x5) then (fleuronalike_Ints.l0 k x0 x1 (wrap64 (x5 + 1))) else (some false)) else (none)) else (none)) else (some true)
def fleuronalike_Ints.f (k : Nat) (l0 : List Int) (l1 : List Int) : Option (Bool) := if (l0.length : Int) = (l1.length : Int) then (fleuronalike_Ints.l0 k l0 l1 0) else (some false)
theorem fleuronalike_Ints.mono_l : ∀ k, (∀ y0 y1 y2, LeO (fleuronalike_Ints.l0 k y0 y1 y2) (fleuronalike_Ints.l0 (k + 1) y0 y1 y2))
  | 0 => fun _ _ _ r h => by simp [fleuronalike_Ints.l0] at h
  | k + 1 => by
    have ih0 := fleuronalike_Ints.mono_l k
    · intro y0 y1 y2
      unfold fleuronalike_Ints.l0
      repeat' first
      | (with_reducible exact ih0 _ _ _)
      | (with_reducible exact LeO.refl _)
      | (with_reducible exact LeO.none _)
      | (with_reducible refine LeO.ite ?_ ?_)
      | (with_reducible refine LeO.bind ?_ (fun _ => ?_))
      | exact ih0 _ _ _
      | exact LeO.none _
      | refine LeO.ite ?_ ?_
      | refine LeO.bind ?_ (fun _ => ?_)
theorem fleuronalike_Ints.mono : ∀ a0 a1 k, LeO (fleuronalike_Ints.f k a0 a1) (fleuronalike_Ints.f (k + 1) a0 a1) := by
  intro a0 a1 k
  have ih0 := fleuronalike_Ints.mono_l k
  unfold fleuronalike_Ints.f
  repeat' first
      | (with_reducible exact ih0 _ _ _)
      | (with_reducible exact LeO.refl _)
      | (with_reducible exact LeO.none _)
      | (with_reducible refine LeO.ite ?_ ?_)
      | (with_reducible refine LeO.bind ?_ (fun _ => ?_))
      | exact ih0 _ _ _
      | exact LeO.none _
      | refine LeO.ite ?_ ?_
      | refine LeO.bind ?_ (fun _ => ?_)
set_option maxHeartbeats 8000000 in
set_option maxRecDepth 100000 in
theorem fleuronalike_Ints.calls (k : Nat) (A0 : Option Addr) (c0 : Nat) (l0 : List Int) (A1 : Option Addr) (c1 : Nat) (l1 : List Int) (r : Bool) (w : World) (hr0 : Kd.C (Kd.int .i64) w A0 l0.length l0) (hc0 : l0.length ≤ c0) (hr1 : Kd.C (Kd.int .i64) w A1 l1.length l1) (hc1 : l1.length ≤ c1) (h : fleuronalike_Ints.f k l0 l1 = some r) :
    Calls Try.prog 12 #[.slice A0 l0.length c0, .slice A1 l1.length c1] w fun e w' => e = .returned (.bool r) ∧ Drawn0 w w' := by
  have HR0 := Aside0.mk hr0
  have HC0 := Aside0.mk hc0
  clear hr0 hc0
  have HR1 := Aside0.mk hr1
  have HC1 := Aside0.mk hc1
  clear hr1 hc1
  have H : (if (l0.length : Int) = (l1.length : Int) then (fleuronalike_Ints.l0 k l0 l1 0) else (some false)) = some r := h
  clear h
  by_cases c3 : (l0.length : Int) = (l1.length : Int)
  · rw [if_pos c3] at H
    have c3b0 : ((l0.length : Int) == (l1.length : Int)) = true := beq_iff_eq.mpr c3
    have c3b1 : ((l0.length : Int) != (l1.length : Int)) = false := bne_eq_false_iff_eq.mpr c3
    have c3b2 : (l0.length == l1.length) = true := by first | simpa using c3 | (simp at c3 ⊢; omega)
    clear c3
    have H' := Aside0.mk H
    clear H
    go_enter Try.func12, Try.ntmps12
    go_wp2
    repeat (go_quiet (fail); try go_wp2)
    go_loopg [5] k (fun kq v5 w' => ∃ (x5_1 : Int), v5 = .int .i64 x5_1 ∧ Aside0 (fleuronalike_Ints.l0 kq l0 l1 x5_1 = some r) ∧ Aside0 (kq ≤ k) ∧ Drawn0 w w')
    case atStart => exact ⟨(0), (by first | rfl | (simp; done) | (simp [*]; done)), H', ⟨Nat.le_refl _⟩, by repeat (first | exact Drawn0.refl _ | apply Drawn0.step)⟩
    case round =>
      clear H'
      try clear c1
      try clear p2
      try clear c3
      try clear c3b0
      try clear c3b1
      try clear c3b2
      obtain ⟨x5_1, rfl, HA, HK1, ⟨m1, rfl⟩⟩ := hrel
      cases gk with
      | zero => exact absurd HA.out (by simp [fleuronalike_Ints.l0])
      | succ k1 =>
        have H := HA.out
        clear HA
        simp only [fleuronalike_Ints.l0] at H
        by_cases c4 : x5_1 < (l0.length : Int)
        · rw [if_pos c4] at H
          have c4b0 : decide (x5_1 < (l0.length : Int)) = true := decide_eq_true c4
          clear c4
          by_cases c5 : 0 ≤ x5_1
          · rw [if_pos c5] at H
            have c5b0 : decide (0 ≤ x5_1) = true := decide_eq_true c5
            clear c5
            by_cases c6 : x5_1 < (l1.length : Int)
            · rw [if_pos c6] at H
              have c6b0 : decide (x5_1 < (l1.length : Int)) = true := decide_eq_true c6
              clear c6
              by_cases c7 : (rd l0 x5_1) = (rd l1 x5_1)
              · rw [if_pos c7] at H
                have c7b0 : ((rd l0 x5_1) == (rd l1 x5_1)) = true := beq_iff_eq.mpr c7
                have c7b1 : ((rd l0 x5_1) != (rd l1 x5_1)) = false := bne_eq_false_iff_eq.mpr c7
                clear c7
                have H' := Aside0.mk H
                clear H
                have p144 : 0 ≤ (x5_1 : Int) := of_decide_eq_true (by first | (with_reducible assumption) | assumption)
                have q144 : x5_1 < (l0.length : Int) := of_decide_eq_true (by first | (with_reducible assumption) | assumption)
                obtain ⟨ad144, e144, hx144_0⟩ := Kd.at_int HR0.out x5_1 p144 q144
                cases e144
                replace p144 := eq_true p144
                replace q144 := eq_true q144
                have p145 : 0 ≤ (x5_1 : Int) := of_decide_eq_true (by first | (with_reducible assumption) | assumption)
                have q145 : x5_1 < (l1.length : Int) := of_decide_eq_true (by first | (with_reducible assumption) | assumption)
                obtain ⟨ad145, e145, hx145_0⟩ := Kd.at_int HR1.out x5_1 p145 q145
                cases e145
                replace p145 := eq_true p145
                replace q145 := eq_true q145
                go_wp2
                repeat (go_quiet (fail); try go_wp2)
                go_roundg k1
                case measure => have := HK1.out; omega
                case rel => exact ⟨(wrap64 (x5_1 + 1)), (by first | rfl | (simp; done) | (simp [*]; done)), H', ⟨by have := HK1.out; omega⟩, by repeat (first | exact Drawn0.refl _ | apply Drawn0.step)⟩
              · rw [if_neg c7] at H
                have c7b0 : ((rd l0 x5_1) == (rd l1 x5_1)) = false := beq_eq_false_iff_ne.mpr c7
                have c7b1 : ((rd l0 x5_1) != (rd l1 x5_1)) = true := bne_iff_ne.mpr c7
                obtain rfl := Option.some.inj H
                have p144 : 0 ≤ (x5_1 : Int) := of_decide_eq_true (by first | (with_reducible assumption) | assumption)
                have q144 : x5_1 < (l0.length : Int) := of_decide_eq_true (by first | (with_reducible assumption) | assumption)
                obtain ⟨ad144, e144, hx144_0⟩ := Kd.at_int HR0.out x5_1 p144 q144
                cases e144
                replace p144 := eq_true p144
                replace q144 := eq_true q144
                have p145 : 0 ≤ (x5_1 : Int) := of_decide_eq_true (by first | (with_reducible assumption) | assumption)
                have q145 : x5_1 < (l1.length : Int) := of_decide_eq_true (by first | (with_reducible assumption) | assumption)
                obtain ⟨ad145, e145, hx145_0⟩ := Kd.at_int HR1.out x5_1 p145 q145
                cases e145
                replace p145 := eq_true p145
                replace q145 := eq_true q145
                go_wp2
                repeat (go_quiet (fail); try go_wp2)
                go_ret
                exact ⟨by first | rfl | (simp; done) | (simp [*]; done), by repeat (first | exact Drawn0.refl _ | apply Drawn0.step)⟩
            · rw [if_neg c6] at H
              exact absurd H (by simp)
          · rw [if_neg c5] at H
            exact absurd H (by simp)
        · rw [if_neg c4] at H
          have c4b0 : decide (x5_1 < (l0.length : Int)) = false := decide_eq_false c4
          clear c4
          obtain rfl := Option.some.inj H
          go_wp2
          repeat (go_quiet (fail); try go_wp2)
          go_ret
          exact ⟨by first | rfl | (simp; done) | (simp [*]; done), by repeat (first | exact Drawn0.refl _ | apply Drawn0.step)⟩
  · rw [if_neg c3] at H
    have c3b0 : ((l0.length : Int) == (l1.length : Int)) = false := beq_eq_false_iff_ne.mpr c3
    have c3b1 : ((l0.length : Int) != (l1.length : Int)) = true := bne_iff_ne.mpr c3
    have c3b2 : (l0.length == l1.length) = false := by first | simpa using c3 | (simp at c3 ⊢; omega)
    obtain rfl := Option.some.inj H
    go_enter Try.func12, Try.ntmps12
    go_wp2
    repeat (go_quiet (fail); try go_wp2)
    go_ret
    exact ⟨by first | rfl | (simp; done) | (simp [*]; done), by repeat (first | exact Drawn0.refl _ | apply Drawn0.step)⟩

end Go.Proofs.Ytejkbdlegnobcaa.Print
