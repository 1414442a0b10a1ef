/- Written by a program of this session out of the translation, with contracts given by hand beside. -/
import Derived.Test.YtalegejfellbdaaPrint0
namespace Go.Proofs.Ytalegejfellbdaa.Print
open Go.RowKit Go.Proofs.YtalegejfellbdaaW.PrintWords Go.Proofs.YtalegejfellbdaaW.PrintLast Go.Proofs.YtalegejfellbdaaW.PrintMore
attribute [local go_sem] max2_int min2_int max_two min_two max_three min_three max_four min_four   -- for this text's walks alone
set_option linter.unusedVariables false
set_option linter.unusedSimpArgs false

/-! ### fleuronlaw9_few: function 9 -/
mutual
def fleuronlaw9_few.l0 : Nat → Int → ByteArray → ByteArray → Int → List ByteArray → List Int → ByteArray → ByteArray → ByteArray → ByteArray → Bool → List (S41) → Int → ByteArray → ByteArray → ByteArray → Int → Option (Bool)
  | 0, _, _, _, _, _, _, _, _, _, _, _, _, _, _, _, _, _ => none
  | k + 1, x3, x428000, x428001, x428002, x428003, x428004, x428005, x428006, x428007, x428008, x428009, x428010, x428011, x428012, x428013, x428014, x428015 => if x3 < (x428003.length : Int) then (fleuronlaw9_few.j1 k x3 (decide (x3 < 80)) x428000 x428001 x428002 x428003 x428004 x428005 x428006 x428007 x428008 x428009 x428010 x428011 x428012 x428013 x428014 x428015) else (fleuronlaw9_few.j1 k x3 false x428000 x428001 x428002 x428003 x428004 x428005 x428006 x428007 x428008 x428009 x428010 x428011 x428012 x428013 x428014 x428015)
def fleuronlaw9_few.j1 : Nat → Int → Bool → ByteArray → ByteArray → Int → List ByteArray → List Int → ByteArray → ByteArray → ByteArray → ByteArray → Bool → List (S41) → Int → ByteArray → ByteArray → ByteArray → Int → Option (Bool)
  | 0, _, _, _, _, _, _, _, _, _, _, _, _, _, _, _, _, _, _ => none
  | k + 1, x3, x12, x428000, x428001, x428002, x428003, x428004, x428005, x428006, x428007, x428008, x428009, x428010, x428011, x428012, x428013, x428014, x428015 => if x12 = true then (if 0 ≤ x3 then (if x3 < (x428003.length : Int) then (if ((rdOf ByteArray.empty x428003 x3).size : Int) > 120 then (some false) else (fleuronlaw9_few.l0 k (wrap64 (x3 + 1)) x428000 x428001 x428002 x428003 x428004 x428005 x428006 x428007 x428008 x428009 x428010 x428011 x428012 x428013 x428014 x428015)) else (none)) else (none)) else (if (x428003.length : Int) ≤ 70 then (if (x428004.length : Int) ≤ 70 then (if (x428010.length : Int) ≤ 20 then (if (x428007.size : Int) ≤ 200 then (if (x428008.size : Int) ≤ 200 then (if (x428012.size : Int) ≤ 200 then (if (x428005.size : Int) ≤ 200 then (some (decide ((x428006.size : Int) ≤ 200))) else (some false)) else (some false)) else (some false)) else (some false)) else (some false)) else (some false)) else (some false))
end
def fleuronlaw9_few.f (k : Nat) (a0_0 : ByteArray) (a0_1 : ByteArray) (a0_2 : Int) (l0_3 : List ByteArray) (l0_4 : List Int) (a0_5 : ByteArray) (a0_6 : ByteArray) (a0_7 : ByteArray) (a0_8 : ByteArray) (a0_9 : Bool) (l0_10 : List (S41)) (a0_11 : Int) (a0_12 : ByteArray) (a0_13 : ByteArray) (a0_14 : ByteArray) (a0_15 : Int) : Option (Bool) := fleuronlaw9_few.l0 k 0 a0_0 a0_1 a0_2 l0_3 l0_4 a0_5 a0_6 a0_7 a0_8 a0_9 l0_10 a0_11 a0_12 a0_13 a0_14 a0_15
theorem fleuronlaw9_few.mono_l : ∀ k, (∀ y0 y1 y2 y3 y4 y5 y6 y7 y8 y9 y10 y11 y12 y13 y14 y15 y16, LeO (fleuronlaw9_few.l0 k y0 y1 y2 y3 y4 y5 y6 y7 y8 y9 y10 y11 y12 y13 y14 y15 y16) (fleuronlaw9_few.l0 (k + 1) y0 y1 y2 y3 y4 y5 y6 y7 y8 y9 y10 y11 y12 y13 y14 y15 y16)) ∧ (∀ y0 y1 y2 y3 y4 y5 y6 y7 y8 y9 y10 y11 y12 y13 y14 y15 y16 y17, LeO (fleuronlaw9_few.j1 k y0 y1 y2 y3 y4 y5 y6 y7 y8 y9 y10 y11 y12 y13 y14 y15 y16 y17) (fleuronlaw9_few.j1 (k + 1) y0 y1 y2 y3 y4 y5 y6 y7 y8 y9 y10 y11 y12 y13 y14 y15 y16 y17))
  | 0 => ⟨fun _ _ _ _ _ _ _ _ _ _ _ _ _ _ _ _ _ r h => by simp [fleuronlaw9_few.l0] at h, fun _ _ _ _ _ _ _ _ _ _ _ _ _ _ _ _ _ _ r h => by simp [fleuronlaw9_few.j1] at h⟩
  | k + 1 => by
    obtain ⟨ih0, ih1⟩ := fleuronlaw9_few.mono_l k
    refine ⟨?_, ?_⟩
    · intro y0 y1 y2 y3 y4 y5 y6 y7 y8 y9 y10 y11 y12 y13 y14 y15 y16
      unfold fleuronlaw9_few.l0
      repeat' first
      | (with_reducible exact ih0 _ _ _ _ _ _ _ _ _ _ _ _ _ _ _ _ _)
      | (with_reducible exact ih1 _ _ _ _ _ _ _ _ _ _ _ _ _ _ _ _ _ _)
      | (with_reducible exact LeO.refl _)
      | (with_reducible exact LeO.none _)
      | (with_reducible refine LeO.ite ?_ ?_)
      | (with_reducible refine LeO.bind ?_ (fun _ => ?_))
      | exact ih0 _ _ _ _ _ _ _ _ _ _ _ _ _ _ _ _ _
      | exact ih1 _ _ _ _ _ _ _ _ _ _ _ _ _ _ _ _ _ _
      | exact LeO.none _
      | refine LeO.ite ?_ ?_
      | refine LeO.bind ?_ (fun _ => ?_)
    · intro y0 y1 y2 y3 y4 y5 y6 y7 y8 y9 y10 y11 y12 y13 y14 y15 y16 y17
      unfold fleuronlaw9_few.j1
      repeat' first
      | (with_reducible exact ih0 _ _ _ _ _ _ _ _ _ _ _ _ _ _ _ _ _)
      | (with_reducible exact ih1 _ _ _ _ _ _ _ _ _ _ _ _ _ _ _ _ _ _)
      | (with_reducible exact LeO.refl _)
      | (with_reducible exact LeO.none _)
      | (with_reducible refine LeO.ite ?_ ?_)
      | (with_reducible refine LeO.bind ?_ (fun _ => ?_))
      | exact ih0 _ _ _ _ _ _ _ _ _ _ _ _ _ _ _ _ _
      | exact ih1 _ _ _ _ _ _ _ _ _ _ _ _ _ _ _ _ _ _
      | exact LeO.none _
      | refine LeO.ite ?_ ?_
      | refine LeO.bind ?_ (fun _ => ?_)
theorem fleuronlaw9_few.mono : ∀ a0 a1 a2 a3 a4 a5 a6 a7 a8 a9 a10 a11 a12 a13 a14 a15 k, LeO (fleuronlaw9_few.f k a0 a1 a2 a3 a4 a5 a6 a7 a8 a9 a10 a11 a12 a13 a14 a15) (fleuronlaw9_few.f (k + 1) a0 a1 a2 a3 a4 a5 a6 a7 a8 a9 a10 a11 a12 a13 a14 a15) := by
  intro a0 a1 a2 a3 a4 a5 a6 a7 a8 a9 a10 a11 a12 a13 a14 a15 k
  obtain ⟨ih0, ih1⟩ := fleuronlaw9_few.mono_l k
  unfold fleuronlaw9_few.f
  repeat' first
      | (with_reducible exact ih0 _ _ _ _ _ _ _ _ _ _ _ _ _ _ _ _ _)
      | (with_reducible exact ih1 _ _ _ _ _ _ _ _ _ _ _ _ _ _ _ _ _ _)
      | (with_reducible exact LeO.refl _)
      | (with_reducible exact LeO.none _)
      | (with_reducible refine LeO.ite ?_ ?_)
      | (with_reducible refine LeO.bind ?_ (fun _ => ?_))
      | exact ih0 _ _ _ _ _ _ _ _ _ _ _ _ _ _ _ _ _
      | exact ih1 _ _ _ _ _ _ _ _ _ _ _ _ _ _ _ _ _ _
      | exact LeO.none _
      | refine LeO.ite ?_ ?_
      | refine LeO.bind ?_ (fun _ => ?_)
set_option maxHeartbeats 8000000 in
set_option maxRecDepth 100000 in
theorem fleuronlaw9_few.calls (k : Nat) (a0_0 : ByteArray) (a0_1 : ByteArray) (a0_2 : Int) (A0_3 : Option Addr) (c0_3 : Nat) (l0_3 : List ByteArray) (A0_4 : Option Addr) (c0_4 : Nat) (l0_4 : List Int) (a0_5 : ByteArray) (a0_6 : ByteArray) (a0_7 : ByteArray) (a0_8 : ByteArray) (a0_9 : Bool) (A0_10 : Option Addr) (c0_10 : Nat) (l0_10 : List (S41)) (a0_11 : Int) (a0_12 : ByteArray) (a0_13 : ByteArray) (a0_14 : ByteArray) (a0_15 : Int) (r : Bool) (w : World) (hr0_3 : Kd.C Kd.string w A0_3 l0_3.length l0_3) (hc0_3 : l0_3.length ≤ c0_3) (hr0_4 : Kd.C (Kd.int .i64) w A0_4 l0_4.length l0_4) (hc0_4 : l0_4.length ≤ c0_4) (hr0_10 : Kd.C k41 w A0_10 l0_10.length l0_10) (hc0_10 : l0_10.length ≤ c0_10) (h : fleuronlaw9_few.f k a0_0 a0_1 a0_2 l0_3 l0_4 a0_5 a0_6 a0_7 a0_8 a0_9 l0_10 a0_11 a0_12 a0_13 a0_14 a0_15 = some r) :
    Calls Try.prog 9 #[.agg #[.string a0_0, .string a0_1, .int .i64 a0_2, .slice A0_3 l0_3.length c0_3, .slice A0_4 l0_4.length c0_4, .string a0_5, .string a0_6, .string a0_7, .string a0_8, .bool a0_9, .slice A0_10 l0_10.length c0_10, .int .i64 a0_11, .string a0_12, .string a0_13, .string a0_14, .int .i64 a0_15]] w fun e w' => e = .returned (.bool r) ∧ Below w.heap.size w w' := by
  have hu27 := Try.underlying27
  have HR0_3 := Aside0.mk hr0_3
  have HC0_3 := Aside0.mk hc0_3
  clear hr0_3 hc0_3
  have HR0_4 := Aside0.mk hr0_4
  have HC0_4 := Aside0.mk hc0_4
  clear hr0_4 hc0_4
  have HR0_10 := Aside0.mk hr0_10
  have HC0_10 := Aside0.mk hc0_10
  clear hr0_10 hc0_10
  have HB := Aside0.mk (Below.refl w.heap.size w)
  have H : (fleuronlaw9_few.l0 k 0 a0_0 a0_1 a0_2 l0_3 l0_4 a0_5 a0_6 a0_7 a0_8 a0_9 l0_10 a0_11 a0_12 a0_13 a0_14 a0_15) = some r := h
  clear h
  have H' := Aside0.mk H
  clear H
  go_enter Try.func9, Try.ntmps9
  go_wp2_with (first | ((with_reducible refine gate_dst (N := 1) rfl ?_); (try (refine gate_guard (by rfl) ?_; dsimp only)); refine box_event ?hg (N := 1) ?hd (cs := #[.string a0_0, .string a0_1, .int .i64 a0_2, .slice A0_3 l0_3.length c0_3, .slice A0_4 l0_4.length c0_4, .string a0_5, .string a0_6, .string a0_7, .string a0_8, .bool a0_9, .slice A0_10 l0_10.length c0_10, .int .i64 a0_11, .string a0_12, .string a0_13, .string a0_14, .int .i64 a0_15]) (t := 27) ?hr ?_; (case hd => rfl); (case hg => rfl); (case hr => first | (go_simp; done) | (go_simp; rfl)); intro gb427 hg w2 hbox hb; have n0_ := Aside0.mk (below_step (by repeat (first | (with_reducible first | exact HB.out | apply below_alloc | apply pw_below_drewN | apply below_drew1) | exact HB.out)) hb); have n1_ := Aside0.mk (hbox); have n2_ := Aside0.mk ((by rw [hg]; exact (below_size (by repeat (first | (with_reducible first | exact HB.out | apply below_alloc | apply pw_below_drewN | apply below_drew1) | exact HB.out))) : w.heap.size ≤ gb427)); have n3_ := Aside0.mk ((by rw [hg]; exact (below_size (by repeat (first | (with_reducible first | exact HB.out | apply below_alloc | apply pw_below_drewN | apply below_drew1) | exact HB.out))) : w.heap.size ≤ gb427)); clear HB; have HB := n0_; have BK427 := n1_; have GW427 := n2_; have GE427 := n3_; clear n0_ n1_ n2_ n3_; clear hb hbox hg))
  go_loopg [3] k (fun kq v3 w' => ∃ (x3_1 : Int), v3 = .int .i64 x3_1 ∧ Aside0 (fleuronlaw9_few.l0 kq x3_1 a0_0 a0_1 a0_2 l0_3 l0_4 a0_5 a0_6 a0_7 a0_8 a0_9 l0_10 a0_11 a0_12 a0_13 a0_14 a0_15 = some r) ∧ Aside0 (kq ≤ k) ∧ Aside0 (w'.heap[gb427]? = some (.cells #[.string a0_0, .string a0_1, .int .i64 a0_2, (.slice A0_3 l0_3.length c0_3), (.slice A0_4 l0_4.length c0_4), .string a0_5, .string a0_6, .string a0_7, .string a0_8, .bool a0_9, (.slice A0_10 l0_10.length c0_10), .int .i64 a0_11, .string a0_12, .string a0_13, .string a0_14, .int .i64 a0_15] 27 (0, 0))) ∧ Aside0 (Below w.heap.size w w'))
  case atStart => exact ⟨(0), (by first | rfl | (simp; done) | (simp [*]; done)), H', ⟨Nat.le_refl _⟩, ⟨by (with_reducible repeat (first | refine blk_drewN ?_ _ | refine blk_drew ?_ | refine blk_alloc ?_ _)); exact BK427.out⟩, ⟨by repeat (first | (with_reducible first | exact HB.out | apply below_alloc | apply pw_below_drewN | apply below_drew1 | refine below_set ?_ GE427.out) | exact HB.out)⟩⟩
  case round =>
    clear H'
    try clear p2
    obtain ⟨x3_1, rfl, HA, HK1, BK427, HB⟩ := hrel
    cases gk with
    | zero => exact absurd HA.out (by simp [fleuronlaw9_few.l0])
    | succ k1 =>
      have H := HA.out
      clear HA
      simp only [fleuronlaw9_few.l0] at H
      have HC3 := Aside0.mk H
      clear H
      go_upto_region 2 with (fail)
      go_cut [12] (fun v12 wc => ∃ (kq : Nat) (x12_2 : Bool), v12 = .bool x12_2 ∧ Aside0 (fleuronlaw9_few.j1 kq x3_1 x12_2 a0_0 a0_1 a0_2 l0_3 l0_4 a0_5 a0_6 a0_7 a0_8 a0_9 l0_10 a0_11 a0_12 a0_13 a0_14 a0_15 = some r) ∧ Aside0 (kq ≤ k1) ∧ Aside0 (wc.heap[gb427]? = some (.cells #[.string a0_0, .string a0_1, .int .i64 a0_2, (.slice A0_3 l0_3.length c0_3), (.slice A0_4 l0_4.length c0_4), .string a0_5, .string a0_6, .string a0_7, .string a0_8, .bool a0_9, (.slice A0_10 l0_10.length c0_10), .int .i64 a0_11, .string a0_12, .string a0_13, .string a0_14, .int .i64 a0_15] 27 (0, 0))) ∧ Aside0 (Below w.heap.size w wc))
      case first =>
        have H := HC3.out
        clear HC3
        by_cases c4 : x3_1 < (l0_3.length : Int)
        · rw [if_pos c4] at H
          have c4b0 : decide (x3_1 < (l0_3.length : Int)) = true := decide_eq_true c4
          clear c4
          (first | rw [c4b0] | (simp only [i64_w, i32_w]; rw [c4b0]) | skip)
          have H' := Aside0.mk H
          clear H
          have hcz5_0 : wr.cell? ⟨gb427, 0, none⟩ = some (.string a0_0) := (blk_cell BK427.out 0).trans rfl
          have hcz5_1 : wr.cell? ⟨gb427, 1, none⟩ = some (.string a0_1) := (blk_cell BK427.out 1).trans rfl
          have hcz5_2 : wr.cell? ⟨gb427, 2, none⟩ = some (.int .i64 a0_2) := (blk_cell BK427.out 2).trans rfl
          have hcz5_3 : wr.cell? ⟨gb427, 3, none⟩ = some (.slice A0_3 l0_3.length c0_3) := (blk_cell BK427.out 3).trans rfl
          have hcz5_4 : wr.cell? ⟨gb427, 4, none⟩ = some (.slice A0_4 l0_4.length c0_4) := (blk_cell BK427.out 4).trans rfl
          have hcz5_5 : wr.cell? ⟨gb427, 5, none⟩ = some (.string a0_5) := (blk_cell BK427.out 5).trans rfl
          have hcz5_6 : wr.cell? ⟨gb427, 6, none⟩ = some (.string a0_6) := (blk_cell BK427.out 6).trans rfl
          have hcz5_7 : wr.cell? ⟨gb427, 7, none⟩ = some (.string a0_7) := (blk_cell BK427.out 7).trans rfl
          have hcz5_8 : wr.cell? ⟨gb427, 8, none⟩ = some (.string a0_8) := (blk_cell BK427.out 8).trans rfl
          have hcz5_9 : wr.cell? ⟨gb427, 9, none⟩ = some (.bool a0_9) := (blk_cell BK427.out 9).trans rfl
          have hcz5_10 : wr.cell? ⟨gb427, 10, none⟩ = some (.slice A0_10 l0_10.length c0_10) := (blk_cell BK427.out 10).trans rfl
          have hcz5_11 : wr.cell? ⟨gb427, 11, none⟩ = some (.int .i64 a0_11) := (blk_cell BK427.out 11).trans rfl
          have hcz5_12 : wr.cell? ⟨gb427, 12, none⟩ = some (.string a0_12) := (blk_cell BK427.out 12).trans rfl
          have hcz5_13 : wr.cell? ⟨gb427, 13, none⟩ = some (.string a0_13) := (blk_cell BK427.out 13).trans rfl
          have hcz5_14 : wr.cell? ⟨gb427, 14, none⟩ = some (.string a0_14) := (blk_cell BK427.out 14).trans rfl
          have hcz5_15 : wr.cell? ⟨gb427, 15, none⟩ = some (.int .i64 a0_15) := (blk_cell BK427.out 15).trans rfl
          have hfz5_0 := blk_frozen BK427.out 0
          have hfz5_1 := blk_frozen BK427.out 1
          have hfz5_2 := blk_frozen BK427.out 2
          have hfz5_3 := blk_frozen BK427.out 3
          have hfz5_4 := blk_frozen BK427.out 4
          have hfz5_5 := blk_frozen BK427.out 5
          have hfz5_6 := blk_frozen BK427.out 6
          have hfz5_7 := blk_frozen BK427.out 7
          have hfz5_8 := blk_frozen BK427.out 8
          have hfz5_9 := blk_frozen BK427.out 9
          have hfz5_10 := blk_frozen BK427.out 10
          have hfz5_11 := blk_frozen BK427.out 11
          have hfz5_12 := blk_frozen BK427.out 12
          have hfz5_13 := blk_frozen BK427.out 13
          have hfz5_14 := blk_frozen BK427.out 14
          have hfz5_15 := blk_frozen BK427.out 15
          go_wp2
          go_meet
          case rel => exact ⟨_, (decide (x3_1 < 80)), (by first | rfl | (simp; done) | (simp [*]; done)), H', ⟨by have := HK1.out; first | omega | exact Nat.le_refl _⟩, ⟨by (with_reducible repeat (first | refine blk_drewN ?_ _ | refine blk_drew ?_ | refine blk_alloc ?_ _)); exact BK427.out⟩, ⟨by repeat (first | (with_reducible first | exact HB.out | apply below_alloc | apply pw_below_drewN | apply below_drew1 | refine below_set ?_ GE427.out) | exact HB.out)⟩⟩
        · rw [if_neg c4] at H
          have c4b0 : decide (x3_1 < (l0_3.length : Int)) = false := decide_eq_false c4
          clear c4
          (first | rw [c4b0] | (simp only [i64_w, i32_w]; rw [c4b0]) | skip)
          have H' := Aside0.mk H
          clear H
          have hcz6_0 : wr.cell? ⟨gb427, 0, none⟩ = some (.string a0_0) := (blk_cell BK427.out 0).trans rfl
          have hcz6_1 : wr.cell? ⟨gb427, 1, none⟩ = some (.string a0_1) := (blk_cell BK427.out 1).trans rfl
          have hcz6_2 : wr.cell? ⟨gb427, 2, none⟩ = some (.int .i64 a0_2) := (blk_cell BK427.out 2).trans rfl
          have hcz6_3 : wr.cell? ⟨gb427, 3, none⟩ = some (.slice A0_3 l0_3.length c0_3) := (blk_cell BK427.out 3).trans rfl
          have hcz6_4 : wr.cell? ⟨gb427, 4, none⟩ = some (.slice A0_4 l0_4.length c0_4) := (blk_cell BK427.out 4).trans rfl
          have hcz6_5 : wr.cell? ⟨gb427, 5, none⟩ = some (.string a0_5) := (blk_cell BK427.out 5).trans rfl
          have hcz6_6 : wr.cell? ⟨gb427, 6, none⟩ = some (.string a0_6) := (blk_cell BK427.out 6).trans rfl
          have hcz6_7 : wr.cell? ⟨gb427, 7, none⟩ = some (.string a0_7) := (blk_cell BK427.out 7).trans rfl
          have hcz6_8 : wr.cell? ⟨gb427, 8, none⟩ = some (.string a0_8) := (blk_cell BK427.out 8).trans rfl
          have hcz6_9 : wr.cell? ⟨gb427, 9, none⟩ = some (.bool a0_9) := (blk_cell BK427.out 9).trans rfl
          have hcz6_10 : wr.cell? ⟨gb427, 10, none⟩ = some (.slice A0_10 l0_10.length c0_10) := (blk_cell BK427.out 10).trans rfl
          have hcz6_11 : wr.cell? ⟨gb427, 11, none⟩ = some (.int .i64 a0_11) := (blk_cell BK427.out 11).trans rfl
          have hcz6_12 : wr.cell? ⟨gb427, 12, none⟩ = some (.string a0_12) := (blk_cell BK427.out 12).trans rfl
          have hcz6_13 : wr.cell? ⟨gb427, 13, none⟩ = some (.string a0_13) := (blk_cell BK427.out 13).trans rfl
          have hcz6_14 : wr.cell? ⟨gb427, 14, none⟩ = some (.string a0_14) := (blk_cell BK427.out 14).trans rfl
          have hcz6_15 : wr.cell? ⟨gb427, 15, none⟩ = some (.int .i64 a0_15) := (blk_cell BK427.out 15).trans rfl
          have hfz6_0 := blk_frozen BK427.out 0
          have hfz6_1 := blk_frozen BK427.out 1
          have hfz6_2 := blk_frozen BK427.out 2
          have hfz6_3 := blk_frozen BK427.out 3
          have hfz6_4 := blk_frozen BK427.out 4
          have hfz6_5 := blk_frozen BK427.out 5
          have hfz6_6 := blk_frozen BK427.out 6
          have hfz6_7 := blk_frozen BK427.out 7
          have hfz6_8 := blk_frozen BK427.out 8
          have hfz6_9 := blk_frozen BK427.out 9
          have hfz6_10 := blk_frozen BK427.out 10
          have hfz6_11 := blk_frozen BK427.out 11
          have hfz6_12 := blk_frozen BK427.out 12
          have hfz6_13 := blk_frozen BK427.out 13
          have hfz6_14 := blk_frozen BK427.out 14
          have hfz6_15 := blk_frozen BK427.out 15
          go_wp2
          go_meet
          case rel => exact ⟨_, (false), (by first | rfl | (simp; done) | (simp [*]; done)), H', ⟨by have := HK1.out; first | omega | exact Nat.le_refl _⟩, ⟨by (with_reducible repeat (first | refine blk_drewN ?_ _ | refine blk_drew ?_ | refine blk_alloc ?_ _)); exact BK427.out⟩, ⟨by repeat (first | (with_reducible first | exact HB.out | apply below_alloc | apply pw_below_drewN | apply below_drew1 | refine below_set ?_ GE427.out) | exact HB.out)⟩⟩
      case rest =>
        clear HC3
        try clear p2
        try clear c4
        try clear c4b0
        try clear hcz5_0
        try clear hcz5_1
        try clear hcz5_10
        try clear hcz5_11
        try clear hcz5_12
        try clear hcz5_13
        try clear hcz5_14
        try clear hcz5_15
        try clear hcz5_2
        try clear hcz5_3
        try clear hcz5_4
        try clear hcz5_5
        try clear hcz5_6
        try clear hcz5_7
        try clear hcz5_8
        try clear hcz5_9
        try clear hcz6_0
        try clear hcz6_1
        try clear hcz6_10
        try clear hcz6_11
        try clear hcz6_12
        try clear hcz6_13
        try clear hcz6_14
        try clear hcz6_15
        try clear hcz6_2
        try clear hcz6_3
        try clear hcz6_4
        try clear hcz6_5
        try clear hcz6_6
        try clear hcz6_7
        try clear hcz6_8
        try clear hcz6_9
        try clear hfz5_0
        try clear hfz5_1
        try clear hfz5_10
        try clear hfz5_11
        try clear hfz5_12
        try clear hfz5_13
        try clear hfz5_14
        try clear hfz5_15
        try clear hfz5_2
        try clear hfz5_3
        try clear hfz5_4
        try clear hfz5_5
        try clear hfz5_6
        try clear hfz5_7
        try clear hfz5_8
        try clear hfz5_9
        try clear hfz6_0
        try clear hfz6_1
        try clear hfz6_10
        try clear hfz6_11
        try clear hfz6_12
        try clear hfz6_13
        try clear hfz6_14
        try clear hfz6_15
        try clear hfz6_2
        try clear hfz6_3
        try clear hfz6_4
        try clear hfz6_5
        try clear hfz6_6
        try clear hfz6_7
        try clear hfz6_8
        try clear hfz6_9
        try clear p2
        obtain ⟨kq, x12_2, rfl, HA, HJ2, BK427, HB⟩ := hcut
        cases kq with
        | zero => exact absurd HA.out (by simp [fleuronlaw9_few.j1])
        | succ kj2 =>
          have H := HA.out
          clear HA
          simp only [fleuronlaw9_few.j1] at H
          by_cases c7 : x12_2 = true
          · subst c7
            have H1 : (if 0 ≤ x3_1 then (if x3_1 < (l0_3.length : Int) then (if ((rdOf ByteArray.empty l0_3 x3_1).size : Int) > 120 then (some false) else (fleuronlaw9_few.l0 kj2 (wrap64 (x3_1 + 1)) a0_0 a0_1 a0_2 l0_3 l0_4 a0_5 a0_6 a0_7 a0_8 a0_9 l0_10 a0_11 a0_12 a0_13 a0_14 a0_15)) else (none)) else (none)) = some r := by rw [if_pos rfl] at H; exact H
            clear H
            have H := H1
            clear H1
            by_cases c8 : 0 ≤ x3_1
            · rw [if_pos c8] at H
              have c8b0 : decide (0 ≤ x3_1) = true := decide_eq_true c8
              clear c8
              by_cases c9 : x3_1 < (l0_3.length : Int)
              · rw [if_pos c9] at H
                have c9b0 : decide (x3_1 < (l0_3.length : Int)) = true := decide_eq_true c9
                clear c9
                by_cases c10 : ((rdOf ByteArray.empty l0_3 x3_1).size : Int) > 120
                · rw [if_pos c10] at H
                  have c10b0 : decide (120 < ((rdOf ByteArray.empty l0_3 x3_1).size : Int)) = true := decide_eq_true c10
                  have c10b1 : decide (120 < (rdOf ByteArray.empty l0_3 x3_1).size) = true := decide_eq_true (by omega)
                  clear c10
                  obtain rfl := Option.some.inj H
                  have hcz11_0 : wc.cell? ⟨gb427, 0, none⟩ = some (.string a0_0) := (blk_cell BK427.out 0).trans rfl
                  have hcz11_1 : wc.cell? ⟨gb427, 1, none⟩ = some (.string a0_1) := (blk_cell BK427.out 1).trans rfl
                  have hcz11_2 : wc.cell? ⟨gb427, 2, none⟩ = some (.int .i64 a0_2) := (blk_cell BK427.out 2).trans rfl
                  have hcz11_3 : wc.cell? ⟨gb427, 3, none⟩ = some (.slice A0_3 l0_3.length c0_3) := (blk_cell BK427.out 3).trans rfl
                  have hcz11_4 : wc.cell? ⟨gb427, 4, none⟩ = some (.slice A0_4 l0_4.length c0_4) := (blk_cell BK427.out 4).trans rfl
                  have hcz11_5 : wc.cell? ⟨gb427, 5, none⟩ = some (.string a0_5) := (blk_cell BK427.out 5).trans rfl
                  have hcz11_6 : wc.cell? ⟨gb427, 6, none⟩ = some (.string a0_6) := (blk_cell BK427.out 6).trans rfl
                  have hcz11_7 : wc.cell? ⟨gb427, 7, none⟩ = some (.string a0_7) := (blk_cell BK427.out 7).trans rfl
                  have hcz11_8 : wc.cell? ⟨gb427, 8, none⟩ = some (.string a0_8) := (blk_cell BK427.out 8).trans rfl
                  have hcz11_9 : wc.cell? ⟨gb427, 9, none⟩ = some (.bool a0_9) := (blk_cell BK427.out 9).trans rfl
                  have hcz11_10 : wc.cell? ⟨gb427, 10, none⟩ = some (.slice A0_10 l0_10.length c0_10) := (blk_cell BK427.out 10).trans rfl
                  have hcz11_11 : wc.cell? ⟨gb427, 11, none⟩ = some (.int .i64 a0_11) := (blk_cell BK427.out 11).trans rfl
                  have hcz11_12 : wc.cell? ⟨gb427, 12, none⟩ = some (.string a0_12) := (blk_cell BK427.out 12).trans rfl
                  have hcz11_13 : wc.cell? ⟨gb427, 13, none⟩ = some (.string a0_13) := (blk_cell BK427.out 13).trans rfl
                  have hcz11_14 : wc.cell? ⟨gb427, 14, none⟩ = some (.string a0_14) := (blk_cell BK427.out 14).trans rfl
                  have hcz11_15 : wc.cell? ⟨gb427, 15, none⟩ = some (.int .i64 a0_15) := (blk_cell BK427.out 15).trans rfl
                  have hfz11_0 := blk_frozen BK427.out 0
                  have hfz11_1 := blk_frozen BK427.out 1
                  have hfz11_2 := blk_frozen BK427.out 2
                  have hfz11_3 := blk_frozen BK427.out 3
                  have hfz11_4 := blk_frozen BK427.out 4
                  have hfz11_5 := blk_frozen BK427.out 5
                  have hfz11_6 := blk_frozen BK427.out 6
                  have hfz11_7 := blk_frozen BK427.out 7
                  have hfz11_8 := blk_frozen BK427.out 8
                  have hfz11_9 := blk_frozen BK427.out 9
                  have hfz11_10 := blk_frozen BK427.out 10
                  have hfz11_11 := blk_frozen BK427.out 11
                  have hfz11_12 := blk_frozen BK427.out 12
                  have hfz11_13 := blk_frozen BK427.out 13
                  have hfz11_14 := blk_frozen BK427.out 14
                  have hfz11_15 := blk_frozen BK427.out 15
                  have p428 : 0 ≤ (x3_1 : Int) := of_decide_eq_true (by first | (with_reducible assumption) | assumption)
                  have q428 : x3_1 < (l0_3.length : Int) := of_decide_eq_true (by first | (with_reducible assumption) | assumption)
                  obtain ⟨ad428, e428, hx428_0⟩ := Kd.at_string HR0_3.out x3_1 p428 q428
                  cases e428
                  replace hx428_0 := (HB.out.cell (World.block_lt_of_cell? w _ hx428_0)).trans hx428_0
                  replace p428 := eq_true p428
                  replace q428 := eq_true q428
                  go_wp2
                  go_ret
                  exact ⟨by first | rfl | (simp [errW_none, errW_some] <;> rfl) | (simp [*, errW_none, errW_some] <;> rfl), by repeat (first | (with_reducible first | exact HB.out | apply below_alloc | apply pw_below_drewN | apply below_drew1 | refine below_set ?_ GE427.out) | exact HB.out)⟩
                · rw [if_neg c10] at H
                  have c10b0 : decide (120 < ((rdOf ByteArray.empty l0_3 x3_1).size : Int)) = false := decide_eq_false c10
                  have c10b1 : decide (120 < (rdOf ByteArray.empty l0_3 x3_1).size) = false := decide_eq_false (by omega)
                  clear c10
                  have H' := Aside0.mk H
                  clear H
                  have hcz12_0 : wc.cell? ⟨gb427, 0, none⟩ = some (.string a0_0) := (blk_cell BK427.out 0).trans rfl
                  have hcz12_1 : wc.cell? ⟨gb427, 1, none⟩ = some (.string a0_1) := (blk_cell BK427.out 1).trans rfl
                  have hcz12_2 : wc.cell? ⟨gb427, 2, none⟩ = some (.int .i64 a0_2) := (blk_cell BK427.out 2).trans rfl
                  have hcz12_3 : wc.cell? ⟨gb427, 3, none⟩ = some (.slice A0_3 l0_3.length c0_3) := (blk_cell BK427.out 3).trans rfl
                  have hcz12_4 : wc.cell? ⟨gb427, 4, none⟩ = some (.slice A0_4 l0_4.length c0_4) := (blk_cell BK427.out 4).trans rfl
                  have hcz12_5 : wc.cell? ⟨gb427, 5, none⟩ = some (.string a0_5) := (blk_cell BK427.out 5).trans rfl
                  have hcz12_6 : wc.cell? ⟨gb427, 6, none⟩ = some (.string a0_6) := (blk_cell BK427.out 6).trans rfl
                  have hcz12_7 : wc.cell? ⟨gb427, 7, none⟩ = some (.string a0_7) := (blk_cell BK427.out 7).trans rfl
                  have hcz12_8 : wc.cell? ⟨gb427, 8, none⟩ = some (.string a0_8) := (blk_cell BK427.out 8).trans rfl
                  have hcz12_9 : wc.cell? ⟨gb427, 9, none⟩ = some (.bool a0_9) := (blk_cell BK427.out 9).trans rfl
                  have hcz12_10 : wc.cell? ⟨gb427, 10, none⟩ = some (.slice A0_10 l0_10.length c0_10) := (blk_cell BK427.out 10).trans rfl
                  have hcz12_11 : wc.cell? ⟨gb427, 11, none⟩ = some (.int .i64 a0_11) := (blk_cell BK427.out 11).trans rfl
                  have hcz12_12 : wc.cell? ⟨gb427, 12, none⟩ = some (.string a0_12) := (blk_cell BK427.out 12).trans rfl
                  have hcz12_13 : wc.cell? ⟨gb427, 13, none⟩ = some (.string a0_13) := (blk_cell BK427.out 13).trans rfl
                  have hcz12_14 : wc.cell? ⟨gb427, 14, none⟩ = some (.string a0_14) := (blk_cell BK427.out 14).trans rfl
                  have hcz12_15 : wc.cell? ⟨gb427, 15, none⟩ = some (.int .i64 a0_15) := (blk_cell BK427.out 15).trans rfl
                  have hfz12_0 := blk_frozen BK427.out 0
                  have hfz12_1 := blk_frozen BK427.out 1
                  have hfz12_2 := blk_frozen BK427.out 2
                  have hfz12_3 := blk_frozen BK427.out 3
                  have hfz12_4 := blk_frozen BK427.out 4
                  have hfz12_5 := blk_frozen BK427.out 5
                  have hfz12_6 := blk_frozen BK427.out 6
                  have hfz12_7 := blk_frozen BK427.out 7
                  have hfz12_8 := blk_frozen BK427.out 8
                  have hfz12_9 := blk_frozen BK427.out 9
                  have hfz12_10 := blk_frozen BK427.out 10
                  have hfz12_11 := blk_frozen BK427.out 11
                  have hfz12_12 := blk_frozen BK427.out 12
                  have hfz12_13 := blk_frozen BK427.out 13
                  have hfz12_14 := blk_frozen BK427.out 14
                  have hfz12_15 := blk_frozen BK427.out 15
                  have p428 : 0 ≤ (x3_1 : Int) := of_decide_eq_true (by first | (with_reducible assumption) | assumption)
                  have q428 : x3_1 < (l0_3.length : Int) := of_decide_eq_true (by first | (with_reducible assumption) | assumption)
                  obtain ⟨ad428, e428, hx428_0⟩ := Kd.at_string HR0_3.out x3_1 p428 q428
                  cases e428
                  replace hx428_0 := (HB.out.cell (World.block_lt_of_cell? w _ hx428_0)).trans hx428_0
                  replace p428 := eq_true p428
                  replace q428 := eq_true q428
                  go_wp2
                  go_roundg kj2
                  case measure => have := HK1.out; have := HJ2.out; omega
                  case rel => exact ⟨(wrap64 (x3_1 + 1)), (by first | rfl | (simp; done) | (simp [*]; done)), H', ⟨by have := HK1.out; have := HJ2.out; omega⟩, ⟨by (with_reducible repeat (first | refine blk_drewN ?_ _ | refine blk_drew ?_ | refine blk_alloc ?_ _)); exact BK427.out⟩, ⟨by repeat (first | (with_reducible first | exact HB.out | apply below_alloc | apply pw_below_drewN | apply below_drew1 | refine below_set ?_ GE427.out) | exact HB.out)⟩⟩
              · rw [if_neg c9] at H
                exact absurd H (by simp)
            · rw [if_neg c8] at H
              exact absurd H (by simp)
          · replace c7 := Bool.eq_false_iff.mpr c7
            subst c7
            have H1 : (if (l0_3.length : Int) ≤ 70 then (if (l0_4.length : Int) ≤ 70 then (if (l0_10.length : Int) ≤ 20 then (if (a0_7.size : Int) ≤ 200 then (if (a0_8.size : Int) ≤ 200 then (if (a0_12.size : Int) ≤ 200 then (if (a0_5.size : Int) ≤ 200 then (some (decide ((a0_6.size : Int) ≤ 200))) else (some false)) else (some false)) else (some false)) else (some false)) else (some false)) else (some false)) else (some false)) = some r := by rw [if_neg (show ¬ (false = true) by decide)] at H; exact H
            clear H
            have H := H1
            clear H1
            by_cases c13 : (l0_3.length : Int) ≤ 70
            · rw [if_pos c13] at H
              have c13b0 : decide ((l0_3.length : Int) ≤ 70) = true := decide_eq_true c13
              have c13b1 : decide (l0_3.length ≤ 70) = true := decide_eq_true (by omega)
              clear c13
              by_cases c14 : (l0_4.length : Int) ≤ 70
              · rw [if_pos c14] at H
                have c14b0 : decide ((l0_4.length : Int) ≤ 70) = true := decide_eq_true c14
                have c14b1 : decide (l0_4.length ≤ 70) = true := decide_eq_true (by omega)
                clear c14
                by_cases c15 : (l0_10.length : Int) ≤ 20
                · rw [if_pos c15] at H
                  have c15b0 : decide ((l0_10.length : Int) ≤ 20) = true := decide_eq_true c15
                  have c15b1 : decide (l0_10.length ≤ 20) = true := decide_eq_true (by omega)
                  clear c15
                  by_cases c16 : (a0_7.size : Int) ≤ 200
                  · rw [if_pos c16] at H
                    have c16b0 : decide ((a0_7.size : Int) ≤ 200) = true := decide_eq_true c16
                    have c16b1 : decide (a0_7.size ≤ 200) = true := decide_eq_true (by omega)
                    clear c16
                    by_cases c17 : (a0_8.size : Int) ≤ 200
                    · rw [if_pos c17] at H
                      have c17b0 : decide ((a0_8.size : Int) ≤ 200) = true := decide_eq_true c17
                      have c17b1 : decide (a0_8.size ≤ 200) = true := decide_eq_true (by omega)
                      clear c17
                      by_cases c18 : (a0_12.size : Int) ≤ 200
                      · rw [if_pos c18] at H
                        have c18b0 : decide ((a0_12.size : Int) ≤ 200) = true := decide_eq_true c18
                        have c18b1 : decide (a0_12.size ≤ 200) = true := decide_eq_true (by omega)
                        clear c18
                        by_cases c19 : (a0_5.size : Int) ≤ 200
                        · rw [if_pos c19] at H
                          have c19b0 : decide ((a0_5.size : Int) ≤ 200) = true := decide_eq_true c19
                          have c19b1 : decide (a0_5.size ≤ 200) = true := decide_eq_true (by omega)
                          clear c19
                          obtain rfl := Option.some.inj H
                          have hcz20_0 : wc.cell? ⟨gb427, 0, none⟩ = some (.string a0_0) := (blk_cell BK427.out 0).trans rfl
                          have hcz20_1 : wc.cell? ⟨gb427, 1, none⟩ = some (.string a0_1) := (blk_cell BK427.out 1).trans rfl
                          have hcz20_2 : wc.cell? ⟨gb427, 2, none⟩ = some (.int .i64 a0_2) := (blk_cell BK427.out 2).trans rfl
                          have hcz20_3 : wc.cell? ⟨gb427, 3, none⟩ = some (.slice A0_3 l0_3.length c0_3) := (blk_cell BK427.out 3).trans rfl
                          have hcz20_4 : wc.cell? ⟨gb427, 4, none⟩ = some (.slice A0_4 l0_4.length c0_4) := (blk_cell BK427.out 4).trans rfl
                          have hcz20_5 : wc.cell? ⟨gb427, 5, none⟩ = some (.string a0_5) := (blk_cell BK427.out 5).trans rfl
                          have hcz20_6 : wc.cell? ⟨gb427, 6, none⟩ = some (.string a0_6) := (blk_cell BK427.out 6).trans rfl
                          have hcz20_7 : wc.cell? ⟨gb427, 7, none⟩ = some (.string a0_7) := (blk_cell BK427.out 7).trans rfl
                          have hcz20_8 : wc.cell? ⟨gb427, 8, none⟩ = some (.string a0_8) := (blk_cell BK427.out 8).trans rfl
                          have hcz20_9 : wc.cell? ⟨gb427, 9, none⟩ = some (.bool a0_9) := (blk_cell BK427.out 9).trans rfl
                          have hcz20_10 : wc.cell? ⟨gb427, 10, none⟩ = some (.slice A0_10 l0_10.length c0_10) := (blk_cell BK427.out 10).trans rfl
                          have hcz20_11 : wc.cell? ⟨gb427, 11, none⟩ = some (.int .i64 a0_11) := (blk_cell BK427.out 11).trans rfl
                          have hcz20_12 : wc.cell? ⟨gb427, 12, none⟩ = some (.string a0_12) := (blk_cell BK427.out 12).trans rfl
                          have hcz20_13 : wc.cell? ⟨gb427, 13, none⟩ = some (.string a0_13) := (blk_cell BK427.out 13).trans rfl
                          have hcz20_14 : wc.cell? ⟨gb427, 14, none⟩ = some (.string a0_14) := (blk_cell BK427.out 14).trans rfl
                          have hcz20_15 : wc.cell? ⟨gb427, 15, none⟩ = some (.int .i64 a0_15) := (blk_cell BK427.out 15).trans rfl
                          have hfz20_0 := blk_frozen BK427.out 0
                          have hfz20_1 := blk_frozen BK427.out 1
                          have hfz20_2 := blk_frozen BK427.out 2
                          have hfz20_3 := blk_frozen BK427.out 3
                          have hfz20_4 := blk_frozen BK427.out 4
                          have hfz20_5 := blk_frozen BK427.out 5
                          have hfz20_6 := blk_frozen BK427.out 6
                          have hfz20_7 := blk_frozen BK427.out 7
                          have hfz20_8 := blk_frozen BK427.out 8
                          have hfz20_9 := blk_frozen BK427.out 9
                          have hfz20_10 := blk_frozen BK427.out 10
                          have hfz20_11 := blk_frozen BK427.out 11
                          have hfz20_12 := blk_frozen BK427.out 12
                          have hfz20_13 := blk_frozen BK427.out 13
                          have hfz20_14 := blk_frozen BK427.out 14
                          have hfz20_15 := blk_frozen BK427.out 15
                          go_wp2
                          go_ret
                          exact ⟨by first | rfl | (simp [errW_none, errW_some] <;> rfl) | (simp [*, errW_none, errW_some] <;> rfl), by repeat (first | (with_reducible first | exact HB.out | apply below_alloc | apply pw_below_drewN | apply below_drew1 | refine below_set ?_ GE427.out) | exact HB.out)⟩
                        · rw [if_neg c19] at H
                          have c19b0 : decide ((a0_5.size : Int) ≤ 200) = false := decide_eq_false c19
                          have c19b1 : decide (a0_5.size ≤ 200) = false := decide_eq_false (by omega)
                          clear c19
                          obtain rfl := Option.some.inj H
                          have hcz21_0 : wc.cell? ⟨gb427, 0, none⟩ = some (.string a0_0) := (blk_cell BK427.out 0).trans rfl
                          have hcz21_1 : wc.cell? ⟨gb427, 1, none⟩ = some (.string a0_1) := (blk_cell BK427.out 1).trans rfl
                          have hcz21_2 : wc.cell? ⟨gb427, 2, none⟩ = some (.int .i64 a0_2) := (blk_cell BK427.out 2).trans rfl
                          have hcz21_3 : wc.cell? ⟨gb427, 3, none⟩ = some (.slice A0_3 l0_3.length c0_3) := (blk_cell BK427.out 3).trans rfl
                          have hcz21_4 : wc.cell? ⟨gb427, 4, none⟩ = some (.slice A0_4 l0_4.length c0_4) := (blk_cell BK427.out 4).trans rfl
                          have hcz21_5 : wc.cell? ⟨gb427, 5, none⟩ = some (.string a0_5) := (blk_cell BK427.out 5).trans rfl
                          have hcz21_6 : wc.cell? ⟨gb427, 6, none⟩ = some (.string a0_6) := (blk_cell BK427.out 6).trans rfl
                          have hcz21_7 : wc.cell? ⟨gb427, 7, none⟩ = some (.string a0_7) := (blk_cell BK427.out 7).trans rfl
                          have hcz21_8 : wc.cell? ⟨gb427, 8, none⟩ = some (.string a0_8) := (blk_cell BK427.out 8).trans rfl
                          have hcz21_9 : wc.cell? ⟨gb427, 9, none⟩ = some (.bool a0_9) := (blk_cell BK427.out 9).trans rfl
                          have hcz21_10 : wc.cell? ⟨gb427, 10, none⟩ = some (.slice A0_10 l0_10.length c0_10) := (blk_cell BK427.out 10).trans rfl
                          have hcz21_11 : wc.cell? ⟨gb427, 11, none⟩ = some (.int .i64 a0_11) := (blk_cell BK427.out 11).trans rfl
                          have hcz21_12 : wc.cell? ⟨gb427, 12, none⟩ = some (.string a0_12) := (blk_cell BK427.out 12).trans rfl
                          have hcz21_13 : wc.cell? ⟨gb427, 13, none⟩ = some (.string a0_13) := (blk_cell BK427.out 13).trans rfl
                          have hcz21_14 : wc.cell? ⟨gb427, 14, none⟩ = some (.string a0_14) := (blk_cell BK427.out 14).trans rfl
                          have hcz21_15 : wc.cell? ⟨gb427, 15, none⟩ = some (.int .i64 a0_15) := (blk_cell BK427.out 15).trans rfl
                          have hfz21_0 := blk_frozen BK427.out 0
                          have hfz21_1 := blk_frozen BK427.out 1
                          have hfz21_2 := blk_frozen BK427.out 2
                          have hfz21_3 := blk_frozen BK427.out 3
                          have hfz21_4 := blk_frozen BK427.out 4
                          have hfz21_5 := blk_frozen BK427.out 5
                          have hfz21_6 := blk_frozen BK427.out 6
                          have hfz21_7 := blk_frozen BK427.out 7
                          have hfz21_8 := blk_frozen BK427.out 8
                          have hfz21_9 := blk_frozen BK427.out 9
                          have hfz21_10 := blk_frozen BK427.out 10
                          have hfz21_11 := blk_frozen BK427.out 11
                          have hfz21_12 := blk_frozen BK427.out 12
                          have hfz21_13 := blk_frozen BK427.out 13
                          have hfz21_14 := blk_frozen BK427.out 14
                          have hfz21_15 := blk_frozen BK427.out 15
                          go_wp2
                          go_ret
                          exact ⟨by first | rfl | (simp [errW_none, errW_some] <;> rfl) | (simp [*, errW_none, errW_some] <;> rfl), by repeat (first | (with_reducible first | exact HB.out | apply below_alloc | apply pw_below_drewN | apply below_drew1 | refine below_set ?_ GE427.out) | exact HB.out)⟩
                      · rw [if_neg c18] at H
                        have c18b0 : decide ((a0_12.size : Int) ≤ 200) = false := decide_eq_false c18
                        have c18b1 : decide (a0_12.size ≤ 200) = false := decide_eq_false (by omega)
                        clear c18
                        obtain rfl := Option.some.inj H
                        have hcz22_0 : wc.cell? ⟨gb427, 0, none⟩ = some (.string a0_0) := (blk_cell BK427.out 0).trans rfl
                        have hcz22_1 : wc.cell? ⟨gb427, 1, none⟩ = some (.string a0_1) := (blk_cell BK427.out 1).trans rfl
                        have hcz22_2 : wc.cell? ⟨gb427, 2, none⟩ = some (.int .i64 a0_2) := (blk_cell BK427.out 2).trans rfl
                        have hcz22_3 : wc.cell? ⟨gb427, 3, none⟩ = some (.slice A0_3 l0_3.length c0_3) := (blk_cell BK427.out 3).trans rfl
                        have hcz22_4 : wc.cell? ⟨gb427, 4, none⟩ = some (.slice A0_4 l0_4.length c0_4) := (blk_cell BK427.out 4).trans rfl
                        have hcz22_5 : wc.cell? ⟨gb427, 5, none⟩ = some (.string a0_5) := (blk_cell BK427.out 5).trans rfl
                        have hcz22_6 : wc.cell? ⟨gb427, 6, none⟩ = some (.string a0_6) := (blk_cell BK427.out 6).trans rfl
                        have hcz22_7 : wc.cell? ⟨gb427, 7, none⟩ = some (.string a0_7) := (blk_cell BK427.out 7).trans rfl
                        have hcz22_8 : wc.cell? ⟨gb427, 8, none⟩ = some (.string a0_8) := (blk_cell BK427.out 8).trans rfl
                        have hcz22_9 : wc.cell? ⟨gb427, 9, none⟩ = some (.bool a0_9) := (blk_cell BK427.out 9).trans rfl
                        have hcz22_10 : wc.cell? ⟨gb427, 10, none⟩ = some (.slice A0_10 l0_10.length c0_10) := (blk_cell BK427.out 10).trans rfl
                        have hcz22_11 : wc.cell? ⟨gb427, 11, none⟩ = some (.int .i64 a0_11) := (blk_cell BK427.out 11).trans rfl
                        have hcz22_12 : wc.cell? ⟨gb427, 12, none⟩ = some (.string a0_12) := (blk_cell BK427.out 12).trans rfl
                        have hcz22_13 : wc.cell? ⟨gb427, 13, none⟩ = some (.string a0_13) := (blk_cell BK427.out 13).trans rfl
                        have hcz22_14 : wc.cell? ⟨gb427, 14, none⟩ = some (.string a0_14) := (blk_cell BK427.out 14).trans rfl
                        have hcz22_15 : wc.cell? ⟨gb427, 15, none⟩ = some (.int .i64 a0_15) := (blk_cell BK427.out 15).trans rfl
                        have hfz22_0 := blk_frozen BK427.out 0
                        have hfz22_1 := blk_frozen BK427.out 1
                        have hfz22_2 := blk_frozen BK427.out 2
                        have hfz22_3 := blk_frozen BK427.out 3
                        have hfz22_4 := blk_frozen BK427.out 4
                        have hfz22_5 := blk_frozen BK427.out 5
                        have hfz22_6 := blk_frozen BK427.out 6
                        have hfz22_7 := blk_frozen BK427.out 7
                        have hfz22_8 := blk_frozen BK427.out 8
                        have hfz22_9 := blk_frozen BK427.out 9
                        have hfz22_10 := blk_frozen BK427.out 10
                        have hfz22_11 := blk_frozen BK427.out 11
                        have hfz22_12 := blk_frozen BK427.out 12
                        have hfz22_13 := blk_frozen BK427.out 13
                        have hfz22_14 := blk_frozen BK427.out 14
                        have hfz22_15 := blk_frozen BK427.out 15
                        go_wp2
                        go_ret
                        exact ⟨by first | rfl | (simp [errW_none, errW_some] <;> rfl) | (simp [*, errW_none, errW_some] <;> rfl), by repeat (first | (with_reducible first | exact HB.out | apply below_alloc | apply pw_below_drewN | apply below_drew1 | refine below_set ?_ GE427.out) | exact HB.out)⟩
                    · rw [if_neg c17] at H
                      have c17b0 : decide ((a0_8.size : Int) ≤ 200) = false := decide_eq_false c17
                      have c17b1 : decide (a0_8.size ≤ 200) = false := decide_eq_false (by omega)
                      clear c17
                      obtain rfl := Option.some.inj H
                      have hcz23_0 : wc.cell? ⟨gb427, 0, none⟩ = some (.string a0_0) := (blk_cell BK427.out 0).trans rfl
                      have hcz23_1 : wc.cell? ⟨gb427, 1, none⟩ = some (.string a0_1) := (blk_cell BK427.out 1).trans rfl
                      have hcz23_2 : wc.cell? ⟨gb427, 2, none⟩ = some (.int .i64 a0_2) := (blk_cell BK427.out 2).trans rfl
                      have hcz23_3 : wc.cell? ⟨gb427, 3, none⟩ = some (.slice A0_3 l0_3.length c0_3) := (blk_cell BK427.out 3).trans rfl
                      have hcz23_4 : wc.cell? ⟨gb427, 4, none⟩ = some (.slice A0_4 l0_4.length c0_4) := (blk_cell BK427.out 4).trans rfl
                      have hcz23_5 : wc.cell? ⟨gb427, 5, none⟩ = some (.string a0_5) := (blk_cell BK427.out 5).trans rfl
                      have hcz23_6 : wc.cell? ⟨gb427, 6, none⟩ = some (.string a0_6) := (blk_cell BK427.out 6).trans rfl
                      have hcz23_7 : wc.cell? ⟨gb427, 7, none⟩ = some (.string a0_7) := (blk_cell BK427.out 7).trans rfl
                      have hcz23_8 : wc.cell? ⟨gb427, 8, none⟩ = some (.string a0_8) := (blk_cell BK427.out 8).trans rfl
                      have hcz23_9 : wc.cell? ⟨gb427, 9, none⟩ = some (.bool a0_9) := (blk_cell BK427.out 9).trans rfl
                      have hcz23_10 : wc.cell? ⟨gb427, 10, none⟩ = some (.slice A0_10 l0_10.length c0_10) := (blk_cell BK427.out 10).trans rfl
                      have hcz23_11 : wc.cell? ⟨gb427, 11, none⟩ = some (.int .i64 a0_11) := (blk_cell BK427.out 11).trans rfl
                      have hcz23_12 : wc.cell? ⟨gb427, 12, none⟩ = some (.string a0_12) := (blk_cell BK427.out 12).trans rfl
                      have hcz23_13 : wc.cell? ⟨gb427, 13, none⟩ = some (.string a0_13) := (blk_cell BK427.out 13).trans rfl
                      have hcz23_14 : wc.cell? ⟨gb427, 14, none⟩ = some (.string a0_14) := (blk_cell BK427.out 14).trans rfl
                      have hcz23_15 : wc.cell? ⟨gb427, 15, none⟩ = some (.int .i64 a0_15) := (blk_cell BK427.out 15).trans rfl
                      have hfz23_0 := blk_frozen BK427.out 0
                      have hfz23_1 := blk_frozen BK427.out 1
                      have hfz23_2 := blk_frozen BK427.out 2
                      have hfz23_3 := blk_frozen BK427.out 3
                      have hfz23_4 := blk_frozen BK427.out 4
                      have hfz23_5 := blk_frozen BK427.out 5
                      have hfz23_6 := blk_frozen BK427.out 6
                      have hfz23_7 := blk_frozen BK427.out 7
                      have hfz23_8 := blk_frozen BK427.out 8
                      have hfz23_9 := blk_frozen BK427.out 9
                      have hfz23_10 := blk_frozen BK427.out 10
                      have hfz23_11 := blk_frozen BK427.out 11
                      have hfz23_12 := blk_frozen BK427.out 12
                      have hfz23_13 := blk_frozen BK427.out 13
                      have hfz23_14 := blk_frozen BK427.out 14
                      have hfz23_15 := blk_frozen BK427.out 15
                      go_wp2
                      go_ret
                      exact ⟨by first | rfl | (simp [errW_none, errW_some] <;> rfl) | (simp [*, errW_none, errW_some] <;> rfl), by repeat (first | (with_reducible first | exact HB.out | apply below_alloc | apply pw_below_drewN | apply below_drew1 | refine below_set ?_ GE427.out) | exact HB.out)⟩
                  · rw [if_neg c16] at H
                    have c16b0 : decide ((a0_7.size : Int) ≤ 200) = false := decide_eq_false c16
                    have c16b1 : decide (a0_7.size ≤ 200) = false := decide_eq_false (by omega)
                    clear c16
                    obtain rfl := Option.some.inj H
                    have hcz24_0 : wc.cell? ⟨gb427, 0, none⟩ = some (.string a0_0) := (blk_cell BK427.out 0).trans rfl
                    have hcz24_1 : wc.cell? ⟨gb427, 1, none⟩ = some (.string a0_1) := (blk_cell BK427.out 1).trans rfl
                    have hcz24_2 : wc.cell? ⟨gb427, 2, none⟩ = some (.int .i64 a0_2) := (blk_cell BK427.out 2).trans rfl
                    have hcz24_3 : wc.cell? ⟨gb427, 3, none⟩ = some (.slice A0_3 l0_3.length c0_3) := (blk_cell BK427.out 3).trans rfl
                    have hcz24_4 : wc.cell? ⟨gb427, 4, none⟩ = some (.slice A0_4 l0_4.length c0_4) := (blk_cell BK427.out 4).trans rfl
                    have hcz24_5 : wc.cell? ⟨gb427, 5, none⟩ = some (.string a0_5) := (blk_cell BK427.out 5).trans rfl
                    have hcz24_6 : wc.cell? ⟨gb427, 6, none⟩ = some (.string a0_6) := (blk_cell BK427.out 6).trans rfl
                    have hcz24_7 : wc.cell? ⟨gb427, 7, none⟩ = some (.string a0_7) := (blk_cell BK427.out 7).trans rfl
                    have hcz24_8 : wc.cell? ⟨gb427, 8, none⟩ = some (.string a0_8) := (blk_cell BK427.out 8).trans rfl
                    have hcz24_9 : wc.cell? ⟨gb427, 9, none⟩ = some (.bool a0_9) := (blk_cell BK427.out 9).trans rfl
                    have hcz24_10 : wc.cell? ⟨gb427, 10, none⟩ = some (.slice A0_10 l0_10.length c0_10) := (blk_cell BK427.out 10).trans rfl
                    have hcz24_11 : wc.cell? ⟨gb427, 11, none⟩ = some (.int .i64 a0_11) := (blk_cell BK427.out 11).trans rfl
                    have hcz24_12 : wc.cell? ⟨gb427, 12, none⟩ = some (.string a0_12) := (blk_cell BK427.out 12).trans rfl
                    have hcz24_13 : wc.cell? ⟨gb427, 13, none⟩ = some (.string a0_13) := (blk_cell BK427.out 13).trans rfl
                    have hcz24_14 : wc.cell? ⟨gb427, 14, none⟩ = some (.string a0_14) := (blk_cell BK427.out 14).trans rfl
                    have hcz24_15 : wc.cell? ⟨gb427, 15, none⟩ = some (.int .i64 a0_15) := (blk_cell BK427.out 15).trans rfl
                    have hfz24_0 := blk_frozen BK427.out 0
                    have hfz24_1 := blk_frozen BK427.out 1
                    have hfz24_2 := blk_frozen BK427.out 2
                    have hfz24_3 := blk_frozen BK427.out 3
                    have hfz24_4 := blk_frozen BK427.out 4
                    have hfz24_5 := blk_frozen BK427.out 5
                    have hfz24_6 := blk_frozen BK427.out 6
                    have hfz24_7 := blk_frozen BK427.out 7
                    have hfz24_8 := blk_frozen BK427.out 8
                    have hfz24_9 := blk_frozen BK427.out 9
                    have hfz24_10 := blk_frozen BK427.out 10
                    have hfz24_11 := blk_frozen BK427.out 11
                    have hfz24_12 := blk_frozen BK427.out 12
                    have hfz24_13 := blk_frozen BK427.out 13
                    have hfz24_14 := blk_frozen BK427.out 14
                    have hfz24_15 := blk_frozen BK427.out 15
                    go_wp2
                    go_ret
                    exact ⟨by first | rfl | (simp [errW_none, errW_some] <;> rfl) | (simp [*, errW_none, errW_some] <;> rfl), by repeat (first | (with_reducible first | exact HB.out | apply below_alloc | apply pw_below_drewN | apply below_drew1 | refine below_set ?_ GE427.out) | exact HB.out)⟩
                · rw [if_neg c15] at H
                  have c15b0 : decide ((l0_10.length : Int) ≤ 20) = false := decide_eq_false c15
                  have c15b1 : decide (l0_10.length ≤ 20) = false := decide_eq_false (by omega)
                  clear c15
                  obtain rfl := Option.some.inj H
                  have hcz25_0 : wc.cell? ⟨gb427, 0, none⟩ = some (.string a0_0) := (blk_cell BK427.out 0).trans rfl
                  have hcz25_1 : wc.cell? ⟨gb427, 1, none⟩ = some (.string a0_1) := (blk_cell BK427.out 1).trans rfl
                  have hcz25_2 : wc.cell? ⟨gb427, 2, none⟩ = some (.int .i64 a0_2) := (blk_cell BK427.out 2).trans rfl
                  have hcz25_3 : wc.cell? ⟨gb427, 3, none⟩ = some (.slice A0_3 l0_3.length c0_3) := (blk_cell BK427.out 3).trans rfl
                  have hcz25_4 : wc.cell? ⟨gb427, 4, none⟩ = some (.slice A0_4 l0_4.length c0_4) := (blk_cell BK427.out 4).trans rfl
                  have hcz25_5 : wc.cell? ⟨gb427, 5, none⟩ = some (.string a0_5) := (blk_cell BK427.out 5).trans rfl
                  have hcz25_6 : wc.cell? ⟨gb427, 6, none⟩ = some (.string a0_6) := (blk_cell BK427.out 6).trans rfl
                  have hcz25_7 : wc.cell? ⟨gb427, 7, none⟩ = some (.string a0_7) := (blk_cell BK427.out 7).trans rfl
                  have hcz25_8 : wc.cell? ⟨gb427, 8, none⟩ = some (.string a0_8) := (blk_cell BK427.out 8).trans rfl
                  have hcz25_9 : wc.cell? ⟨gb427, 9, none⟩ = some (.bool a0_9) := (blk_cell BK427.out 9).trans rfl
                  have hcz25_10 : wc.cell? ⟨gb427, 10, none⟩ = some (.slice A0_10 l0_10.length c0_10) := (blk_cell BK427.out 10).trans rfl
                  have hcz25_11 : wc.cell? ⟨gb427, 11, none⟩ = some (.int .i64 a0_11) := (blk_cell BK427.out 11).trans rfl
                  have hcz25_12 : wc.cell? ⟨gb427, 12, none⟩ = some (.string a0_12) := (blk_cell BK427.out 12).trans rfl
                  have hcz25_13 : wc.cell? ⟨gb427, 13, none⟩ = some (.string a0_13) := (blk_cell BK427.out 13).trans rfl
                  have hcz25_14 : wc.cell? ⟨gb427, 14, none⟩ = some (.string a0_14) := (blk_cell BK427.out 14).trans rfl
                  have hcz25_15 : wc.cell? ⟨gb427, 15, none⟩ = some (.int .i64 a0_15) := (blk_cell BK427.out 15).trans rfl
                  have hfz25_0 := blk_frozen BK427.out 0
                  have hfz25_1 := blk_frozen BK427.out 1
                  have hfz25_2 := blk_frozen BK427.out 2
                  have hfz25_3 := blk_frozen BK427.out 3
                  have hfz25_4 := blk_frozen BK427.out 4
                  have hfz25_5 := blk_frozen BK427.out 5
                  have hfz25_6 := blk_frozen BK427.out 6
                  have hfz25_7 := blk_frozen BK427.out 7
                  have hfz25_8 := blk_frozen BK427.out 8
                  have hfz25_9 := blk_frozen BK427.out 9
                  have hfz25_10 := blk_frozen BK427.out 10
                  have hfz25_11 := blk_frozen BK427.out 11
                  have hfz25_12 := blk_frozen BK427.out 12
                  have hfz25_13 := blk_frozen BK427.out 13
                  have hfz25_14 := blk_frozen BK427.out 14
                  have hfz25_15 := blk_frozen BK427.out 15
                  go_wp2
                  go_ret
                  exact ⟨by first | rfl | (simp [errW_none, errW_some] <;> rfl) | (simp [*, errW_none, errW_some] <;> rfl), by repeat (first | (with_reducible first | exact HB.out | apply below_alloc | apply pw_below_drewN | apply below_drew1 | refine below_set ?_ GE427.out) | exact HB.out)⟩
              · rw [if_neg c14] at H
                have c14b0 : decide ((l0_4.length : Int) ≤ 70) = false := decide_eq_false c14
                have c14b1 : decide (l0_4.length ≤ 70) = false := decide_eq_false (by omega)
                clear c14
                obtain rfl := Option.some.inj H
                have hcz26_0 : wc.cell? ⟨gb427, 0, none⟩ = some (.string a0_0) := (blk_cell BK427.out 0).trans rfl
                have hcz26_1 : wc.cell? ⟨gb427, 1, none⟩ = some (.string a0_1) := (blk_cell BK427.out 1).trans rfl
                have hcz26_2 : wc.cell? ⟨gb427, 2, none⟩ = some (.int .i64 a0_2) := (blk_cell BK427.out 2).trans rfl
                have hcz26_3 : wc.cell? ⟨gb427, 3, none⟩ = some (.slice A0_3 l0_3.length c0_3) := (blk_cell BK427.out 3).trans rfl
                have hcz26_4 : wc.cell? ⟨gb427, 4, none⟩ = some (.slice A0_4 l0_4.length c0_4) := (blk_cell BK427.out 4).trans rfl
                have hcz26_5 : wc.cell? ⟨gb427, 5, none⟩ = some (.string a0_5) := (blk_cell BK427.out 5).trans rfl
                have hcz26_6 : wc.cell? ⟨gb427, 6, none⟩ = some (.string a0_6) := (blk_cell BK427.out 6).trans rfl
                have hcz26_7 : wc.cell? ⟨gb427, 7, none⟩ = some (.string a0_7) := (blk_cell BK427.out 7).trans rfl
                have hcz26_8 : wc.cell? ⟨gb427, 8, none⟩ = some (.string a0_8) := (blk_cell BK427.out 8).trans rfl
                have hcz26_9 : wc.cell? ⟨gb427, 9, none⟩ = some (.bool a0_9) := (blk_cell BK427.out 9).trans rfl
                have hcz26_10 : wc.cell? ⟨gb427, 10, none⟩ = some (.slice A0_10 l0_10.length c0_10) := (blk_cell BK427.out 10).trans rfl
                have hcz26_11 : wc.cell? ⟨gb427, 11, none⟩ = some (.int .i64 a0_11) := (blk_cell BK427.out 11).trans rfl
                have hcz26_12 : wc.cell? ⟨gb427, 12, none⟩ = some (.string a0_12) := (blk_cell BK427.out 12).trans rfl
                have hcz26_13 : wc.cell? ⟨gb427, 13, none⟩ = some (.string a0_13) := (blk_cell BK427.out 13).trans rfl
                have hcz26_14 : wc.cell? ⟨gb427, 14, none⟩ = some (.string a0_14) := (blk_cell BK427.out 14).trans rfl
                have hcz26_15 : wc.cell? ⟨gb427, 15, none⟩ = some (.int .i64 a0_15) := (blk_cell BK427.out 15).trans rfl
                have hfz26_0 := blk_frozen BK427.out 0
                have hfz26_1 := blk_frozen BK427.out 1
                have hfz26_2 := blk_frozen BK427.out 2
                have hfz26_3 := blk_frozen BK427.out 3
                have hfz26_4 := blk_frozen BK427.out 4
                have hfz26_5 := blk_frozen BK427.out 5
                have hfz26_6 := blk_frozen BK427.out 6
                have hfz26_7 := blk_frozen BK427.out 7
                have hfz26_8 := blk_frozen BK427.out 8
                have hfz26_9 := blk_frozen BK427.out 9
                have hfz26_10 := blk_frozen BK427.out 10
                have hfz26_11 := blk_frozen BK427.out 11
                have hfz26_12 := blk_frozen BK427.out 12
                have hfz26_13 := blk_frozen BK427.out 13
                have hfz26_14 := blk_frozen BK427.out 14
                have hfz26_15 := blk_frozen BK427.out 15
                go_wp2
                go_ret
                exact ⟨by first | rfl | (simp [errW_none, errW_some] <;> rfl) | (simp [*, errW_none, errW_some] <;> rfl), by repeat (first | (with_reducible first | exact HB.out | apply below_alloc | apply pw_below_drewN | apply below_drew1 | refine below_set ?_ GE427.out) | exact HB.out)⟩
            · rw [if_neg c13] at H
              have c13b0 : decide ((l0_3.length : Int) ≤ 70) = false := decide_eq_false c13
              have c13b1 : decide (l0_3.length ≤ 70) = false := decide_eq_false (by omega)
              clear c13
              obtain rfl := Option.some.inj H
              have hcz27_0 : wc.cell? ⟨gb427, 0, none⟩ = some (.string a0_0) := (blk_cell BK427.out 0).trans rfl
              have hcz27_1 : wc.cell? ⟨gb427, 1, none⟩ = some (.string a0_1) := (blk_cell BK427.out 1).trans rfl
              have hcz27_2 : wc.cell? ⟨gb427, 2, none⟩ = some (.int .i64 a0_2) := (blk_cell BK427.out 2).trans rfl
              have hcz27_3 : wc.cell? ⟨gb427, 3, none⟩ = some (.slice A0_3 l0_3.length c0_3) := (blk_cell BK427.out 3).trans rfl
              have hcz27_4 : wc.cell? ⟨gb427, 4, none⟩ = some (.slice A0_4 l0_4.length c0_4) := (blk_cell BK427.out 4).trans rfl
              have hcz27_5 : wc.cell? ⟨gb427, 5, none⟩ = some (.string a0_5) := (blk_cell BK427.out 5).trans rfl
              have hcz27_6 : wc.cell? ⟨gb427, 6, none⟩ = some (.string a0_6) := (blk_cell BK427.out 6).trans rfl
              have hcz27_7 : wc.cell? ⟨gb427, 7, none⟩ = some (.string a0_7) := (blk_cell BK427.out 7).trans rfl
              have hcz27_8 : wc.cell? ⟨gb427, 8, none⟩ = some (.string a0_8) := (blk_cell BK427.out 8).trans rfl
              have hcz27_9 : wc.cell? ⟨gb427, 9, none⟩ = some (.bool a0_9) := (blk_cell BK427.out 9).trans rfl
              have hcz27_10 : wc.cell? ⟨gb427, 10, none⟩ = some (.slice A0_10 l0_10.length c0_10) := (blk_cell BK427.out 10).trans rfl
              have hcz27_11 : wc.cell? ⟨gb427, 11, none⟩ = some (.int .i64 a0_11) := (blk_cell BK427.out 11).trans rfl
              have hcz27_12 : wc.cell? ⟨gb427, 12, none⟩ = some (.string a0_12) := (blk_cell BK427.out 12).trans rfl
              have hcz27_13 : wc.cell? ⟨gb427, 13, none⟩ = some (.string a0_13) := (blk_cell BK427.out 13).trans rfl
              have hcz27_14 : wc.cell? ⟨gb427, 14, none⟩ = some (.string a0_14) := (blk_cell BK427.out 14).trans rfl
              have hcz27_15 : wc.cell? ⟨gb427, 15, none⟩ = some (.int .i64 a0_15) := (blk_cell BK427.out 15).trans rfl
              have hfz27_0 := blk_frozen BK427.out 0
              have hfz27_1 := blk_frozen BK427.out 1
              have hfz27_2 := blk_frozen BK427.out 2
              have hfz27_3 := blk_frozen BK427.out 3
              have hfz27_4 := blk_frozen BK427.out 4
              have hfz27_5 := blk_frozen BK427.out 5
              have hfz27_6 := blk_frozen BK427.out 6
              have hfz27_7 := blk_frozen BK427.out 7
              have hfz27_8 := blk_frozen BK427.out 8
              have hfz27_9 := blk_frozen BK427.out 9
              have hfz27_10 := blk_frozen BK427.out 10
              have hfz27_11 := blk_frozen BK427.out 11
              have hfz27_12 := blk_frozen BK427.out 12
              have hfz27_13 := blk_frozen BK427.out 13
              have hfz27_14 := blk_frozen BK427.out 14
              have hfz27_15 := blk_frozen BK427.out 15
              go_wp2
              go_ret
              exact ⟨by first | rfl | (simp [errW_none, errW_some] <;> rfl) | (simp [*, errW_none, errW_some] <;> rfl), by repeat (first | (with_reducible first | exact HB.out | apply below_alloc | apply pw_below_drewN | apply below_drew1 | refine below_set ?_ GE427.out) | exact HB.out)⟩

end Go.Proofs.Ytalegejfellbdaa.Print
