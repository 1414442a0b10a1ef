/- SystemForms, by hand (mkforms.py). -/
import Derived.Test.YtalegejfellbdaaPrint0
import Derived.Test.YtalegejfellbdaaPrint5
import Derived.Test.YtalegejfellbdaaPrint11
import Derived.Test.YtalegejfellbdaaPrint15
import Derived.Test.YtalegejfellbdaaPrint20
import Derived.Test.YtalegejfellbdaaPrint23
import Derived.Lib.Hide
import Derived.Lib.OthersKept
import Derived.Lib.SliceRun
import Derived.Shelf.Abstract
import Derived.Shelf.RegionOpen
import Derived.OwnWalkIn
import Derived.TacticsInMore
import Derived.LoopNIn
import Derived.LoopIn
import Derived.Outline
import Derived.Lib.ConvBytes
import Derived.Deep.RegionLaw
import Derived.Deep.RegionWith
import Derived.Deep.RegionHeld3
import Derived.Deep.AppendLies
import Derived.Deep.DrawnRows
namespace Go.Proofs.Ytalegejfellbdaa.Print
open Go.RowKit Go.Proofs.YtalegejfellbdaaW.PrintWords Go.Proofs.YtalegejfellbdaaW.PrintLast Go.Proofs.YtalegejfellbdaaW.PrintMore
attribute [local go_sem] max2_int min2_int max_two min_two max_three min_three max_four min_four   -- for this text's walks alone
set_option linter.unusedVariables false
set_option linter.unusedSimpArgs false
open Go.Shelf in
set_option maxHeartbeats 20000000 in
set_option maxRecDepth 100000 in
theorem fm_d (k : Nat) (a0_0 : ByteArray) (a0_1 : ByteArray) (a0_2 : Int) (A0_3 : Option Addr) (c0_3 : Nat) (l0_3 : List ByteArray) (A0_4 : Option Addr) (c0_4 : Nat) (l0_4 : List Int) (a0_5 : ByteArray) (a0_6 : ByteArray) (a0_7 : ByteArray) (a0_8 : ByteArray) (a0_9 : Bool) (A0_10 : Option Addr) (c0_10 : Nat) (l0_10 : List (S41)) (a0_11 : Int) (a0_12 : ByteArray) (a0_13 : ByteArray) (a0_14 : ByteArray) (a0_15 : Int) (a1 : Int) (HF : Aside0 (fleuronlaw9_few.f k a0_0 a0_1 a0_2 l0_3 l0_4 a0_5 a0_6 a0_7 a0_8 a0_9 l0_10 a0_11 a0_12 a0_13 a0_14 a0_15 = some true)) (sg : ByteArray) (HS : Aside0 (system_Signs.f k a0_0 a0_1 a0_2 l0_3 l0_4 a0_5 a0_6 a0_7 a0_8 a0_9 l0_10 a0_11 a0_12 a0_13 a0_14 a0_15 a1 = some (sg, true))) (HM : Aside0 (system_May.f k a0_0 a0_1 a0_2 l0_3 l0_4 a0_5 a0_6 a0_7 a0_8 a0_9 l0_10 a0_11 a0_12 a0_13 a0_14 a0_15 = some true)) (Z : ByteArray) (hZ : strOfNums (List.replicate 101 0) = Z) (HME : Aside0 (system_May.f k a0_0 a0_1 a0_2 l0_3 l0_4 a0_5 a0_6 a0_7 a0_8 a0_9 l0_10 201 a0_12 a0_13 a0_14 a0_15 = some false)) (HMF : Aside0 (system_May.f k a0_0 a0_1 a0_2 l0_3 l0_4 a0_5 a0_6 Z a0_8 a0_9 l0_10 a0_11 a0_12 a0_13 a0_14 a0_15 = some false)) (d1 : decide (a1 < -2147483648) = false) (d2 : decide (2147483648 < a1) = false) (d3 : (a0_1.toList == ([101, 120, 116, 101, 110, 100, 115] : List UInt8)) = false) (w : World) (hr3 : Kd.C Kd.string w A0_3 l0_3.length l0_3) (hc3 : l0_3.length ≤ c0_3) (hr4 : Kd.C (Kd.int .i64) w A0_4 l0_4.length l0_4) (hc4 : l0_4.length ≤ c0_4) (hr10 : Kd.C k41 w A0_10 l0_10.length l0_10) (hc10 : l0_10.length ≤ c0_10) :
    Calls Try.prog 3 #[.agg #[.string a0_0, .string a0_1, .int .i64 a0_2, .slice A0_3 l0_3.length c0_3, .slice A0_4 l0_4.length c0_4, .string a0_5, .string a0_6, .string a0_7, .string a0_8, .bool a0_9, .slice A0_10 l0_10.length c0_10, .int .i64 a0_11, .string a0_12, .string a0_13, .string a0_14, .int .i64 a0_15], .int .i64 a1] w fun e w' => e = .returned (.bool true) ∧ Below w.heap.size w w' := by
  have hu27 := Try.underlying27
  have HC3 := Aside0.mk hc3
  have HC4 := Aside0.mk hc4
  have HC10 := Aside0.mk hc10
  have HR3 := Aside0.mk (Kd.C_alloc hr3 (.cells #[.string a0_0, .string a0_1, .int .i64 a0_2, .slice A0_3 l0_3.length c0_3, .slice A0_4 l0_4.length c0_4, .string a0_5, .string a0_6, .string a0_7, .string a0_8, .bool a0_9, .slice A0_10 l0_10.length c0_10, .int .i64 a0_11, .string a0_12, .string a0_13, .string a0_14, .int .i64 a0_15] 27))
  have HR4 := Aside0.mk (Kd.C_alloc hr4 (.cells #[.string a0_0, .string a0_1, .int .i64 a0_2, .slice A0_3 l0_3.length c0_3, .slice A0_4 l0_4.length c0_4, .string a0_5, .string a0_6, .string a0_7, .string a0_8, .bool a0_9, .slice A0_10 l0_10.length c0_10, .int .i64 a0_11, .string a0_12, .string a0_13, .string a0_14, .int .i64 a0_15] 27))
  have HR10 := Aside0.mk (Kd.C_alloc hr10 (.cells #[.string a0_0, .string a0_1, .int .i64 a0_2, .slice A0_3 l0_3.length c0_3, .slice A0_4 l0_4.length c0_4, .string a0_5, .string a0_6, .string a0_7, .string a0_8, .bool a0_9, .slice A0_10 l0_10.length c0_10, .int .i64 a0_11, .string a0_12, .string a0_13, .string a0_14, .int .i64 a0_15] 27))
  have HB := Aside0.mk (below_alloc (Below.refl w.heap.size w) (.cells #[.string a0_0, .string a0_1, .int .i64 a0_2, .slice A0_3 l0_3.length c0_3, .slice A0_4 l0_4.length c0_4, .string a0_5, .string a0_6, .string a0_7, .string a0_8, .bool a0_9, .slice A0_10 l0_10.length c0_10, .int .i64 a0_11, .string a0_12, .string a0_13, .string a0_14, .int .i64 a0_15] 27))
  have HK := Aside0.mk (blk_new w (.cells #[.string a0_0, .string a0_1, .int .i64 a0_2, .slice A0_3 l0_3.length c0_3, .slice A0_4 l0_4.length c0_4, .string a0_5, .string a0_6, .string a0_7, .string a0_8, .bool a0_9, .slice A0_10 l0_10.length c0_10, .int .i64 a0_11, .string a0_12, .string a0_13, .string a0_14, .int .i64 a0_15] 27))
  have HW := Aside0.mk (Nat.le_refl w.heap.size)
  clear hc3 hc4 hc10 hr3 hr4 hr10
  go_enter Try.func3, Try.ntmps3
  go_upto_region 1 with (fail)
  obtain ⟨W1, hW1⟩ : ∃ W1, w.alloc (.cells #[.string a0_0, .string a0_1, .int .i64 a0_2, .slice A0_3 l0_3.length c0_3, .slice A0_4 l0_4.length c0_4, .string a0_5, .string a0_6, .string a0_7, .string a0_8, .bool a0_9, .slice A0_10 l0_10.length c0_10, .int .i64 a0_11, .string a0_12, .string a0_13, .string a0_14, .int .i64 a0_15] 27) = W1 := ⟨_, rfl⟩
  obtain ⟨g2, hg2⟩ : ∃ g2, w.heap.size = g2 := ⟨_, rfl⟩
  rw [hW1] at HR3 HR4 HR10 HB HK ⊢
  clear hW1
  have HG := Aside0.mk hg2
  rw [hg2] at HK
  (conv in (occs := *) (Value.pointer (some ⟨w.heap.size, 0, none⟩)) => all_goals rw [hg2])
  clear hg2
  obtain ⟨cz0, cz1, cz2, cz3, cz4, cz5, cz6, cz7, cz8, cz9, cz10, cz11, cz12, cz13, cz14, cz15⟩ := fm_cells HK.out
  as_aux_lemma =>
  go_upto_region 3 with (go_at_call 9; (with_reducible refine (fleuronlaw9_few.calls k a0_0 a0_1 a0_2 A0_3 c0_3 l0_3 A0_4 c0_4 l0_4 a0_5 a0_6 a0_7 a0_8 a0_9 A0_10 c0_10 l0_10 a0_11 a0_12 a0_13 a0_14 a0_15 _ _ HR3.out HC3.out HR4.out HC4.out HR10.out HC10.out HF.out).mono ?_); rintro e w300 ⟨rfl, hb⟩; have n0_ := Aside0.mk (below_step (by repeat (first | (with_reducible first | exact HB.out | apply below_alloc | apply pw_below_drewN | apply below_drew1) | exact HB.out)) hb); clear HB; have HB := n0_; clear n0_; have n1_ := Aside0.mk (Kd.C_below HR3.out hb); clear HR3; have HR3 := n1_; clear n1_; have n1_ := Aside0.mk (Kd.C_below HR4.out hb); clear HR4; have HR4 := n1_; clear n1_; have n1_ := Aside0.mk (Kd.C_below HR10.out hb); clear HR10; have HR10 := n1_; clear n1_; have n2_ := Aside0.mk (blk_below HK.out hb); clear HK; have HK := n2_; clear n2_; clear cz0 cz1 cz2 cz3 cz4 cz5 cz6 cz7 cz8 cz9 cz10 cz11 cz12 cz13 cz14 cz15; obtain ⟨cz0, cz1, cz2, cz3, cz4, cz5, cz6, cz7, cz8, cz9, cz10, cz11, cz12, cz13, cz14, cz15⟩ := fm_cells HK.out; clear hb)
  as_aux_lemma =>
  go_upto_region 4 with (go_at_call 11; (with_reducible refine (system_Signs.calls k a0_0 a0_1 a0_2 A0_3 c0_3 l0_3 A0_4 c0_4 l0_4 a0_5 a0_6 a0_7 a0_8 a0_9 A0_10 c0_10 l0_10 a0_11 a0_12 a0_13 a0_14 a0_15 a1 _ _ _ HR3.out HC3.out HR4.out HC4.out HR10.out HC10.out HS.out).mono ?_); rintro e w301 ⟨rfl, hb⟩; have n0_ := Aside0.mk (below_step (by repeat (first | (with_reducible first | exact HB.out | apply below_alloc | apply pw_below_drewN | apply below_drew1) | exact HB.out)) hb); clear HB; have HB := n0_; clear n0_; have n1_ := Aside0.mk (Kd.C_below HR3.out hb); clear HR3; have HR3 := n1_; clear n1_; have n1_ := Aside0.mk (Kd.C_below HR4.out hb); clear HR4; have HR4 := n1_; clear n1_; have n1_ := Aside0.mk (Kd.C_below HR10.out hb); clear HR10; have HR10 := n1_; clear n1_; have n2_ := Aside0.mk (blk_below HK.out hb); clear HK; have HK := n2_; clear n2_; clear cz0 cz1 cz2 cz3 cz4 cz5 cz6 cz7 cz8 cz9 cz10 cz11 cz12 cz13 cz14 cz15; obtain ⟨cz0, cz1, cz2, cz3, cz4, cz5, cz6, cz7, cz8, cz9, cz10, cz11, cz12, cz13, cz14, cz15⟩ := fm_cells HK.out; clear hb)
  as_aux_lemma =>
  go_upto_region 8 with (go_at_call 12; (with_reducible refine (system_May.calls k a0_0 a0_1 a0_2 A0_3 c0_3 l0_3 A0_4 c0_4 l0_4 a0_5 a0_6 a0_7 a0_8 a0_9 A0_10 c0_10 l0_10 a0_11 a0_12 a0_13 a0_14 a0_15 _ _ HR3.out HC3.out HR4.out HC4.out HR10.out HC10.out HM.out).mono ?_); rintro e w302 ⟨rfl, hb⟩; have n0_ := Aside0.mk (below_step (by repeat (first | (with_reducible first | exact HB.out | apply below_alloc | apply pw_below_drewN | apply below_drew1) | exact HB.out)) hb); clear HB; have HB := n0_; clear n0_; have n1_ := Aside0.mk (Kd.C_below HR3.out hb); clear HR3; have HR3 := n1_; clear n1_; have n1_ := Aside0.mk (Kd.C_below HR4.out hb); clear HR4; have HR4 := n1_; clear n1_; have n1_ := Aside0.mk (Kd.C_below HR10.out hb); clear HR10; have HR10 := n1_; clear n1_; have n2_ := Aside0.mk (blk_below HK.out hb); clear HK; have HK := n2_; clear n2_; clear cz0 cz1 cz2 cz3 cz4 cz5 cz6 cz7 cz8 cz9 cz10 cz11 cz12 cz13 cz14 cz15; obtain ⟨cz0, cz1, cz2, cz3, cz4, cz5, cz6, cz7, cz8, cz9, cz10, cz11, cz12, cz13, cz14, cz15⟩ := fm_cells HK.out; clear hb)
  as_aux_lemma =>
  go_upto_region 10 with (fail)
  have hb := below_alloc (Below.refl w302.heap.size w302) (.cells #[.string a0_0, .string a0_1, .int .i64 a0_2, .slice A0_3 l0_3.length c0_3, .slice A0_4 l0_4.length c0_4, .string a0_5, .string a0_6, .string a0_7, .string a0_8, .bool a0_9, .slice A0_10 l0_10.length c0_10, .int .i64 201, .string a0_12, .string a0_13, .string a0_14, .int .i64 a0_15] 27)
  have HE := Aside0.mk (blk_new w302 (.cells #[.string a0_0, .string a0_1, .int .i64 a0_2, .slice A0_3 l0_3.length c0_3, .slice A0_4 l0_4.length c0_4, .string a0_5, .string a0_6, .string a0_7, .string a0_8, .bool a0_9, .slice A0_10 l0_10.length c0_10, .int .i64 201, .string a0_12, .string a0_13, .string a0_14, .int .i64 a0_15] 27))
  obtain ⟨W3, hW3⟩ : ∃ W_, w302.alloc (.cells #[.string a0_0, .string a0_1, .int .i64 a0_2, .slice A0_3 l0_3.length c0_3, .slice A0_4 l0_4.length c0_4, .string a0_5, .string a0_6, .string a0_7, .string a0_8, .bool a0_9, .slice A0_10 l0_10.length c0_10, .int .i64 201, .string a0_12, .string a0_13, .string a0_14, .int .i64 a0_15] 27) = W_ := ⟨_, rfl⟩
  obtain ⟨g7, hg3⟩ : ∃ g3, w302.heap.size = g3 := ⟨_, rfl⟩
  rw [hW3] at HE hb ⊢
  clear hW3
  rw [hg3] at HE
  (conv in (occs := *) (Value.pointer (some ⟨w302.heap.size, _, none⟩)) => all_goals rw [hg3])
  clear hg3
  have n0_ := Aside0.mk (below_step (by repeat (first | (with_reducible first | exact HB.out | apply below_alloc | apply pw_below_drewN | apply below_drew1) | exact HB.out)) hb); clear HB; have HB := n0_; clear n0_; have n1_ := Aside0.mk (Kd.C_below HR3.out hb); clear HR3; have HR3 := n1_; clear n1_; have n1_ := Aside0.mk (Kd.C_below HR4.out hb); clear HR4; have HR4 := n1_; clear n1_; have n1_ := Aside0.mk (Kd.C_below HR10.out hb); clear HR10; have HR10 := n1_; clear n1_; have n2_ := Aside0.mk (blk_below HK.out hb); clear HK; have HK := n2_; clear n2_; clear cz0 cz1 cz2 cz3 cz4 cz5 cz6 cz7 cz8 cz9 cz10 cz11 cz12 cz13 cz14 cz15; obtain ⟨cz0, cz1, cz2, cz3, cz4, cz5, cz6, cz7, cz8, cz9, cz10, cz11, cz12, cz13, cz14, cz15⟩ := fm_cells HK.out; clear hb
  obtain ⟨ce0, ce1, ce2, ce3, ce4, ce5, ce6, ce7, ce8, ce9, ce10, ce11, ce12, ce13, ce14, ce15⟩ := fm_cells HE.out
  as_aux_lemma =>
  go_upto_region 11 with (fail)
  have hb := below_alloc (Below.refl W3.heap.size W3) (.cells #[.string a0_0, .string a0_1, .int .i64 a0_2, .slice A0_3 l0_3.length c0_3, .slice A0_4 l0_4.length c0_4, .string a0_5, .string a0_6, .string a0_7, .string a0_8, .bool a0_9, .slice A0_10 l0_10.length c0_10, .int .i64 a0_11, .string a0_12, .string a0_13, .string a0_14, .int .i64 a0_15] 27)
  have HL := Aside0.mk (blk_new W3 (.cells #[.string a0_0, .string a0_1, .int .i64 a0_2, .slice A0_3 l0_3.length c0_3, .slice A0_4 l0_4.length c0_4, .string a0_5, .string a0_6, .string a0_7, .string a0_8, .bool a0_9, .slice A0_10 l0_10.length c0_10, .int .i64 a0_11, .string a0_12, .string a0_13, .string a0_14, .int .i64 a0_15] 27))
  obtain ⟨W4, hW3⟩ : ∃ W_, W3.alloc (.cells #[.string a0_0, .string a0_1, .int .i64 a0_2, .slice A0_3 l0_3.length c0_3, .slice A0_4 l0_4.length c0_4, .string a0_5, .string a0_6, .string a0_7, .string a0_8, .bool a0_9, .slice A0_10 l0_10.length c0_10, .int .i64 a0_11, .string a0_12, .string a0_13, .string a0_14, .int .i64 a0_15] 27) = W_ := ⟨_, rfl⟩
  obtain ⟨g8, hg3⟩ : ∃ g3, W3.heap.size = g3 := ⟨_, rfl⟩
  rw [hW3] at HL hb ⊢
  clear hW3
  rw [hg3] at HL
  (conv in (occs := *) (Value.pointer (some ⟨W3.heap.size, _, none⟩)) => all_goals rw [hg3])
  have GE8 := Aside0.mk (Nat.le_of_eq hg3)
  have HX := Aside0.mk hb
  clear hb hg3
  go_upto_region 12 with ((with_reducible refine gate_dst (N := 48) rfl ?_); refine Kd.R_make (Kd.int .u8) _ 5 rfl (N := 48) rfl 32 _ _ rfl 101 rfl rfl Try.underlying32 (.int .u8 0) 1 info5 rfl (by decide) (by omega) 0 (ok := fun _ => True) (okp := fun _ => True) rfl (fun _ hk => hk) trivial (by omega) (by omega) (Below.refl _ _) (Nat.le_refl _) ?_; intro v439 w37 ho hb hg_ hnew_; clear hg_ hnew_; have hcv39 := own_string (P := Try.prog) Try.underlying32 Try.underlying5 Try.underlying9 (Kd.own_of_R ho); clear ho; simp only [Int.reduceToNat] at hcv39; rw [hZ] at hcv39; have n1_ := Aside0.mk (below_step HX.out hb); clear HX; have HX := n1_; clear n1_; have n1_ := Aside0.mk (blk_below HL.out hb); clear HL; have HL := n1_; clear n1_; clear hb; have hfz7 := blk_frozen HL.out 7; have hcf7 : w37.cell? ⟨g8, 7, none⟩ = some (.string a0_7) := (blk_cell HL.out 7).trans rfl)
  have hb := below_set HX.out GE8.out (j := 7) (v := .string Z)
  have HL5 : (w37.setCell ⟨g8, 7, none⟩ (.string Z)).heap[g8]? = some (.cells #[.string a0_0, .string a0_1, .int .i64 a0_2, .slice A0_3 l0_3.length c0_3, .slice A0_4 l0_4.length c0_4, .string a0_5, .string a0_6, .string Z, .string a0_8, .bool a0_9, .slice A0_10 l0_10.length c0_10, .int .i64 a0_11, .string a0_12, .string a0_13, .string a0_14, .int .i64 a0_15] 27 (0, 0)) := blk_set HL.out 7 _
  obtain ⟨W5, hW5⟩ : ∃ W_, w37.setCell ⟨g8, 7, none⟩ (.string Z) = W_ := ⟨_, rfl⟩
  rw [hW5] at hb HL5 ⊢
  clear hW5 HL HX GE8 hcv39 hfz7 hcf7
  have HL := Aside0.mk HL5
  clear HL5
  have n0_ := Aside0.mk (below_step (by repeat (first | (with_reducible first | exact HB.out | apply below_alloc | apply pw_below_drewN | apply below_drew1) | exact HB.out)) hb); clear HB; have HB := n0_; clear n0_; have n1_ := Aside0.mk (Kd.C_below HR3.out hb); clear HR3; have HR3 := n1_; clear n1_; have n1_ := Aside0.mk (Kd.C_below HR4.out hb); clear HR4; have HR4 := n1_; clear n1_; have n1_ := Aside0.mk (Kd.C_below HR10.out hb); clear HR10; have HR10 := n1_; clear n1_; have n2_ := Aside0.mk (blk_below HK.out hb); clear HK; have HK := n2_; clear n2_; clear cz0 cz1 cz2 cz3 cz4 cz5 cz6 cz7 cz8 cz9 cz10 cz11 cz12 cz13 cz14 cz15; obtain ⟨cz0, cz1, cz2, cz3, cz4, cz5, cz6, cz7, cz8, cz9, cz10, cz11, cz12, cz13, cz14, cz15⟩ := fm_cells HK.out; have n2_ := Aside0.mk (blk_below HE.out hb); clear HE; have HE := n2_; clear n2_; clear ce0 ce1 ce2 ce3 ce4 ce5 ce6 ce7 ce8 ce9 ce10 ce11 ce12 ce13 ce14 ce15; obtain ⟨ce0, ce1, ce2, ce3, ce4, ce5, ce6, ce7, ce8, ce9, ce10, ce11, ce12, ce13, ce14, ce15⟩ := fm_cells HE.out; clear hb
  obtain ⟨cf0, cf1, cf2, cf3, cf4, cf5, cf6, cf7, cf8, cf9, cf10, cf11, cf12, cf13, cf14, cf15⟩ := fm_cells HL.out
  as_aux_lemma =>
  go_wp2_with (first
    | (go_at_call 12; (with_reducible refine (system_May.calls k a0_0 a0_1 a0_2 A0_3 c0_3 l0_3 A0_4 c0_4 l0_4 a0_5 a0_6 a0_7 a0_8 a0_9 A0_10 c0_10 l0_10 201 a0_12 a0_13 a0_14 a0_15 _ _ HR3.out HC3.out HR4.out HC4.out HR10.out HC10.out HME.out).mono ?_); rintro e w304 ⟨rfl, hb⟩; have n0_ := Aside0.mk (below_step (by repeat (first | (with_reducible first | exact HB.out | apply below_alloc | apply pw_below_drewN | apply below_drew1) | exact HB.out)) hb); clear HB; have HB := n0_; clear n0_; have n1_ := Aside0.mk (Kd.C_below HR3.out hb); clear HR3; have HR3 := n1_; clear n1_; have n1_ := Aside0.mk (Kd.C_below HR4.out hb); clear HR4; have HR4 := n1_; clear n1_; have n1_ := Aside0.mk (Kd.C_below HR10.out hb); clear HR10; have HR10 := n1_; clear n1_; have n2_ := Aside0.mk (blk_below HK.out hb); clear HK; have HK := n2_; clear n2_; clear cz0 cz1 cz2 cz3 cz4 cz5 cz6 cz7 cz8 cz9 cz10 cz11 cz12 cz13 cz14 cz15; obtain ⟨cz0, cz1, cz2, cz3, cz4, cz5, cz6, cz7, cz8, cz9, cz10, cz11, cz12, cz13, cz14, cz15⟩ := fm_cells HK.out; have n2_ := Aside0.mk (blk_below HE.out hb); clear HE; have HE := n2_; clear n2_; clear ce0 ce1 ce2 ce3 ce4 ce5 ce6 ce7 ce8 ce9 ce10 ce11 ce12 ce13 ce14 ce15; obtain ⟨ce0, ce1, ce2, ce3, ce4, ce5, ce6, ce7, ce8, ce9, ce10, ce11, ce12, ce13, ce14, ce15⟩ := fm_cells HE.out; have n2_ := Aside0.mk (blk_below HL.out hb); clear HL; have HL := n2_; clear n2_; clear cf0 cf1 cf2 cf3 cf4 cf5 cf6 cf7 cf8 cf9 cf10 cf11 cf12 cf13 cf14 cf15; obtain ⟨cf0, cf1, cf2, cf3, cf4, cf5, cf6, cf7, cf8, cf9, cf10, cf11, cf12, cf13, cf14, cf15⟩ := fm_cells HL.out; clear hb)
    | (go_at_call 12; (with_reducible refine (system_May.calls k a0_0 a0_1 a0_2 A0_3 c0_3 l0_3 A0_4 c0_4 l0_4 a0_5 a0_6 Z a0_8 a0_9 A0_10 c0_10 l0_10 a0_11 a0_12 a0_13 a0_14 a0_15 _ _ HR3.out HC3.out HR4.out HC4.out HR10.out HC10.out HMF.out).mono ?_); rintro e w305 ⟨rfl, hb⟩; have n0_ := Aside0.mk (below_step (by repeat (first | (with_reducible first | exact HB.out | apply below_alloc | apply pw_below_drewN | apply below_drew1) | exact HB.out)) hb); clear HB; have HB := n0_; clear n0_; have n1_ := Aside0.mk (Kd.C_below HR3.out hb); clear HR3; have HR3 := n1_; clear n1_; have n1_ := Aside0.mk (Kd.C_below HR4.out hb); clear HR4; have HR4 := n1_; clear n1_; have n1_ := Aside0.mk (Kd.C_below HR10.out hb); clear HR10; have HR10 := n1_; clear n1_; clear hb)
    | (go_at_call 10; (with_reducible refine (fleuronlaw9_awake.calls true _ rfl rfl).mono ?_); rintro e w303 ⟨rfl, hb⟩; have n0_ := Aside0.mk (below_step (by repeat (first | (with_reducible first | exact HB.out | apply below_alloc | apply pw_below_drewN | apply below_drew1) | exact HB.out)) hb); clear HB; have HB := n0_; clear n0_; have n1_ := Aside0.mk (Kd.C_below HR3.out hb); clear HR3; have HR3 := n1_; clear n1_; have n1_ := Aside0.mk (Kd.C_below HR4.out hb); clear HR4; have HR4 := n1_; clear n1_; have n1_ := Aside0.mk (Kd.C_below HR10.out hb); clear HR10; have HR10 := n1_; clear n1_; clear hb))
  go_ret
  exact ⟨rfl, HB.out⟩

end Go.Proofs.Ytalegejfellbdaa.Print
