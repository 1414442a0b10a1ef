/- SystemForms, by hand (mkforms.py). -/
import Derived.Test.YtalegejfellbdaaPrint0
import Derived.Test.YtalegejfellbdaaPrint5
import Derived.Test.YtalegejfellbdaaPrint11
import Derived.Test.YtalegejfellbdaaPrint15
import Derived.Test.YtalegejfellbdaaPrint20
import Derived.Lib.Hide
import Derived.Lib.OthersKept
import Derived.Lib.SliceRun
import Derived.Shelf.Abstract
import Derived.Shelf.RegionOpen
import Derived.OwnWalkIn
import Derived.TacticsInMore
import Derived.LoopNIn
import Derived.LoopIn
import Derived.Outline
import Derived.Lib.ConvBytes
import Derived.Deep.RegionLaw
import Derived.Deep.RegionWith
import Derived.Deep.RegionHeld3
import Derived.Deep.AppendLies
import Derived.Deep.DrawnRows
namespace Go.Proofs.Ytalegejfellbdaa.Print
open Go.RowKit Go.Proofs.YtalegejfellbdaaW.PrintWords Go.Proofs.YtalegejfellbdaaW.PrintLast Go.Proofs.YtalegejfellbdaaW.PrintMore
attribute [local go_sem] max2_int min2_int max_two min_two max_three min_three max_four min_four   -- for this text's walks alone
set_option linter.unusedVariables false
set_option linter.unusedSimpArgs false
open Go.Shelf in
theorem fm_cells {W : World} {g : Nat} {v0 v1 v2 v3 v4 v5 v6 v7 v8 v9 v10 v11 v12 v13 v14 v15 : Value} (h : W.heap[g]? = some (.cells #[v0, v1, v2, v3, v4, v5, v6, v7, v8, v9, v10, v11, v12, v13, v14, v15] 27 (0, 0))) : W.cell? ⟨g, 0, none⟩ = some v0 ∧ W.cell? ⟨g, 1, none⟩ = some v1 ∧ W.cell? ⟨g, 2, none⟩ = some v2 ∧ W.cell? ⟨g, 3, none⟩ = some v3 ∧ W.cell? ⟨g, 4, none⟩ = some v4 ∧ W.cell? ⟨g, 5, none⟩ = some v5 ∧ W.cell? ⟨g, 6, none⟩ = some v6 ∧ W.cell? ⟨g, 7, none⟩ = some v7 ∧ W.cell? ⟨g, 8, none⟩ = some v8 ∧ W.cell? ⟨g, 9, none⟩ = some v9 ∧ W.cell? ⟨g, 10, none⟩ = some v10 ∧ W.cell? ⟨g, 11, none⟩ = some v11 ∧ W.cell? ⟨g, 12, none⟩ = some v12 ∧ W.cell? ⟨g, 13, none⟩ = some v13 ∧ W.cell? ⟨g, 14, none⟩ = some v14 ∧ W.cell? ⟨g, 15, none⟩ = some v15 := ⟨(blk_cell h 0).trans rfl, (blk_cell h 1).trans rfl, (blk_cell h 2).trans rfl, (blk_cell h 3).trans rfl, (blk_cell h 4).trans rfl, (blk_cell h 5).trans rfl, (blk_cell h 6).trans rfl, (blk_cell h 7).trans rfl, (blk_cell h 8).trans rfl, (blk_cell h 9).trans rfl, (blk_cell h 10).trans rfl, (blk_cell h 11).trans rfl, (blk_cell h 12).trans rfl, (blk_cell h 13).trans rfl, (blk_cell h 14).trans rfl, (blk_cell h 15).trans rfl⟩
set_option maxHeartbeats 20000000 in
set_option maxRecDepth 100000 in
theorem fm_a (k : Nat) (a0_0 : ByteArray) (a0_1 : ByteArray) (a0_2 : Int) (A0_3 : Option Addr) (c0_3 : Nat) (l0_3 : List ByteArray) (A0_4 : Option Addr) (c0_4 : Nat) (l0_4 : List Int) (a0_5 : ByteArray) (a0_6 : ByteArray) (a0_7 : ByteArray) (a0_8 : ByteArray) (a0_9 : Bool) (A0_10 : Option Addr) (c0_10 : Nat) (l0_10 : List (S41)) (a0_11 : Int) (a0_12 : ByteArray) (a0_13 : ByteArray) (a0_14 : ByteArray) (a0_15 : Int) (a1 : Int) (HF : Aside0 (fleuronlaw9_few.f k a0_0 a0_1 a0_2 l0_3 l0_4 a0_5 a0_6 a0_7 a0_8 a0_9 l0_10 a0_11 a0_12 a0_13 a0_14 a0_15 = some false)) (w : World) (hr3 : Kd.C Kd.string w A0_3 l0_3.length l0_3) (hc3 : l0_3.length ≤ c0_3) (hr4 : Kd.C (Kd.int .i64) w A0_4 l0_4.length l0_4) (hc4 : l0_4.length ≤ c0_4) (hr10 : Kd.C k41 w A0_10 l0_10.length l0_10) (hc10 : l0_10.length ≤ c0_10) :
    Calls Try.prog 3 #[.agg #[.string a0_0, .string a0_1, .int .i64 a0_2, .slice A0_3 l0_3.length c0_3, .slice A0_4 l0_4.length c0_4, .string a0_5, .string a0_6, .string a0_7, .string a0_8, .bool a0_9, .slice A0_10 l0_10.length c0_10, .int .i64 a0_11, .string a0_12, .string a0_13, .string a0_14, .int .i64 a0_15], .int .i64 a1] w fun e w' => e = .returned (.bool true) ∧ Below w.heap.size w w' := by
  have hu27 := Try.underlying27
  have HC3 := Aside0.mk hc3
  have HC4 := Aside0.mk hc4
  have HC10 := Aside0.mk hc10
  have HR3 := Aside0.mk (Kd.C_alloc hr3 (.cells #[.string a0_0, .string a0_1, .int .i64 a0_2, .slice A0_3 l0_3.length c0_3, .slice A0_4 l0_4.length c0_4, .string a0_5, .string a0_6, .string a0_7, .string a0_8, .bool a0_9, .slice A0_10 l0_10.length c0_10, .int .i64 a0_11, .string a0_12, .string a0_13, .string a0_14, .int .i64 a0_15] 27))
  have HR4 := Aside0.mk (Kd.C_alloc hr4 (.cells #[.string a0_0, .string a0_1, .int .i64 a0_2, .slice A0_3 l0_3.length c0_3, .slice A0_4 l0_4.length c0_4, .string a0_5, .string a0_6, .string a0_7, .string a0_8, .bool a0_9, .slice A0_10 l0_10.length c0_10, .int .i64 a0_11, .string a0_12, .string a0_13, .string a0_14, .int .i64 a0_15] 27))
  have HR10 := Aside0.mk (Kd.C_alloc hr10 (.cells #[.string a0_0, .string a0_1, .int .i64 a0_2, .slice A0_3 l0_3.length c0_3, .slice A0_4 l0_4.length c0_4, .string a0_5, .string a0_6, .string a0_7, .string a0_8, .bool a0_9, .slice A0_10 l0_10.length c0_10, .int .i64 a0_11, .string a0_12, .string a0_13, .string a0_14, .int .i64 a0_15] 27))
  have HB := Aside0.mk (below_alloc (Below.refl w.heap.size w) (.cells #[.string a0_0, .string a0_1, .int .i64 a0_2, .slice A0_3 l0_3.length c0_3, .slice A0_4 l0_4.length c0_4, .string a0_5, .string a0_6, .string a0_7, .string a0_8, .bool a0_9, .slice A0_10 l0_10.length c0_10, .int .i64 a0_11, .string a0_12, .string a0_13, .string a0_14, .int .i64 a0_15] 27))
  have HK := Aside0.mk (blk_new w (.cells #[.string a0_0, .string a0_1, .int .i64 a0_2, .slice A0_3 l0_3.length c0_3, .slice A0_4 l0_4.length c0_4, .string a0_5, .string a0_6, .string a0_7, .string a0_8, .bool a0_9, .slice A0_10 l0_10.length c0_10, .int .i64 a0_11, .string a0_12, .string a0_13, .string a0_14, .int .i64 a0_15] 27))
  have HW := Aside0.mk (Nat.le_refl w.heap.size)
  clear hc3 hc4 hc10 hr3 hr4 hr10
  go_enter Try.func3, Try.ntmps3
  go_upto_region 1 with (fail)
  obtain ⟨W1, hW1⟩ : ∃ W1, w.alloc (.cells #[.string a0_0, .string a0_1, .int .i64 a0_2, .slice A0_3 l0_3.length c0_3, .slice A0_4 l0_4.length c0_4, .string a0_5, .string a0_6, .string a0_7, .string a0_8, .bool a0_9, .slice A0_10 l0_10.length c0_10, .int .i64 a0_11, .string a0_12, .string a0_13, .string a0_14, .int .i64 a0_15] 27) = W1 := ⟨_, rfl⟩
  obtain ⟨g2, hg2⟩ : ∃ g2, w.heap.size = g2 := ⟨_, rfl⟩
  rw [hW1] at HR3 HR4 HR10 HB HK ⊢
  clear hW1
  have HG := Aside0.mk hg2
  rw [hg2] at HK
  (conv in (occs := *) (Value.pointer (some ⟨w.heap.size, 0, none⟩)) => all_goals rw [hg2])
  clear hg2
  obtain ⟨cz0, cz1, cz2, cz3, cz4, cz5, cz6, cz7, cz8, cz9, cz10, cz11, cz12, cz13, cz14, cz15⟩ := fm_cells HK.out
  go_wp2_with (first
    | (go_at_call 9; (with_reducible refine (fleuronlaw9_few.calls k a0_0 a0_1 a0_2 A0_3 c0_3 l0_3 A0_4 c0_4 l0_4 a0_5 a0_6 a0_7 a0_8 a0_9 A0_10 c0_10 l0_10 a0_11 a0_12 a0_13 a0_14 a0_15 _ _ HR3.out HC3.out HR4.out HC4.out HR10.out HC10.out HF.out).mono ?_); rintro e w300 ⟨rfl, hb⟩; have n0_ := Aside0.mk (below_step (by repeat (first | (with_reducible first | exact HB.out | apply below_alloc | apply pw_below_drewN | apply below_drew1) | exact HB.out)) hb); clear HB; have HB := n0_; clear n0_; have n1_ := Aside0.mk (Kd.C_below HR3.out hb); clear HR3; have HR3 := n1_; clear n1_; have n1_ := Aside0.mk (Kd.C_below HR4.out hb); clear HR4; have HR4 := n1_; clear n1_; have n1_ := Aside0.mk (Kd.C_below HR10.out hb); clear HR10; have HR10 := n1_; clear n1_; have n2_ := Aside0.mk (blk_below HK.out hb); clear HK; have HK := n2_; clear n2_; clear cz0 cz1 cz2 cz3 cz4 cz5 cz6 cz7 cz8 cz9 cz10 cz11 cz12 cz13 cz14 cz15; obtain ⟨cz0, cz1, cz2, cz3, cz4, cz5, cz6, cz7, cz8, cz9, cz10, cz11, cz12, cz13, cz14, cz15⟩ := fm_cells HK.out; clear hb)
    | (go_at_call 10; (with_reducible refine (fleuronlaw9_awake.calls true _ rfl rfl).mono ?_); rintro e w303 ⟨rfl, hb⟩; have n0_ := Aside0.mk (below_step (by repeat (first | (with_reducible first | exact HB.out | apply below_alloc | apply pw_below_drewN | apply below_drew1) | exact HB.out)) hb); clear HB; have HB := n0_; clear n0_; have n1_ := Aside0.mk (Kd.C_below HR3.out hb); clear HR3; have HR3 := n1_; clear n1_; have n1_ := Aside0.mk (Kd.C_below HR4.out hb); clear HR4; have HR4 := n1_; clear n1_; have n1_ := Aside0.mk (Kd.C_below HR10.out hb); clear HR10; have HR10 := n1_; clear n1_; clear hb))
  go_ret
  exact ⟨rfl, HB.out⟩
set_option maxHeartbeats 20000000 in
set_option maxRecDepth 100000 in
theorem fm_b (k : Nat) (a0_0 : ByteArray) (a0_1 : ByteArray) (a0_2 : Int) (A0_3 : Option Addr) (c0_3 : Nat) (l0_3 : List ByteArray) (A0_4 : Option Addr) (c0_4 : Nat) (l0_4 : List Int) (a0_5 : ByteArray) (a0_6 : ByteArray) (a0_7 : ByteArray) (a0_8 : ByteArray) (a0_9 : Bool) (A0_10 : Option Addr) (c0_10 : Nat) (l0_10 : List (S41)) (a0_11 : Int) (a0_12 : ByteArray) (a0_13 : ByteArray) (a0_14 : ByteArray) (a0_15 : Int) (a1 : Int) (HF : Aside0 (fleuronlaw9_few.f k a0_0 a0_1 a0_2 l0_3 l0_4 a0_5 a0_6 a0_7 a0_8 a0_9 l0_10 a0_11 a0_12 a0_13 a0_14 a0_15 = some true)) (HS : Aside0 (system_Signs.f k a0_0 a0_1 a0_2 l0_3 l0_4 a0_5 a0_6 a0_7 a0_8 a0_9 l0_10 a0_11 a0_12 a0_13 a0_14 a0_15 a1 = some ((⟨#[]⟩ : ByteArray), false))) (HM : Aside0 (system_May.f k a0_0 a0_1 a0_2 l0_3 l0_4 a0_5 a0_6 a0_7 a0_8 a0_9 l0_10 a0_11 a0_12 a0_13 a0_14 a0_15 = some false)) (w : World) (hr3 : Kd.C Kd.string w A0_3 l0_3.length l0_3) (hc3 : l0_3.length ≤ c0_3) (hr4 : Kd.C (Kd.int .i64) w A0_4 l0_4.length l0_4) (hc4 : l0_4.length ≤ c0_4) (hr10 : Kd.C k41 w A0_10 l0_10.length l0_10) (hc10 : l0_10.length ≤ c0_10) :
    Calls Try.prog 3 #[.agg #[.string a0_0, .string a0_1, .int .i64 a0_2, .slice A0_3 l0_3.length c0_3, .slice A0_4 l0_4.length c0_4, .string a0_5, .string a0_6, .string a0_7, .string a0_8, .bool a0_9, .slice A0_10 l0_10.length c0_10, .int .i64 a0_11, .string a0_12, .string a0_13, .string a0_14, .int .i64 a0_15], .int .i64 a1] w fun e w' => e = .returned (.bool true) ∧ Below w.heap.size w w' := by
  have hu27 := Try.underlying27
  have HC3 := Aside0.mk hc3
  have HC4 := Aside0.mk hc4
  have HC10 := Aside0.mk hc10
  have HR3 := Aside0.mk (Kd.C_alloc hr3 (.cells #[.string a0_0, .string a0_1, .int .i64 a0_2, .slice A0_3 l0_3.length c0_3, .slice A0_4 l0_4.length c0_4, .string a0_5, .string a0_6, .string a0_7, .string a0_8, .bool a0_9, .slice A0_10 l0_10.length c0_10, .int .i64 a0_11, .string a0_12, .string a0_13, .string a0_14, .int .i64 a0_15] 27))
  have HR4 := Aside0.mk (Kd.C_alloc hr4 (.cells #[.string a0_0, .string a0_1, .int .i64 a0_2, .slice A0_3 l0_3.length c0_3, .slice A0_4 l0_4.length c0_4, .string a0_5, .string a0_6, .string a0_7, .string a0_8, .bool a0_9, .slice A0_10 l0_10.length c0_10, .int .i64 a0_11, .string a0_12, .string a0_13, .string a0_14, .int .i64 a0_15] 27))
  have HR10 := Aside0.mk (Kd.C_alloc hr10 (.cells #[.string a0_0, .string a0_1, .int .i64 a0_2, .slice A0_3 l0_3.length c0_3, .slice A0_4 l0_4.length c0_4, .string a0_5, .string a0_6, .string a0_7, .string a0_8, .bool a0_9, .slice A0_10 l0_10.length c0_10, .int .i64 a0_11, .string a0_12, .string a0_13, .string a0_14, .int .i64 a0_15] 27))
  have HB := Aside0.mk (below_alloc (Below.refl w.heap.size w) (.cells #[.string a0_0, .string a0_1, .int .i64 a0_2, .slice A0_3 l0_3.length c0_3, .slice A0_4 l0_4.length c0_4, .string a0_5, .string a0_6, .string a0_7, .string a0_8, .bool a0_9, .slice A0_10 l0_10.length c0_10, .int .i64 a0_11, .string a0_12, .string a0_13, .string a0_14, .int .i64 a0_15] 27))
  have HK := Aside0.mk (blk_new w (.cells #[.string a0_0, .string a0_1, .int .i64 a0_2, .slice A0_3 l0_3.length c0_3, .slice A0_4 l0_4.length c0_4, .string a0_5, .string a0_6, .string a0_7, .string a0_8, .bool a0_9, .slice A0_10 l0_10.length c0_10, .int .i64 a0_11, .string a0_12, .string a0_13, .string a0_14, .int .i64 a0_15] 27))
  have HW := Aside0.mk (Nat.le_refl w.heap.size)
  clear hc3 hc4 hc10 hr3 hr4 hr10
  go_enter Try.func3, Try.ntmps3
  go_upto_region 1 with (fail)
  obtain ⟨W1, hW1⟩ : ∃ W1, w.alloc (.cells #[.string a0_0, .string a0_1, .int .i64 a0_2, .slice A0_3 l0_3.length c0_3, .slice A0_4 l0_4.length c0_4, .string a0_5, .string a0_6, .string a0_7, .string a0_8, .bool a0_9, .slice A0_10 l0_10.length c0_10, .int .i64 a0_11, .string a0_12, .string a0_13, .string a0_14, .int .i64 a0_15] 27) = W1 := ⟨_, rfl⟩
  obtain ⟨g2, hg2⟩ : ∃ g2, w.heap.size = g2 := ⟨_, rfl⟩
  rw [hW1] at HR3 HR4 HR10 HB HK ⊢
  clear hW1
  have HG := Aside0.mk hg2
  rw [hg2] at HK
  (conv in (occs := *) (Value.pointer (some ⟨w.heap.size, 0, none⟩)) => all_goals rw [hg2])
  clear hg2
  obtain ⟨cz0, cz1, cz2, cz3, cz4, cz5, cz6, cz7, cz8, cz9, cz10, cz11, cz12, cz13, cz14, cz15⟩ := fm_cells HK.out
  go_wp2_with (first
    | (go_at_call 9; (with_reducible refine (fleuronlaw9_few.calls k a0_0 a0_1 a0_2 A0_3 c0_3 l0_3 A0_4 c0_4 l0_4 a0_5 a0_6 a0_7 a0_8 a0_9 A0_10 c0_10 l0_10 a0_11 a0_12 a0_13 a0_14 a0_15 _ _ HR3.out HC3.out HR4.out HC4.out HR10.out HC10.out HF.out).mono ?_); rintro e w300 ⟨rfl, hb⟩; have n0_ := Aside0.mk (below_step (by repeat (first | (with_reducible first | exact HB.out | apply below_alloc | apply pw_below_drewN | apply below_drew1) | exact HB.out)) hb); clear HB; have HB := n0_; clear n0_; have n1_ := Aside0.mk (Kd.C_below HR3.out hb); clear HR3; have HR3 := n1_; clear n1_; have n1_ := Aside0.mk (Kd.C_below HR4.out hb); clear HR4; have HR4 := n1_; clear n1_; have n1_ := Aside0.mk (Kd.C_below HR10.out hb); clear HR10; have HR10 := n1_; clear n1_; have n2_ := Aside0.mk (blk_below HK.out hb); clear HK; have HK := n2_; clear n2_; clear cz0 cz1 cz2 cz3 cz4 cz5 cz6 cz7 cz8 cz9 cz10 cz11 cz12 cz13 cz14 cz15; obtain ⟨cz0, cz1, cz2, cz3, cz4, cz5, cz6, cz7, cz8, cz9, cz10, cz11, cz12, cz13, cz14, cz15⟩ := fm_cells HK.out; clear hb)
    | (go_at_call 11; (with_reducible refine (system_Signs.calls k a0_0 a0_1 a0_2 A0_3 c0_3 l0_3 A0_4 c0_4 l0_4 a0_5 a0_6 a0_7 a0_8 a0_9 A0_10 c0_10 l0_10 a0_11 a0_12 a0_13 a0_14 a0_15 a1 _ _ _ HR3.out HC3.out HR4.out HC4.out HR10.out HC10.out HS.out).mono ?_); rintro e w301 ⟨rfl, hb⟩; have n0_ := Aside0.mk (below_step (by repeat (first | (with_reducible first | exact HB.out | apply below_alloc | apply pw_below_drewN | apply below_drew1) | exact HB.out)) hb); clear HB; have HB := n0_; clear n0_; have n1_ := Aside0.mk (Kd.C_below HR3.out hb); clear HR3; have HR3 := n1_; clear n1_; have n1_ := Aside0.mk (Kd.C_below HR4.out hb); clear HR4; have HR4 := n1_; clear n1_; have n1_ := Aside0.mk (Kd.C_below HR10.out hb); clear HR10; have HR10 := n1_; clear n1_; have n2_ := Aside0.mk (blk_below HK.out hb); clear HK; have HK := n2_; clear n2_; clear cz0 cz1 cz2 cz3 cz4 cz5 cz6 cz7 cz8 cz9 cz10 cz11 cz12 cz13 cz14 cz15; obtain ⟨cz0, cz1, cz2, cz3, cz4, cz5, cz6, cz7, cz8, cz9, cz10, cz11, cz12, cz13, cz14, cz15⟩ := fm_cells HK.out; clear hb)
    | (go_at_call 12; (with_reducible refine (system_May.calls k a0_0 a0_1 a0_2 A0_3 c0_3 l0_3 A0_4 c0_4 l0_4 a0_5 a0_6 a0_7 a0_8 a0_9 A0_10 c0_10 l0_10 a0_11 a0_12 a0_13 a0_14 a0_15 _ _ HR3.out HC3.out HR4.out HC4.out HR10.out HC10.out HM.out).mono ?_); rintro e w302 ⟨rfl, hb⟩; have n0_ := Aside0.mk (below_step (by repeat (first | (with_reducible first | exact HB.out | apply below_alloc | apply pw_below_drewN | apply below_drew1) | exact HB.out)) hb); clear HB; have HB := n0_; clear n0_; have n1_ := Aside0.mk (Kd.C_below HR3.out hb); clear HR3; have HR3 := n1_; clear n1_; have n1_ := Aside0.mk (Kd.C_below HR4.out hb); clear HR4; have HR4 := n1_; clear n1_; have n1_ := Aside0.mk (Kd.C_below HR10.out hb); clear HR10; have HR10 := n1_; clear n1_; have n2_ := Aside0.mk (blk_below HK.out hb); clear HK; have HK := n2_; clear n2_; clear cz0 cz1 cz2 cz3 cz4 cz5 cz6 cz7 cz8 cz9 cz10 cz11 cz12 cz13 cz14 cz15; obtain ⟨cz0, cz1, cz2, cz3, cz4, cz5, cz6, cz7, cz8, cz9, cz10, cz11, cz12, cz13, cz14, cz15⟩ := fm_cells HK.out; clear hb)
    | (go_at_call 10; (with_reducible refine (fleuronlaw9_awake.calls true _ rfl rfl).mono ?_); rintro e w303 ⟨rfl, hb⟩; have n0_ := Aside0.mk (below_step (by repeat (first | (with_reducible first | exact HB.out | apply below_alloc | apply pw_below_drewN | apply below_drew1) | exact HB.out)) hb); clear HB; have HB := n0_; clear n0_; have n1_ := Aside0.mk (Kd.C_below HR3.out hb); clear HR3; have HR3 := n1_; clear n1_; have n1_ := Aside0.mk (Kd.C_below HR4.out hb); clear HR4; have HR4 := n1_; clear n1_; have n1_ := Aside0.mk (Kd.C_below HR10.out hb); clear HR10; have HR10 := n1_; clear n1_; clear hb))
  go_ret
  exact ⟨rfl, HB.out⟩

end Go.Proofs.Ytalegejfellbdaa.Print
